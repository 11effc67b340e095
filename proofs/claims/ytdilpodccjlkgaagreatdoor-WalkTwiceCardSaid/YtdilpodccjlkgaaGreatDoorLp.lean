/- Keys that are structs: a place, a truth of a variable. No conditions. -/
import Derived.Test.YtdilpodccjlkgaaGreatDoorLo
import Derived.Test.YtdilpodccjlkgaaGreatDoorLn
import Derived.Test.YtdilpodccjlkgaaGreatDoorLj
import Derived.Test.YtdilpodccjlkgaaGreatDoorLm
import Derived.Test.YtdilpodccjlkgaaGreatDoorLc
import Derived.Test.YtdilpodccjlkgaaGreatDoorChecked
set_option linter.unusedVariables false
set_option linter.unusedSimpArgs false
set_option linter.unusedSectionVars false
namespace Go.Proofs.YtdilpodccjlkgaaGreatDoor
open Go.Proofs.Tryz
open Go.Proofs Go.Lib Go.Shelf Go.RowKit
theorem El:de prog 187 #[(0,1),(1,1)] [.int .i64 0,.raw (.slice none 0 0)]:=⟨_,_,underlying187,zeroValue187,fun w=>by kernel_rfl,rfl⟩
theorem Dl:cF prog 72 187 1 2 [.int .i64 0,.raw (.slice none 0 0)]:=⟨_,Yw,sizeOf187,zeroValue187,by decide,by decide,by kernel_rfl⟩
variable {E:World}
set_option maxRecDepth 20000
theorem BV (K:KS) (q:Int × List Int):(K.p.map bO).flatten++bO q=((K.p++[q]).map bO).flatten:=by simp
theorem nb (r:List (Int × List Int)):(r.map bO).flatten.length=r.length*2:=by
 induction r with
 |nil=>rfl
 |cons o r ih=>rw[List.map_cons,List.flatten_cons,qo,ih,List.length_cons];show 2+_=_;omega
theorem BW {f:ad} {x:aB} (hF:cW f x) (hc:18≤x.op∧x.op≤24):aO f (bB x)∧0<x.args.length:=by
 have h:=hF.cnt (k:=x.op) rfl
 have h2:0<x.args.length:=by
  obtain ⟨k,hk,e⟩:∃k:Nat,k≤6∧x.op=18+(k:Int):=⟨(x.op - 18).toNat,by omega,by omega⟩
  rw[h,e]
  have:k=0∨k=1∨k=2∨k=3∨k=4∨k=5∨k=6:=by omega
  rcases this with rfl|rfl|rfl|rfl|rfl|rfl|rfl<;>decide
 exact ⟨bY (hF.a0 h2),h2⟩
section
variable {f:ad} {K:KS} {t pr a9 a10:AV} {iw js jl jm jp:Nat} {M:List Int}
theorem BX (K:KS) (x:aB):(kE f K x).p=K.p++[(x.op,x.args)]:=by
 unfold kE;repeat' split
 ·rw[bZ,bZ]
 ·rw[bZ,bZ]
 ·rw[bZ]
 ·rw[bZ]
 ·rfl
 ·rfl
variable (hv:f.vars.length≤1000)
include hv
set_option maxHeartbeats 4000000 in
theorem uN (hK:KB f K) (hP:ta K.p) (x:aB) (hF:cW f x) (hc:18≤x.op∧x.op≤24) :
  aU prog E 72 [.po iw 0,.agg (be x)] (gR f t pr a9 a10 iw js jl jm jp K M) (fun y O=>∃g:Nat × Nat,y=.tup []∧O=gR f t pr a9 a10 iw js g.1 jm g.2 (kE f K x) M∧True):=by
 refine yz (γ:=Nat × Nat) (x:=fun g=>.tup []) (M:=fun g=>gR f t pr a9 a10 iw js g.1 jm g.2 (kE f K x) M) (p:=fun _=>True) ?_
 have nn:aO f (dX f):=fv
 have n0:=BW hF hc
 have a1:∀{k:Int},x.op=k→1<([0,1,2,2,2,2,2,2,2,2,1,2,1,2,3,1,0,1,2,1,1,2,2,2,1,2,2][k.toNat]?).getD 0→aO f (cK x)∧1<x.args.length:=fun e h=>⟨bY (hF.a1 (by rw[hF.cnt e];exact h)),by rw[hF.cnt e];exact h⟩
 have hpl:=hP.1
 have hpf:=nb K.p
 obtain ⟨Q,hQ⟩:∃Q:KS,(⟨K.l,K.p++[(x.op,x.args)]⟩:KS)=Q:=⟨_,rfl⟩
 have hQB:KB f Q:=hQ▸hK.pass _
 have hQp:Q.p=K.p++[(x.op,x.args)]:=hQ▸rfl
 have hQl:Q.l=K.l:=hQ▸rfl
 have hpos:=fun jp=>CD (E:=E) (t:=t) (pr:=pr) (a9:=a9) (a10:=a10) (iw:=iw) (js:=js) (jl:=jl) (jm:=jm) (jp:=jp) (M:=M) hv hQB n0.1
 have hup:=fun jp=>Ej (E:=E) (t:=t) (pr:=pr) (a9:=a9) (a10:=a10) (iw:=iw) (js:=js) (jl:=jl) (jm:=jm) (jp:=jp) (M:=M) hv hQB n0.1
 have hpe:mU f Q (bB x)=mU f K (bB x):=hQ▸rfl
 have hfe:et f K (bB x) (dX f) 0=et f Q (bB x) (dX f) 0:=hQ▸rfl
 have add:=fun jl K hK a b (ha:aO f a) (hb:aO f b) c=>gd (E:=E) (js:=js) (jm:=jm) (M:=M) jl K hK ha hb c
 unfold gR at *
 refine zo func72 Z (by decide) Z<|ah<|ya (cs:=_) Z Z Z<|z6<|zd<|zt (fun j=>Nat.beq j 14) (by kernel_rfl) Z (zm (.r (.rest _)))<|aj 0 Z (eF Z)<|aj 1 Z (eF Z)<|aj 2 Z (yb Z)<|aj 3 Z (zn j7 Z sizeOf72 (by decide) Z Z)<|aj 4 Z (zq (c:=.own _ _) isAgg72 Z ⟨_,.head⟩ Z)<|aj 5 Z (bK wy Z jv Z Z)<|aj 6 Z (da jy Z)<|aj 7 Z (bK wy Z j5 Z Z)<|aj 8 Z (eH j9 Z)<|aj 9 Z (y4 (cps:=[(0,[_]),(1,[_])]) (rs:=[_,_]) El Z Z Z)<|aY 10 Z<|y3 (rows:=[[_,_]]) Dl Z Z Z Z Z<|z6<|aY 11 Z<|yj (k:=2) Yw type187 Z Z Z Z Z (fun _=>.t3) hpf (by decide) Z (by show (_+_)*32≤_;simp<;>omega) (by simp<;>omega)<|fun i18=>z6<|q5 (i:=12) Z (by kernel_rfl) (by kernel_rfl) (by kernel_rfl) (by kernel_rfl) (yb Z)<|aj 13 Z (zn j7 Z sizeOf72 (by decide) Z Z)<|ym<|yk (i:=14) Z (by kernel_rfl) (by kernel_rfl)<|yv (l:=[_]) (new:=[_,_,_,_,_,_,_,_,_,_,_]) sizeOf72 Z Z Z Z Z Z .head Z Z<|z6<|yq (by kernel_rfl)<|zy (zb (zc .t4))<|zy (zb (zc .t4))<|zy (zb (zc .t4))<|zy (zb (zc .t4))<|zy (zb (zc .t4))<|zy (aX.eq (show _=([(iw,.cells 75 (kF f t pr js i18 Q.p.length a9 a10)),(js,.cells 136 [.int .i64 ((f.vars.length+1:Nat):Int),.own jl Q.l.length,.own jm M.length]),(jl,.grow 3 180 (Q.l.map bM).flatten),(jm,.grow 1 3 (cI M)),(i18,.grow 2 187 (Q.p.map bO).flatten)]:OL) from (by rw[hQp,hQl,←BV,qo];rfl))) ?_
 have hcp:∀R:KS,R.p=Q.p→True:=fun _ _=>trivial
 unfold kE
 rw[hQ]
 refine ah<|aq wy Z j5 Z Z<|aH j9 Z<|za (bx 0 wx wz Z Z Z (b7 n0.2))<|ay j6 Z<|ao Z<|z6<|ah<|aq wy Z jv Z Z<|ay jy Z<|z6<|zj<|ah<|ak Z Z<|ab Z<|z6<|zw Z (fun c18=>?_) (fun c18=>?_)
 ·have c18:x.op=18:=c18
  have h1:=a1 c18 (by decide)
  rw[if_pos c18]
  refine zd<|zt (fun j=>false) (by kernel_rfl) Z (zm (.r (.rest _)))<|aj 0 Z (eF Z)<|aj 1 Z (yb Z)<|aj 2 Z (zn j7 Z Z2 (by decide) Z Z)<|aj 3 Z (zq (c:=.po _ _) Z9 Z ⟨_,.head⟩ Z)<|aj 4 Z (eF Z)<|aj 5 Z (yb Z)<|aj 6 Z (zn j7 Z wz (by decide) Z Z)<|aj 7 Z (zq (c:=.int _ _) j6 Z ⟨_,.head⟩ Z)<|aj 8 Z (bK wy Z j5 Z Z)<|aj 9 Z (eH j9 Z)<|aj 10 Z (bx 1 wx wz Z Z Z (cO h1.2))<|aj 11 Z (da j6 Z)<|aY 12 Z<|zr Z (zm (.l (.l (.l (.r (.rest _)))))) (add jl Q hQB _ _ nn h1.1 0) ?_
  rintro r41 O41 ⟨⟨j1,u1⟩,rfl,rfl,_⟩
  refine z6<|bV<|zy (zb (zc .t4))<|zy (zb (zc .t4))<|zy (zb (zc .t4))<|zy (zb (zc .t4))<|zy (zb (zc .t4))<|zt (fun j=>false) (by kernel_rfl) Z (zm (.r (.rest _)))<|aj 0 Z (eF Z)<|aj 1 Z (yb Z)<|aj 2 Z (zn j7 Z Z2 (by decide) Z Z)<|aj 3 Z (zq (c:=.po _ _) Z9 Z ⟨_,.head⟩ Z)<|aj 4 Z (bK wy Z j5 Z Z)<|aj 5 Z (eH j9 Z)<|aj 6 Z (bx 1 wx wz Z Z Z (cO h1.2))<|aj 7 Z (da j6 Z)<|aj 8 Z (dF Z)<|aY 9 Z<|zr Z (zm (.l (.l (.l (.r (.rest _)))))) (add j1 _ (hQB.add (c:=0) nn h1.1) _ _ h1.1 n0.1 (-1)) ?_
  rintro r51 O51 ⟨⟨j2,u2⟩,rfl,rfl,_⟩
  refine z6<|bV<|yc (zb (zc .t4))<|yc (zb (zc .t4))<|yc (zb (zc .t4))<|yc (zb (zc .t4))<|yc (zb (zc .t4))<|yp ?_
  exact ⟨(j2,i18),rfl,⟨_,.refl _,by rw[bZ,bZ]⟩,trivial⟩
 ·rw[if_neg (show ¬x.op=18 from c18)]
  refine ah<|ak Z Z<|ab Z<|z6<|zw Z (fun c24=>?_) (fun c24=>?_)
  ·rw[if_pos (show x.op=24 from c24)]
   refine zd<|zt (fun j=>false) (by kernel_rfl) Z (zm (.r (.rest _)))<|aj 0 Z (eF Z)<|aj 1 Z (yb Z)<|aj 2 Z (zn j7 Z Z2 (by decide) Z Z)<|aj 3 Z (zq (c:=.po _ _) Z9 Z ⟨_,.head⟩ Z)<|aj 4 Z (eF Z)<|aj 5 Z (yb Z)<|aj 6 Z (zn j7 Z wz (by decide) Z Z)<|aj 7 Z (zq (c:=.int _ _) j6 Z ⟨_,.head⟩ Z)<|aj 8 Z (dF Z)<|aY 9 Z<|zr Z (zm (.l (.l (.l (.r (.rest _)))))) (add jl Q hQB _ _ nn n0.1 0) ?_
   rintro r63 O63 ⟨⟨j1,u1⟩,rfl,rfl,_⟩
   refine z6<|bV<|zy (zb (zc .t4))<|zy (zb (zc .t4))<|zy (zb (zc .t4))<|zy (zb (zc .t4))<|zy (zb (zc .t4))<|zt (fun j=>false) (by kernel_rfl) Z (zm (.r (.rest _)))<|aj 0 Z (eF Z)<|aj 1 Z (yb Z)<|aj 2 Z (zn j7 Z Z2 (by decide) Z Z)<|aj 3 Z (zq (c:=.po _ _) Z9 Z ⟨_,.head⟩ Z)<|aj 4 Z (dF Z)<|aj 5 Z (eF Z)<|aj 6 Z (yb Z)<|aj 7 Z (zn j7 Z wz (by decide) Z Z)<|aj 8 Z (zq (c:=.int _ _) j6 Z ⟨_,.head⟩ Z)<|aY 9 Z<|zr Z (zm (.l (.l (.l (.r (.rest _)))))) (add j1 _ (hQB.add (c:=0) nn n0.1) _ _ n0.1 nn 64) ?_
   rintro r73 O73 ⟨⟨j2,u2⟩,rfl,rfl,_⟩
   refine z6<|bV<|yc (zb (zc .t4))<|yc (zb (zc .t4))<|yc (zb (zc .t4))<|yc (zb (zc .t4))<|yc (zb (zc .t4))<|yp ?_
   exact ⟨(j2,i18),rfl,⟨_,.refl _,by rw[bZ,bZ]⟩,trivial⟩
  ·rw[if_neg (show ¬x.op=24 from c24)]
   refine ah<|ak Z Z<|ab Z<|z6<|zw Z (fun c20=>?_) (fun c20=>?_)
   ·rw[if_pos (show x.op=20 from c20)]
    refine ah<|aR Z<|aa Z<|zr Z (zm (.l (.l (.l (.l (.l (.rest _))))))) (hpos i18) ?_
    rintro r78 O78 ⟨rfl,rfl⟩
    refine z6<|zu Z (fun cp=>?_) (fun cp=>?_)
    ·rw[if_pos (show mU f K (bB x)=true from hpe▸cp)]
     refine zt (fun j=>false) (by kernel_rfl) Z (zm (.r (.rest _)))<|aj 0 Z (eF Z)<|aj 1 Z (yb Z)<|aj 2 Z (zn j7 Z Z2 (by decide) Z Z)<|aj 3 Z (zq (c:=.po _ _) Z9 Z ⟨_,.head⟩ Z)<|aj 4 Z (eF Z)<|aj 5 Z (yb Z)<|aj 6 Z (zn j7 Z wz (by decide) Z Z)<|aj 7 Z (zq (c:=.int _ _) j6 Z ⟨_,.head⟩ Z)<|aj 8 Z (dF Z)<|aY 9 Z<|zr Z (zm (.l (.l (.l (.r (.rest _)))))) (add jl Q hQB _ _ nn n0.1 (-1)) ?_
     rintro r88 O88 ⟨⟨j1,u1⟩,rfl,rfl,_⟩
     refine z6<|bV<|yc (zb (zc .t4))<|yc (zb (zc .t4))<|yc (zb (zc .t4))<|yc (zb (zc .t4))<|yc (zb (zc .t4))<|yp ?_
     exact ⟨(j1,i18),rfl,⟨_,.refl _,by rw[bZ]⟩,trivial⟩
    ·rw[if_neg (show ¬mU f K (bB x)=true by rw[←hpe,cp];decide)]
     refine ah<|aR Z<|aa Z<|zr Z (zm (.l (.l (.l (.l (.l (.rest _))))))) (hup i18) ?_
     rintro r92 O92 ⟨rfl,rfl⟩
     refine za (iW Z)<|za (iJ Z Z)<|za (ij Z Z)<|ao Z<|ab Z<|z6<|zd<|yg (γ:=Bool) [0,4] (fun u=>[(99,.bool u)]) (fun u=>[(iw,.cells 75 (kF f t pr js i18 Q.p.length a9 a10)),(js,.cells 136 [.int .i64 ((f.vars.length+1:Nat):Int),.own jl Q.l.length,.own jm M.length]),(jl,.grow 3 180 (Q.l.map bM).flatten),(jm,.grow 1 3 (cI M)),(i18,.grow 2 187 (Q.p.map bO).flatten)]) (fun u=>u=et f Q (bB x) (dX f) 0) ?_ (fun _ _ h=>h) ?_
     ·refine aV<|ai Z<|ai Z<|zp (s:=96) Z (fun c1=>?_) (fun c1=>?_)
      ·refine z8 Z Z c1<|aa Z<|z8 Z Z c1<|za (Gv.leq Z Z)<|ar Z c1 Z<|z6 ?_
       exact ⟨_,(by repeat (first|with_reducible exact y6 _ _|refine yh rfl ?_)),aJ,aE,by unfold et p8;unfold eL at *;cases h:eX Q.l (f.vars.length+1) (bB x) (dX f)<;>simp_all⟩
      ·refine z7 Z Z c1<|z7 Z Z c1<|au Z c1 Z<|z6 ?_
       exact ⟨_,(by repeat (first|with_reducible exact y6 _ _|refine yh rfl ?_)),aJ,aE,by unfold et p8;unfold eL at *;cases h:eX Q.l (f.vars.length+1) (bB x) (dX f)<;>simp_all⟩
     ·rintro u hu
      refine zu Z (fun cu=>?_) (fun cu=>?_)
      ·rw[if_pos (show et f K (bB x) (dX f) 0=true by rw[hfe,←hu];exact cu)]
       refine zt (fun j=>false) (by kernel_rfl) Z (zm (.r (.rest _)))<|aj 0 Z (eF Z)<|aj 1 Z (yb Z)<|aj 2 Z (zn j7 Z Z2 (by decide) Z Z)<|aj 3 Z (zq (c:=.po _ _) Z9 Z ⟨_,.head⟩ Z)<|aj 4 Z (dF Z)<|aj 5 Z (eF Z)<|aj 6 Z (yb Z)<|aj 7 Z (zn j7 Z wz (by decide) Z Z)<|aj 8 Z (zq (c:=.int _ _) j6 Z ⟨_,.head⟩ Z)<|aY 9 Z<|zr Z (zm (.l (.l (.l (.r (.rest _)))))) (add jl Q hQB _ _ n0.1 nn (-1)) ?_
       rintro r109 O109 ⟨⟨j1,u1⟩,rfl,rfl,_⟩
       refine z6<|bV<|yc (zb (zc .t4))<|yc (zb (zc .t4))<|yc (zb (zc .t4))<|yc (zb (zc .t4))<|yc (zb (zc .t4))<|yp ?_
       exact ⟨(j1,i18),rfl,⟨_,.refl _,by rw[bZ]⟩,trivial⟩
      ·rw[if_neg (show ¬et f K (bB x) (dX f) 0=true by rw[hfe,←hu,cu];decide)]
       refine zg<|yp ?_
       exact ⟨(jl,i18),rfl,⟨_,.refl _,rfl⟩,trivial⟩
   ·rw[if_neg (show ¬x.op=20 from c20)]
    refine zg<|yp ?_
    exact ⟨(jl,i18),rfl,⟨_,.refl _,rfl⟩,trivial⟩
end
end Go.Proofs.YtdilpodccjlkgaaGreatDoor
namespace Go.Proofs.YtdilpodccjlkgaaGreatDoor
open Go.Proofs.Tryz
structure rn (κ:Type) where
 av:κ→List AV
 val:κ→Array Value
 one:∀{I:G} {k:κ} {v:Value},bg I (.agg (av k)) v→v=.agg (val k)
 bits:∀k,Instr.sameBits 10000 (.agg (val k)) (.agg (val k))=true
section
variable {κ:Type} [DecidableEq κ] (c:rn κ)
structure gN (P:Program) (kt:TypeId):Prop where
 und:∃fs,P.underlying kt=some (.struct fs)
 chk:∀e k w,(Instr.checkKey e 10000 kt (.agg (c.val k))).run P w=.ok () w
 eq:∀k k' w,(Op.equal kt (.agg (c.val k)) (.agg (c.val k'))).run P w=.ok (decide (k=k')) w
def eY (k:κ):List (κ × Int)→Nat→Option (Nat × Int)
 |[],_=>none
 |(k',v)::es,i=>if k=k' then some (i,v) else eY k es (i+1)
def aW (es:List (κ × Int)) (k:κ):Option Int:=(eY k es 0).map (·.2)
def bF (es:List (κ × Int)) (k:κ) (v:Int):List (κ × Int):=match eY k es 0 with
 |some (j,_)=>es.set j (k,v)
 |none=>es++[(k,v)]
theorem ou (k:κ):∀(es:List (κ × Int)) (i:Nat),eY k es i=(eY k es 0).map fun q=>(q.1+i,q.2)
 |[],_=>rfl
 |(k',v)::es,i=>by
  unfold eY
  split
  ·simp
  ·rw[ou k es (i+1),ou k es (0+1),Option.map_map]
   congr 1
   funext q
   simp only[Function.comp,Prod.mk.injEq,and_true];omega
theorem ov {k:κ}:∀{es:List (κ × Int)} {i:Nat},eY k es i=none↔k ∉ es.map (·.1)
 |[],_=>by simp[eY]
 |(k',v)::es,i=>by
  unfold eY
  split
  ·rename_i h;simp[h]
  ·rename_i h;rw[ov (es:=es)];simp[h]
theorem fR {k:κ}:∀{es:List (κ × Int)} {j:Nat} {v:Int},eY k es 0=some (j,v)→es[j]?=some (k,v)∧k ∉ (es.take j).map (·.1)
 |[],_,_,h=>by simp[eY] at h
 |(k',u)::es,j,v,h=>by
  unfold eY at h
  split at h
  ·rename_i e
   simp only[Option.some.injEq,Prod.mk.injEq] at h
   obtain ⟨rfl,rfl⟩:=h
   subst e
   exact ⟨rfl,by simp⟩
  ·rename_i e
   rw[ou] at h
   cases hq:eY k es 0 with
   |none=>rw[hq] at h;cases h
   |some q=>
    rw[hq] at h
    simp only[Option.map_some,Option.some.injEq,Prod.mk.injEq] at h
    obtain ⟨rfl,rfl⟩:=h
    obtain ⟨h1,h2⟩:=fR (es:=es) (j:=q.1) (v:=q.2) hq
    refine ⟨by simpa using h1,?_⟩
    rw[show q.1+(0+1)=q.1+1 by omega]
    simp[e]
    simpa using h2
theorem k6 (k':κ) (v:Int) (es:List (κ × Int)) (k:κ):aW ((k',v)::es) k=if k=k' then some v else aW es k:=by
 unfold aW
 rw[eY]
 split
 ·rfl
 ·rw[ou,Option.map_map];rfl
theorem lD:∀(es fs:List (κ × Int)) (k:κ),aW (es++fs) k=(aW es k).or (aW fs k)
 |[],fs,k=>by simp[aW,eY]
 |(k',v)::es,fs,k=>by
  rw[List.cons_append,k6,k6,lD es fs k]
  split<;>simp
theorem ow {es:List (κ × Int)} {k:κ}:aW es k=none↔k ∉ es.map (·.1):=by
 unfold aW;rw[Option.map_eq_none_iff];exact ov
theorem gf {es:List (κ × Int)} {k:κ} (h:aW es k=none) (v:Int):bF es k v=es++[(k,v)]:=by
 have:eY k es 0=none:=ov.2 (ow.1 h)
 unfold bF;rw[this]
theorem ox {es:List (κ × Int)} {k:κ} (h:aW es k=none) (v:Int) (k':κ):aW (bF es k v) k'=if k'=k then some v else aW es k':=by
 rw[gf h,lD,k6]
 split
 ·rename_i e;rw[e,h];rfl
 ·show (aW es k').or (aW [] k')=_
  cases aW es k'<;>rfl
def eD (e:κ × Int):Value × Value:=(.agg (c.val e.1),.int .i64 e.2)
def iQ (b:Nat) (es:List (κ × Int)):bu:=.heap fun L=>∃arr clock,L=[(b,.map arr clock)]∧fM arr=es.map (eD c)
variable {c}
section
variable {P:Program} {kt:TypeId} {w:World}
theorem mD (h:gN c P kt) (k:κ):∀(l:List MapEntry) (es:List (κ × Int)) (i:Nat),l.map (fun e=>(e.key,e.val))=es.map (eD c) →
  (Instr.findAsking kt (.agg (c.val k)) l i).run P w=.ok ((eY k es i).map fun q=>(q.1,.int .i64 q.2)) w
 |[],[],_,_=>rfl
 |[],_::_,_,e=>by cases e
 |_::_,[],_,e=>by cases e
 |x::l,(k',v)::es,i,e=>by
  simp only[List.map_cons,List.cons.injEq,eD,Prod.mk.injEq] at e
  obtain ⟨⟨e1,e2⟩,e3⟩:=e
  unfold Instr.findAsking
  rw[Sem.run_bind,e1,h.eq k k' w]
  simp only[Result.andThen]
  unfold eY
  by_cases hk:k=k'
  ·rw[qv hk,if_pos hk,e2];rfl
  ·rw[qw hk,if_neg hk];exact mD h k l es (i+1) e3
theorem kr (h:gN c P kt) (k:κ) (l:List MapEntry) (es:List (κ × Int)) (e:l.map (fun e=>(e.key,e.val))=es.map (eD c)) :
  (Instr.findKey kt (.agg (c.val k)) l).run P w=.ok ((eY k es 0).map fun q=>(q.1,.int .i64 q.2)) w:=by
 obtain ⟨fs,hu⟩:=h.und
 unfold Instr.findKey
 rw[Sem.run_bind,run_underlying hu]
 simp only[Result.andThen]
 cases l with
 |nil=>
  cases es with
  |nil=>rfl
  |cons _ _=>cases e
 |cons x l=>
  cases es with
  |nil=>cases e
  |cons y es=>
   have hx:x.key=(.agg (c.val y.1):Value):=by simp only[List.map_cons,List.cons.injEq,eD,Prod.mk.injEq] at e;exact e.1.1
   have:Instr.findNow (.struct fs) (.agg (c.val k)) (x::l) 0=none:=by unfold Instr.findNow;rw[hx];rfl
   rw[this]
   exact mD h k (x::l) (y::es) 0 e
omit [DecidableEq κ] in
theorem Ae (k:κ):(Instr.keyThatStays (Value.agg (c.val k)) (Value.agg (c.val k))).run P w=.ok (.agg (c.val k)) w:=by
 have:Instr.sameBits 10000 (Value.agg (c.val k)) (Value.agg (c.val k))=true:=c.bits k
 unfold Instr.keyThatStays
 rw[if_pos this];rfl
end
section
variable {E:World} {P:Program} {ops:Array Oper} {K:aM→OL→Prop} {env:aM} {O O' O'':OL} {rest:List Oper} {n:Nat}
variable {d ty:Nat} {pos:String} {af:Array Edge} {x y z:Operand} {t u e T kt:TypeId} {b:Nat}
omit [DecidableEq κ] in
theorem ax.makeMapS (k:∀b,ax P E ops K rest (bi env d (cT b)) ((0,iQ c b [])::O)):ax P E ops K (Oper.mk (some d) (.makeMap t none) ty pos af none::rest) env O:=fun I F ρ w h1 ⟨ht,L,hL,hS⟩=>by
 refine qd Z ?_
 unfold ig
 have:(execOp (Go.Proofs.YtdilpodccjlkgaaGreatDoor.ev ρ) (Oper.mk (some d) (.makeMap t none) ty pos af none)).run P w=.ok (.value (.map (some w.heap.size))) (w.alloc (.map #[] 0)):=by
  simp only[execOp,Option.map_none]
  rw[Sem.run_bind,run_makeMap_plain];rfl
 rw[this]
 exact k w.heap.size I F _ _ (h1.upd d rfl) ⟨ht,(w.heap.size,.map #[] 0)::L,⟨[_],L,rfl,⟨#[],0,rfl,rfl⟩,hL⟩,hS.alloc _⟩
theorem Gv.lookup1SK {k:κ} {m:Nat} {es:List (κ × Int)} (hk:gN c P kt) (ht:P.underlying t=some (.map kt u)) (hz:∀w,(zeroValue u).run P w=.ok (.int .i64 0) w) (hx:aP env x=cT b) (hy:aP env y=.agg (c.av k))
  (hO:m3 O m (iQ c b es)):Gv P env O (Oper.mk (some d) (.lookup t x y false) ty pos af none) (.int .i64 ((aW es k).getD 0)):=fun I L E ρ h1 hL=>by
 obtain ⟨O',hO⟩:=hO
 obtain ⟨A,B,hp,⟨arr,clock,rfl,hM⟩,_⟩:=hO.rep hL
 have hin0:(b,Obj.map arr clock)∈L:=hp.mem_iff.2 (by simp)
 have hx:=eQ h1 hx
 have hy2:=h1.ev y
 rw[hy] at hy2
 have hy:=c.one hy2
 refine ⟨.int .i64 ((aW es k).getD 0),Z,fun w J L' hl hS hin=>?_⟩
 have hb:w.heap[b]?=some (Obj.map arr clock):=by
  have:=hS.own _ (hin _ hin0);simpa using this
 have hc:=hk.chk arr.isEmpty k w
 have hf:=kr (w:=w) hk k arr.toList es hM
 have hfin:(aW es k)=(eY k es 0).map (·.2):=rfl
 cases hq:eY k es 0 with
 |none=>
  rw[hq] at hf hfin
  rw[hfin]
  simp[execOp,Instr.lookup,run_underlying ht,hx,hy,MapKept.run_getObj_map hb,hc,hf,hz,Result.andThen]
 |some q=>
  rw[hq] at hf hfin
  rw[hfin]
  simp[execOp,Instr.lookup,run_underlying ht,hx,hy,MapKept.run_getObj_map hb,hc,hf,Result.andThen]
omit [DecidableEq κ] in
theorem ro {arr:Array MapEntry} {es:List (κ × Int)} {j:Nat} {k:κ} {v:Int} (h:fM arr=es.map (eD c)) (hj:j<es.length):fM (arr.modify j fun e=>{ e with key:=.agg (c.val k),val:=.int .i64 v })=(es.set j (k,v)).map (eD c):=by
 unfold fM at h ⊢
 have hl:arr.toList.length=es.length:=by have:=congrArg List.length h;simpa using this
 refine List.ext_getElem? fun q=>?_
 rw[qq,qq,Array.getElem?_toList,Array.getElem?_modify]
 by_cases hq:j=q
 ·subst hq
  rw[if_pos rfl,List.getElem?_set_self hj]
  obtain ⟨e,he⟩:∃e,arr[j]?=some e:=⟨_,Array.getElem?_eq_getElem (by rw[←Array.length_toList];omega)⟩
  rw[he];rfl
 ·rw[if_neg hq,List.getElem?_set_ne hq]
  have:=congrArg (fun l=>l[q]?) h
  simpa [qq] using this
theorem ax.mapSetS {k:κ} {m:Nat} {v:Int} {es:List (κ × Int)} (hk:gN c P kt) (ht:P.underlying t=some (.map kt u)) (hx:aP env x=cT b) (hy:aP env y=.agg (c.av k)) (hz:aP env z=.int .i64 v) (hO:fm O m (iQ c b es) (iQ c b (bF es k v)) O')
  (kk:ax P E ops K rest env O'):ax P E ops K (Oper.mk none (.mapUpdate t x y z) ty pos af none::rest) env O:=fun I F ρ w h1 ⟨htop,L,hL,hS⟩=>by
 have hx:=eQ h1 hx
 have hy2:=h1.ev y
 rw[hy] at hy2
 have hy2:=c.one hy2
 have hz:=fo h1 hz
 obtain ⟨A,B,hp,⟨arr,clock,rfl,he⟩,hback⟩:=hO.rep hL
 have hS2:SL I.k ((b,.map arr clock)::(B++F)) E w:=hS.perm ((hp.append_right F).symm)
 have hb:=hS2.own _ (.head _)
 simp only at hb
 have hc:=hk.chk false k w
 have hf:=kr (w:=w) hk k arr.toList es he
 have fin:∀(arr':Array MapEntry) (clock':Nat),fM arr'=(bF es k v).map (eD c) →
   (execOp (Go.Proofs.YtdilpodccjlkgaaGreatDoor.ev ρ) (Oper.mk none (.mapUpdate t x y z) ty pos af none)).run P w=.ok .skip { w with heap:=w.heap.setIfInBounds b (.map arr' clock') }→bJ P ops (gS I F E K) (Oper.mk none (.mapUpdate t x y z) ty pos af none::rest) ρ w:=fun arr' clock' he' hrun=>by
  refine qd Z ?_
  unfold ig
  rw[hrun]
  obtain ⟨L',h7,h8⟩:=hback (qb I) (A':=[(b,.map arr' clock')]) ⟨arr',clock',rfl,he'⟩
  have hh:=MapKept.heap_set (o':=.map arr' clock') hb
  have hS3:SL I.k ((b,.map arr' clock')::(B++F)) E { w with heap:=w.heap.setIfInBounds b (.map arr' clock') }:=hS2.turn rfl rfl rfl hh.1 hh.2
  exact kk I F ρ _ h1 ⟨htop,L',h7,hS3.perm (h8.append_right F)⟩
 cases hq:eY k es 0 with
 |none=>
  rw[hq] at hf
  refine fin (arr.push { key:=.agg (c.val k),val:=.int .i64 v,born:=clock }) (clock+1) ?_ ?_
  ·unfold bF fM at *
   rw[hq]
   simp only[Array.toList_push,qt,he];rfl
  ·simp[execOp,hx,hy2,hz,Instr.mapUpdate,run_underlying ht,MapKept.run_getObj_map hb,hc,hf,MapKept.run_setObj_map _ hb,Result.andThen]
 |some q=>
  obtain ⟨j,u0⟩:=q
  rw[hq] at hf
  obtain ⟨g1,_⟩:=fR hq
  have hj:=(List.getElem?_eq_some_iff.1 g1).1
  have hl:arr.toList.length=es.length:=by have:=congrArg List.length he;unfold fM at this;simpa using this
  obtain ⟨e0,he0⟩:∃e,arr[j]?=some e:=⟨_,Array.getElem?_eq_getElem (by rw[←Array.length_toList];omega)⟩
  have hek:e0.key=.agg (c.val k):=by
   have:=congrArg (fun l=>l[j]?) he
   unfold fM at this
   simp only[qq,Array.getElem?_toList,he0,g1,Option.map_some,Option.some.injEq,eD,Prod.mk.injEq] at this
   exact this.1
  refine fin (arr.modify j fun e=>{ e with key:=.agg (c.val k),val:=.int .i64 v }) clock ?_ ?_
  ·unfold bF;rw[hq];exact ro he hj
  ·simp[execOp,hx,hy2,hz,Instr.mapUpdate,run_underlying ht,MapKept.run_getObj_map hb,hc,hf,MapKept.run_setObj_map _ hb,Result.andThen,he0,hek,Ae]
end
end
end Go.Proofs.YtdilpodccjlkgaaGreatDoor
namespace Go.Proofs.YtdilpodccjlkgaaGreatDoor
open Go.Proofs.Tryz
section
variable {κ:Type} [DecidableEq κ] (c:rn κ)
def oy (arr:Array MapEntry) (clock:Nat):Prop:=(∀x∈arr.toList,x.born<clock)∧(arr.toList.map (·.born)).Nodup
def kG (b:Nat) (es:List (κ × Int)):bu:=.heap fun L=>∃arr clock,L=[(b,.map arr clock)]∧fM arr=es.map (eD c)∧oy arr clock
def vN (b:Nat) (es:List (κ × Int)) (k:κ) (s:Nat):bu:=.heap fun L=>∃arr clock,L=[(b,.map arr clock)]∧fM arr=es.map (eD c)∧oy arr clock∧∃i v,eY k es 0=some (i,v)∧arr.findIdx? (fun e=>(e.born:Int) == (s:Int))=some i
variable {c}
theorem ks {es:List (κ × Int)} {k:κ} {u v:Int}:bF (bF es k u) k v=bF es k v:=by
 have h0:∀(es:List (κ × Int)) (i j:Nat) (w:Int),eY k es i=some (j,w)→∀u,eY k (es.set (j - i) (k,u)) i=some (j,u)∧i≤j:=fun es=>by
  induction es with
  |nil=>intro i j w h;cases h
  |cons x es ih=>
   intro i j w h u
   obtain ⟨k',w'⟩:=x
   unfold eY at h
   split at h
   ·cases h
    rw[Nat.sub_self,List.set_cons_zero]
    unfold eY
    rw[if_pos rfl]
    exact ⟨rfl,Nat.le_refl _⟩
   ·rename_i hne
    obtain ⟨h1,h2⟩:=ih _ _ _ h u
    have e:j - i=(j - (i+1))+1:=by omega
    rw[e,List.set_cons_succ]
    unfold eY
    rw[if_neg hne]
    exact ⟨h1,by omega⟩
 cases hq:eY k es 0 with
 |none=>
  have hn:aW es k=none:=by unfold aW;rw[hq];rfl
  have h1:bF es k u=es++[(k,u)]:=gf hn u
  rw[h1,gf hn v]
  have h2:∀(es:List (κ × Int)) (i:Nat),eY k es i=none→eY k (es++[(k,u)]) i=some (i+es.length,u):=fun es=>by
   induction es with
   |nil=>intro i _;simp[eY]
   |cons x es ih=>
    intro i h
    obtain ⟨k',w'⟩:=x
    unfold eY at h
    split at h
    ·cases h
    ·rename_i hne
     rw[List.cons_append]
     unfold eY
     rw[if_neg hne,ih _ h,List.length_cons]
     congr 2;omega
  unfold bF
  rw[h2 es 0 hq,Nat.zero_add]
  simp
 |some q=>
  obtain ⟨j,w⟩:=q
  have h1:bF es k u=es.set j (k,u):=by unfold bF;rw[hq]
  have h2:bF es k v=es.set j (k,v):=by unfold bF;rw[hq]
  have h3:=(h0 es 0 j w hq u).1
  rw[h1,h2]
  unfold bF
  rw[Nat.sub_zero] at h3
  rw[h3]
  simp
theorem uO {es:List (κ × Int)} {k:κ} (u:Int):∃j,eY k (bF es k u) 0=some (j,u)∧((eY k es 0=none∧j=es.length)∨∃w,eY k es 0=some (j,w)):=by
 cases hq:eY k es 0 with
 |none=>
  have hn:aW es k=none:=by unfold aW;rw[hq];rfl
  rw[gf hn u]
  have h2:∀(es:List (κ × Int)) (i:Nat),eY k es i=none→eY k (es++[(k,u)]) i=some (i+es.length,u):=fun es=>by
   induction es with
   |nil=>intro i _;simp[eY]
   |cons x es ih=>
    intro i h
    obtain ⟨k',w'⟩:=x
    unfold eY at h
    split at h
    ·cases h
    ·rename_i hne
     rw[List.cons_append]
     unfold eY
     rw[if_neg hne,ih _ h,List.length_cons]
     congr 2;omega
  exact ⟨es.length,by rw[h2 es 0 hq,Nat.zero_add],.inl ⟨rfl,rfl⟩⟩
 |some q=>
  obtain ⟨j,w⟩:=q
  obtain ⟨g1,g2⟩:=fR hq
  have h1:bF es k u=es.set j (k,u):=by unfold bF;rw[hq]
  refine ⟨j,?_,.inr ⟨w,Z⟩⟩
  rw[h1]
  have h3:∀(es:List (κ × Int)) (i j:Nat) (w:Int),eY k es i=some (i+j,w)→eY k (es.set j (k,u)) i=some (i+j,u):=fun es=>by
   induction es with
   |nil=>intro i j w h;cases h
   |cons x es ih=>
    intro i j w h
    obtain ⟨k',w'⟩:=x
    unfold eY at h
    split at h
    ·have e:j=0:=by
      have:=congrArg (fun o=>(o.getD (0,0)).1) h
      simp at this;omega
     subst e
     rw[List.set_cons_zero]
     unfold eY
     rw[if_pos rfl];rfl
    ·rename_i hne
     cases j with
     |zero=>
      rw[ou] at h
      cases h5:eY k es 0 with
      |none=>rw[h5] at h;cases h
      |some q=>rw[h5] at h;simp at h;omega
     |succ j=>
      rw[show i+(j+1)=(i+1)+j by omega] at h ⊢
      rw[List.set_cons_succ]
      unfold eY
      rw[if_neg hne]
      exact ih _ _ _ h
  have:=h3 es 0 j w (by rw[Nat.zero_add];exact hq)
  rwa [Nat.zero_add] at this
section
variable {E:World} {P:Program} {ops:Array Oper} {K:aM→OL→Prop} {env:aM} {O O':OL} {rest:List Oper} {n:Nat}
variable {d ty:Nat} {pos:String} {af:Array Edge} {x y z:Operand} {t u e T kt:TypeId} {b:Nat}
omit [DecidableEq κ] in
theorem ax.makeMapT (k:∀b,ax P E ops K rest (bi env d (cT b)) ((0,kG c b [])::O)):ax P E ops K (Oper.mk (some d) (.makeMap t none) ty pos af none::rest) env O:=fun I F ρ w h1 ⟨ht,L,hL,hS⟩=>by
 refine qd Z ?_
 unfold ig
 have:(execOp (Go.Proofs.YtdilpodccjlkgaaGreatDoor.ev ρ) (Oper.mk (some d) (.makeMap t none) ty pos af none)).run P w=.ok (.value (.map (some w.heap.size))) (w.alloc (.map #[] 0)):=by
  simp only[execOp,Option.map_none]
  rw[Sem.run_bind,run_makeMap_plain];rfl
 rw[this]
 exact k w.heap.size I F _ _ (h1.upd d rfl) ⟨ht,(w.heap.size,.map #[] 0)::L,⟨[_],L,rfl,⟨#[],0,rfl,rfl,fun x hx=>(by cases hx),List.nodup_nil⟩,hL⟩,hS.alloc _⟩
theorem Gv.lookup1SG {o:bu} {k:κ} {m:Nat} {es:List (κ × Int)} (ho:∀(I:G) A,ld I (m,o) A→∃arr clock,A=[(b,.map arr clock)]∧fM arr=es.map (eD c)) (hk:gN c P kt) (ht:P.underlying t=some (.map kt u)) (hz:∀w,(zeroValue u).run P w=.ok (.int .i64 0) w) (hx:aP env x=cT b) (hy:aP env y=.agg (c.av k))
  (hO:m3 O m o):Gv P env O (Oper.mk (some d) (.lookup t x y false) ty pos af none) (.int .i64 ((aW es k).getD 0)):=fun I L E ρ h1 hL=>by
 obtain ⟨O',hO⟩:=hO
 obtain ⟨A,B,hp,hA,_⟩:=hO.rep hL
 obtain ⟨arr,clock,rfl,hM⟩:=ho _ _ hA
 have hin0:(b,Obj.map arr clock)∈L:=hp.mem_iff.2 (by simp)
 have hx:=eQ h1 hx
 have hy2:=h1.ev y
 rw[hy] at hy2
 have hy:=c.one hy2
 refine ⟨.int .i64 ((aW es k).getD 0),Z,fun w J L' hl hS hin=>?_⟩
 have hb:w.heap[b]?=some (Obj.map arr clock):=by
  have:=hS.own _ (hin _ hin0);simpa using this
 have hc:=hk.chk arr.isEmpty k w
 have hf:=kr (w:=w) hk k arr.toList es hM
 have hfin:(aW es k)=(eY k es 0).map (·.2):=rfl
 cases hq:eY k es 0 with
 |none=>
  rw[hq] at hf hfin
  rw[hfin]
  simp[execOp,Instr.lookup,run_underlying ht,hx,hy,MapKept.run_getObj_map hb,hc,hf,hz,Result.andThen]
 |some q=>
  rw[hq] at hf hfin
  rw[hfin]
  simp[execOp,Instr.lookup,run_underlying ht,hx,hy,MapKept.run_getObj_map hb,hc,hf,Result.andThen]
theorem Gv.lookup1ST {k:κ} {m:Nat} {es:List (κ × Int)} (hk:gN c P kt) (ht:P.underlying t=some (.map kt u)) (hz:∀w,(zeroValue u).run P w=.ok (.int .i64 0) w) (hx:aP env x=cT b) (hy:aP env y=.agg (c.av k))
  (hO:m3 O m (kG c b es)):Gv P env O (Oper.mk (some d) (.lookup t x y false) ty pos af none) (.int .i64 ((aW es k).getD 0)):=
 Gv.lookup1SG (fun I A (h:ld I (m,kG c b es) A)=>by
  obtain ⟨arr,clock,h1,h2,_⟩:=h
  exact ⟨arr,clock,h1,h2⟩) hk ht hz hx hy hO
theorem xj {es:List (κ × Int)} {k:κ}:(aW (bF es k ((aW es k).getD 0)) k).getD 0=(aW es k).getD 0:=by
 obtain ⟨j,h,_⟩:=uO (es:=es) (k:=k) ((aW es k).getD 0)
 rw[show aW (bF es k ((aW es k).getD 0)) k=some ((aW es k).getD 0) by unfold aW at h ⊢;rw[h];rfl];rfl
theorem Gv.lookup1SE {k:κ} {m s:Nat} {es:List (κ × Int)} (hk:gN c P kt) (ht:P.underlying t=some (.map kt u)) (hz:∀w,(zeroValue u).run P w=.ok (.int .i64 0) w) (hx:aP env x=cT b) (hy:aP env y=.agg (c.av k))
  (hO:m3 O m (vN c b (bF es k ((aW es k).getD 0)) k s)):Gv P env O (Oper.mk (some d) (.lookup t x y false) ty pos af none) (.int .i64 ((aW es k).getD 0)):=by
 have h:=Gv.lookup1SG (P:=P) (env:=env) (O:=O) (d:=d) (ty:=ty) (pos:=pos) (af:=af) (es:=bF es k ((aW es k).getD 0)) (k:=k) (fun I A (h:ld I (m,vN c b (bF es k ((aW es k).getD 0)) k s) A)=>by
  obtain ⟨arr,clock,h1,h2,_⟩:=h
  exact ⟨arr,clock,h1,h2⟩) hk ht hz hx hy hO
 rw[xj] at h
 exact h
theorem tf (a:Array MapEntry) (p:MapEntry→Bool):a.findIdx? p=a.toList.findIdx? p:=by cases a;simp
theorem oz {l:List MapEntry} (hn:(l.map (·.born)).Nodup) {j:Nat} {x:MapEntry} (h:l[j]?=some x):l.findIdx? (fun e=>(e.born:Int) == (x.born:Int))=some j:=by
 rw[List.findIdx?_eq_some_iff_getElem]
 obtain ⟨hj,e⟩:=List.getElem?_eq_some_iff.1 h
 refine ⟨hj,by simp[e],fun i hi=>?_⟩
 simp only[Bool.not_eq_true,beq_eq_false_iff_ne,ne_eq]
 intro he
 have he:(l[i]'(by omega)).born=x.born:=by exact_mod_cast he
 rw[List.nodup_iff_pairwise_ne] at hn
 have h5:=List.pairwise_iff_getElem.1 hn i j (by rw[qp];omega) (by rw[qp];omega) hi
 rw[List.getElem_map,List.getElem_map,e] at h5
 exact h5 he
omit [DecidableEq κ] in
theorem xk {arr:Array MapEntry} {es:List (κ × Int)} {j:Nat} {k:κ} {v:Int} (h:fM arr=es.map (eD c)) (hj:es[j]?=some (k,v)):fM (arr.modify j fun e=>{ e with key:=.agg (c.val k) })=es.map (eD c):=by
 unfold fM at h ⊢
 refine List.ext_getElem? fun q=>?_
 have h2:=congrArg (fun l=>l[q]?) h
 simp only[qq,Array.getElem?_toList] at h2
 rw[qq,qq,Array.getElem?_toList,Array.getElem?_modify,←h2]
 by_cases hq:j=q
 ·subst hq
  rw[if_pos rfl]
  rw[hj] at h2
  cases he:arr[j]? with
  |none=>rfl
  |some e0=>
   rw[he] at h2
   simp only[Option.map_some,Option.some.injEq,eD,Prod.mk.injEq] at h2
   simp[h2.1]
 ·rw[if_neg hq]
omit [DecidableEq κ] in
theorem xl {arr:Array MapEntry} {es:List (κ × Int)} {j:Nat} {k:κ} {v u0:Int} (h:fM arr=es.map (eD c)) (hj:es[j]?=some (k,u0)):fM (arr.modify j fun e=>{ e with val:=.int .i64 v })=(es.set j (k,v)).map (eD c):=by
 unfold fM at h ⊢
 refine List.ext_getElem? fun q=>?_
 have h2:=congrArg (fun l=>l[q]?) h
 simp only[qq,Array.getElem?_toList] at h2
 rw[qq,qq,Array.getElem?_toList,Array.getElem?_modify]
 by_cases hq:j=q
 ·subst hq
  rw[if_pos rfl,List.getElem?_set_self (List.getElem?_eq_some_iff.1 hj).1]
  rw[hj] at h2
  cases he:arr[j]? with
  |none=>rw[he] at h2;cases h2
  |some e0=>
   rw[he] at h2
   simp only[Option.map_some,Option.some.injEq,eD,Prod.mk.injEq] at h2
   simp[eD,h2.1]
 ·rw[if_neg hq,List.getElem?_set_ne hq,←h2]
omit [DecidableEq κ] in
theorem mE {arr:Array MapEntry} {clock i:Nat} {g:MapEntry→MapEntry} (h:oy arr clock) (hg:∀e,(g e).born=e.born):oy (arr.modify i g) clock∧(arr.modify i g).toList.map (·.born)=arr.toList.map (·.born):=by
 have e:(arr.modify i g).toList.map (·.born)=arr.toList.map (·.born):=by
  refine List.ext_getElem? fun q=>?_
  rw[qq,qq,Array.getElem?_toList,Array.getElem?_toList,Array.getElem?_modify]
  split
  ·cases arr[q]? with
   |none=>rfl
   |some e0=>simp[hg]
  ·rfl
 refine ⟨⟨fun x hx=>?_,by rw[e];exact h.2⟩,e⟩
 have h1:x.born∈arr.toList.map (·.born):=by rw[←e];exact List.mem_map.2 ⟨x,hx,rfl⟩
 obtain ⟨y,hy,hyx⟩:=List.mem_map.1 h1
 rw[←hyx];exact h.1 y hy
theorem ax.mapEntryS {k:κ} {m:Nat} {es:List (κ × Int)} {O':Nat→OL} (hk:gN c P kt) (ht:P.underlying t=some (.map kt u)) (hz:∀w,(zeroValue u).run P w=.ok (.int .i64 0) w) (hx:aP env x=cT b) (hy:aP env y=.agg (c.av k))
  (hO:∀s:Nat,fm O m (kG c b es) (vN c b (bF es k ((aW es k).getD 0)) k s) (O' s))
  (kk:∀s:Nat,ax P E ops K rest (bi env d (.tup [.int .i64 ((aW es k).getD 0),.int .i64 (s:Int)])) (O' s)):ax P E ops K (Oper.mk (some d) (.mapEntry t x y) ty pos af none::rest) env O:=fun I F ρ w h1 ⟨htop,L,hL,hS⟩=>by
 have hx:=eQ h1 hx
 have hy2:=h1.ev y
 rw[hy] at hy2
 have hy2:=c.one hy2
 obtain ⟨A0,B0,hp0,⟨arr,clock,rfl,he,hB⟩,_⟩:=(hO 0).rep hL
 have hS2:SL I.k ((b,.map arr clock)::(B0++F)) E w:=hS.perm ((hp0.append_right F).symm)
 have hb:=hS2.own _ (.head _)
 simp only at hb
 have hc:=hk.chk false k w
 have hf:=kr (w:=w) hk k arr.toList es he
 have fin:∀(arr':Array MapEntry) (clock' s:Nat),fM arr'=(bF es k ((aW es k).getD 0)).map (eD c)→oy arr' clock'→(∃i v,eY k (bF es k ((aW es k).getD 0)) 0=some (i,v)∧arr'.findIdx? (fun e=>(e.born:Int) == (s:Int))=some i) →
   (execOp (Go.Proofs.YtdilpodccjlkgaaGreatDoor.ev ρ) (Oper.mk (some d) (.mapEntry t x y) ty pos af none)).run P w=.ok (.value (.tuple #[.int .i64 ((aW es k).getD 0),.int .i64 (s:Int)])) { w with heap:=w.heap.setIfInBounds b (.map arr' clock') }→bJ P ops (gS I F E K) (Oper.mk (some d) (.mapEntry t x y) ty pos af none::rest) ρ w:=fun arr' clock' s he' hB' hfi hrun=>by
  refine qd Z ?_
  unfold ig
  rw[hrun]
  obtain ⟨A,B,hp,⟨arr2,clock2,rfl,_,_⟩,hback⟩:=(hO s).rep hL
  have hS1:SL I.k ((b,.map arr2 clock2)::(B++F)) E w:=hS.perm ((hp.append_right F).symm)
  have hb1:=hS1.own _ (.head _)
  simp only at hb1
  rw[hb] at hb1
  cases hb1
  obtain ⟨L',h7,h8⟩:=hback (qb I) (A':=[(b,.map arr' clock')]) ⟨arr',clock',rfl,he',hB',hfi⟩
  have hh:=MapKept.heap_set (o':=.map arr' clock') hb
  have hS3:SL I.k ((b,.map arr' clock')::(B++F)) E { w with heap:=w.heap.setIfInBounds b (.map arr' clock') }:=hS1.turn rfl rfl rfl hh.1 hh.2
  exact kk s I F _ _ (h1.upd d ⟨[_,_],rfl,_,_,rfl,rfl,_,_,rfl,rfl,rfl⟩) ⟨htop,L',h7,hS3.perm (h8.append_right F)⟩
 cases hq:eY k es 0 with
 |none=>
  rw[hq] at hf
  have hg:aW es k=none:=by unfold aW;rw[hq];rfl
  have hl:arr.toList.length=es.length:=by have:=congrArg List.length he;unfold fM at this;simpa using this
  refine fin (arr.push { key:=.agg (c.val k),val:=.int .i64 0,born:=clock }) (clock+1) clock ?_ ?_ ?_ ?_
  ·rw[gf hg,hg]
   unfold fM at *
   simp only[Array.toList_push,qt,he];rfl
  ·refine ⟨fun x hx=>?_,?_⟩
   ·rw[Array.toList_push] at hx
    rcases List.mem_append.1 hx with hx|hx
    ·have:=hB.1 x hx;omega
    ·rw[List.mem_singleton.1 hx];exact Nat.lt_succ_self _
   ·rw[Array.toList_push,qt,List.nodup_append]
    refine ⟨hB.2,by simp,fun a ha q hq' e=>?_⟩
    obtain ⟨z,hz1,rfl⟩:=List.mem_map.1 ha
    simp at hq'
    have:=hB.1 z hz1
    omega
  ·obtain ⟨j,h5,h6⟩:=uO (es:=es) (k:=k) ((aW es k).getD 0)
   refine ⟨j,_,h5,?_⟩
   have hj:j=es.length:=by
    rcases h6 with h6|⟨w0,h6⟩
    ·exact h6.2
    ·rw[hq] at h6;cases h6
   rw[tf,Array.toList_push,hj,←hl]
   have:=oz (l:=arr.toList++[{ key:=.agg (c.val k),val:=.int .i64 0,born:=clock }]) (j:=arr.toList.length) (x:={ key:=.agg (c.val k),val:=.int .i64 0,born:=clock }) (by
    rw[qt,List.nodup_append]
    refine ⟨hB.2,by simp,fun a ha q hq' e=>?_⟩
    obtain ⟨z,hz1,rfl⟩:=List.mem_map.1 ha
    simp at hq'
    have:=hB.1 z hz1
    omega) (by simp)
   exact this
  ·rw[hg]
   simp[execOp,hx,hy2,Instr.mapEntry,run_underlying ht,MapKept.run_getObj_map hb,hc,hf,hz,MapKept.run_setObj_map _ hb,Result.andThen,goInt]
 |some q=>
  obtain ⟨j,u0⟩:=q
  rw[hq] at hf
  have hg:aW es k=some u0:=by unfold aW;rw[hq];rfl
  obtain ⟨g1,_⟩:=fR hq
  have hj:=(List.getElem?_eq_some_iff.1 g1).1
  have hl:arr.toList.length=es.length:=by have:=congrArg List.length he;unfold fM at this;simpa using this
  obtain ⟨e0,he0⟩:∃e,arr[j]?=some e:=⟨_,Array.getElem?_eq_getElem (by rw[←Array.length_toList];omega)⟩
  have hek:e0.key=.agg (c.val k):=by
   have:=congrArg (fun l=>l[j]?) he
   unfold fM at this
   simp only[qq,Array.getElem?_toList,he0,g1,Option.map_some,Option.some.injEq,eD,Prod.mk.injEq] at this
   exact this.1
  have hsame:bF es k ((aW es k).getD 0)=es:=by
   unfold bF;rw[hq,hg]
   refine List.ext_getElem? fun q=>?_
   by_cases e:j=q
   ·subst e;rw[List.getElem?_set_self hj,g1];rfl
   ·rw[List.getElem?_set_ne e]
  have hbm:=mE (i:=j) (g:=fun e=>{ e with key:=.agg (c.val k) }) hB (fun _=>rfl)
  refine fin (arr.modify j fun e=>{ e with key:=.agg (c.val k) }) clock e0.born ?_ hbm.1 ?_ ?_
  ·rw[hsame];exact xk he g1
  ·rw[hsame]
   refine ⟨j,u0,hq,?_⟩
   rw[tf]
   refine oz (x:={ e0 with key:=.agg (c.val k) }) hbm.1.2 ?_
   rw[Array.getElem?_toList,Array.getElem?_modify,if_pos rfl,he0];rfl
  ·rw[hg]
   simp[execOp,hx,hy2,Instr.mapEntry,run_underlying ht,MapKept.run_getObj_map hb,hc,hf,MapKept.run_setObj_map _ hb,Result.andThen,he0,hek,Ae,goInt]
theorem ax.entryStoreS {k:κ} {m s:Nat} {v:Int} {es:List (κ × Int)} (hx:aP env x=cT b) (hy:aP env y=.int .i64 (s:Int)) (hz:aP env z=.int .i64 v) (hO:fm O m (vN c b es k s) (kG c b (bF es k v)) O')
  (kk:ax P E ops K rest env O'):ax P E ops K (Oper.mk none (.entryStore t x y z) ty pos af none::rest) env O:=fun I F ρ w h1 ⟨htop,L,hL,hS⟩=>by
 have hx:=eQ h1 hx
 have hy:=fo h1 hy
 have hz:=fo h1 hz
 obtain ⟨A,B,hp,⟨arr,clock,rfl,he,hB,i,u0,hq,hfi⟩,hback⟩:=hO.rep hL
 have hS2:SL I.k ((b,.map arr clock)::(B++F)) E w:=hS.perm ((hp.append_right F).symm)
 have hb:=hS2.own _ (.head _)
 simp only at hb
 obtain ⟨g1,_⟩:=fR hq
 have hrun:(execOp (Go.Proofs.YtdilpodccjlkgaaGreatDoor.ev ρ) (Oper.mk none (.entryStore t x y z) ty pos af none)).run P w=.ok .skip { w with heap:=w.heap.setIfInBounds b (.map (arr.modify i fun e=>{ e with val:=.int .i64 v }) clock) }:=by
  simp[execOp,hx,hy,hz,Instr.entryStore,MapKept.run_getObj_map hb,asInt,asIntOf,hfi,MapKept.run_setObj_map _ hb,Result.andThen]
 refine qd Z ?_
 unfold ig
 rw[hrun]
 have hbm:=mE (i:=i) (g:=fun e=>{ e with val:=.int .i64 v }) hB (fun _=>rfl)
 obtain ⟨L',h7,h8⟩:=hback (qb I) (A':=[(b,.map (arr.modify i fun e=>{ e with val:=.int .i64 v }) clock)]) ⟨_,clock,rfl,by unfold bF;rw[hq];exact xl he g1,hbm.1⟩
 have hh:=MapKept.heap_set (o':=.map (arr.modify i fun e=>{ e with val:=.int .i64 v }) clock) hb
 have hS3:SL I.k ((b,.map (arr.modify i fun e=>{ e with val:=.int .i64 v }) clock)::(B++F)) E { w with heap:=w.heap.setIfInBounds b (.map (arr.modify i fun e=>{ e with val:=.int .i64 v }) clock) }:=hS2.turn rfl rfl rfl hh.1 hh.2
 exact kk I F ρ _ h1 ⟨htop,L',h7,hS3.perm (h8.append_right F)⟩
end
end
end Go.Proofs.YtdilpodccjlkgaaGreatDoor
namespace Go.Proofs.YtdilpodccjlkgaaGreatDoor
open Go.Proofs.Tryz
def fd (x:aB):Bool:=decide (18≤x.op∧x.op≤24)
def mb (x:aB):List aB:=if fd x=true then[x,x] else[x]
def du (l:List aB):List aB:=l.flatMap mb
def fk (b:aN):aN:=⟨b.name,b.phis,du b.insts,b.term⟩
def eo (f:ad):ad:=⟨f.vars,f.params,f.blocks.map fk⟩
def dp (l:List aB) (k:Nat):Nat:=(du (l.take k)).length
theorem CE:∀{l:List aB} {k:Nat} {x:aB},l[k]?=some x→(du l)[dp l k]?=some x
 |y::l,0,x,h=>by
  cases h
  show (mb y++du l)[0]?=_
  unfold mb
  split<;>rfl
 |y::l,k+1,x,h=>by
  have ih:=CE (l:=l) (k:=k) (x:=x) h
  show (mb y++du l)[(mb y++du (l.take k)).length]?=_
  rw[qo,List.getElem?_append_right (by omega),Nat.add_sub_cancel_left]
  exact ih
theorem uP:∀{l:List aB} {j:Nat} {x:aB},(du l)[j]?=some x→∃k,l[k]?=some x∧(j=dp l k∨(j=dp l k+1∧fd x=true))
 |[],j,x,h=>by simp[du] at h
 |y::l,j,x,h=>by
  have h:(mb y++du l)[j]?=some x:=h
  by_cases hj:j<(mb y).length
  ·rw[List.getElem?_append_left hj] at h
   unfold mb at h hj
   split at h
   ·rename_i hc
    rw[if_pos hc] at hj
    have:j=0∨j=1:=by simp at hj;omega
    rcases this with rfl|rfl
    ·cases h;exact ⟨0,rfl,.inl rfl⟩
    ·cases h;exact ⟨0,rfl,.inr ⟨rfl,hc⟩⟩
   ·rename_i hc
    rw[if_neg hc] at hj
    have:j=0:=by simp at hj;omega
    subst this
    cases h;exact ⟨0,rfl,.inl rfl⟩
  ·rw[List.getElem?_append_right (by omega)] at h
   obtain ⟨k,h1,h2⟩:=uP h
   refine ⟨k+1,h1,?_⟩
   have e:dp (y::l) (k+1)=(mb y).length+dp l k:=by
    show (mb y++du (l.take k)).length=_
    rw[qo];rfl
   rcases h2 with h2|h2
   ·exact .inl (by omega)
   ·exact .inr ⟨by omega,h2.2⟩
theorem Dm (x:aB):1≤(mb x).length:=by unfold mb;split<;>simp
theorem BZ {l:List aB} {k:Nat} {x:aB} (h:l[k]?=some x):dp l (k+1)=dp l k+(mb x).length:=by
 unfold dp
 rw[List.take_add_one,h]
 show (du (l.take k++[x])).length=_
 unfold du
 rw[List.flatMap_append,qo]
 simp
theorem B3 {l:List aB}:∀{k m:Nat},k≤m→dp l k≤dp l m:=fun {k m} h=>by
 unfold dp du
 rw[←List.take_append_drop k (l.take m),List.take_take,Nat.min_eq_left h,List.flatMap_append,qo]
 omega
theorem Af (l:List aB):dp l l.length=(du l).length:=by unfold dp;rw[qn]
theorem rp (l:List aB):(du l).length≤2*l.length:=by
 induction l with
 |nil=>exact Nat.le_refl _
 |cons x l ih=>
  show (mb x++du l).length≤_
  have:(mb x).length≤2:=by unfold mb;split<;>simp
  rw[qo,List.length_cons];omega
theorem lE {l:List aB} {x:aB}:x∈du l↔x∈l:=by
 unfold du
 rw[List.mem_flatMap]
 constructor
 ·rintro ⟨y,hy,h⟩
  unfold mb at h
  split at h<;>(simp at h;exact h▸hy)
 ·intro h
  exact ⟨x,h,by unfold mb;split<;>simp⟩
theorem lF (f:ad) (i:Nat):(eo f).blocks[i]?=(f.blocks[i]?).map fk:=qq ..
theorem oA (f:ad):ae (eo f)=ae f:=by
 funext b
 unfold ae
 split
 ·rw[lF,Option.map_map];rfl
 ·rfl
theorem jR (f:ad):(eo f).blocks.length=f.blocks.length:=qp ..
def xm (f:ad) (m:f7):f7:=if m.2<0 then m else (m.1,((dp ((f.blocks[m.1.toNat]?).map (·.insts) |>.getD []) m.2.toNat:Nat):Int))
theorem tg (v:Int) (l:List aB):(l.zipIdx.filter fun x=>decide (x.1.dst=v)).length=(l.filter fun x=>decide (x.dst=v)).length:=by
 rw[←qp (f:=Prod.fst),show ((l.zipIdx.filter fun x=>decide (x.1.dst=v)).map Prod.fst)=(l.zipIdx.map Prod.fst).filter fun x=>decide (x.dst=v) by rw[List.filter_map];rfl,List.zipIdx_map_fst]
theorem th {v:Int}:∀{l:List aB},(∀x∈l,fd x=true→x.dst≠v)→(du l).filter (fun x=>decide (x.dst=v))=l.filter fun x=>decide (x.dst=v)
 |[],_=>rfl
 |x::l,h=>by
  show (mb x++du l).filter _=_
  rw[List.filter_append,th fun y hy=>h y (.tail _ hy)]
  unfold mb
  split
  ·rename_i hc
   have:=h x (.head _) hc
   simp[this]
  ·rw[List.filter_cons,List.filter_cons]
   split<;>rfl
section
variable {f:ad} (hD:∀b∈f.blocks,∀x∈b.insts,fd x=true→x.dst<0)
include hD
theorem tj (h:mq f):mq (eo f):=fun v hv=>by
 have hle:(aZ (eo f) v).length=(aZ f v).length:=by
  unfold aZ
  rw[List.length_flatMap,List.length_flatMap]
  show (((f.blocks.map fk).zipIdx).map _).sum=_
  rw[List.zipIdx_map,List.map_map]
  congr 1
  refine List.map_congr_left fun b hb=>?_
  have hbm:b.1∈f.blocks:=List.fst_mem_of_mem_zipIdx hb
  show (mo v b.2 (fk b.1)).length=_
  unfold mo
  rw[qo,qo,qp,qp,qp,qp,tg,tg]
  show _+((du b.1.insts).filter _).length=_
  rw[th fun x hx hc=>by have:=hD b.1 hbm x hx hc;omega]
  rfl
 obtain ⟨h1,h2⟩:=h v hv
 refine ⟨by omega,fun hne=>h2 fun e=>hne ?_⟩
 rw[e] at hle
 exact List.eq_nil_of_length_eq_zero (by simpa using hle)
theorem xn (ho:mq f) {v:Int} (h0:0≤v) (h1:v<f.vars.length):aF (eo f) v=xm f (aF f v):=by
 have ho2:=tj hD ho
 have one:(aZ (eo f) v).length≤1:=by
  have:=(ho2 v.toNat (by show v.toNat<f.vars.length;omega)).1
  rwa [Int.toNat_of_nonneg h0] at this
 by_cases hm:0≤(aF f v).1
 ·obtain ⟨i,b,g1,g2,g3⟩:=dJ hm
  refine oq one (dI.2 ⟨i,fk b,by rw[lF,g1];rfl,eV.2 ?_⟩)
  rcases g3 with ⟨p,p1,p2,p3⟩|⟨k,x,x1,x2,x3⟩
  ·refine .inl ⟨p,p1,p2,?_⟩
   unfold xm
   rw[if_pos (by omega)];exact Prod.ext g2 p3
  ·refine .inr ⟨dp b.insts k,x,CE x1,x2,?_⟩
   unfold xm
   rw[if_neg (by omega),g2,x3,Int.toNat_natCast,Int.toNat_natCast,g1];rfl
 ·have e:=pV hm
  have:¬0≤(aF (eo f) v).1:=fun h=>by
   obtain ⟨i,b,g1,g2,g3⟩:=dJ h
   rw[lF] at g1
   cases hc:f.blocks[i]? with
   |none=>rw[hc] at g1;cases g1
   |some c=>
    rw[hc] at g1;cases g1
    have:aZ f v≠[]:=by
     rcases g3 with ⟨p,p1,p2,_⟩|⟨k,x,x1,x2,_⟩
     ·exact List.ne_nil_of_mem (dI.2 ⟨i,c,hc,eV.2 (.inl ⟨p,p1,p2,rfl⟩)⟩)
     ·obtain ⟨k2,y1,_⟩:=uP x1
      exact List.ne_nil_of_mem (dI.2 ⟨i,c,hc,eV.2 (.inr ⟨k2,x,y1,x2,rfl⟩)⟩)
    cases hq:aZ f v with
    |nil=>exact this hq
    |cons m l=>
     have hmm:aF f v=m:=by unfold aF;rw[hq];rfl
     have:m∈aZ f v:=by rw[hq];exact .head _
     obtain ⟨q,d,d1,d2⟩:=dI.1 this
     rcases eV.1 d2 with ⟨_,_,_,e2⟩|⟨_,_,_,_,e2⟩<;>(rw[hmm,e2] at e;simp at e)
  rw[pV this,e];rfl
theorem mc (ho:mq f) {v:Int} (h0:0≤v) (h1:v<f.vars.length) {i:Nat} {b:aN} (hb:f.blocks[i]?=some b) {k j:Nat} (hj:dp b.insts k≤j) (h:go f (aF f v) i k):go (eo f) (aF (eo f) v) i j:=by
 rw[xn hD ho h0 h1]
 unfold go at *
 rw[oA]
 have e1:(xm f (aF f v)).1=(aF f v).1:=by unfold xm;split<;>rfl
 rw[e1]
 refine h.imp _root_.id (Or.imp (fun ⟨h2,h3⟩=>⟨h2,?_⟩) _root_.id)
 obtain ⟨q,c,g1,g2,g3⟩:=dJ (f:=f) (v:=v) (by omega)
 have hqi:q=i:=by omega
 subst hqi
 rw[hb] at g1;cases g1
 unfold xm
 split
 ·omega
 ·rcases g3 with ⟨_,_,_,g4⟩|⟨m,x,g4,g5,g6⟩
  ·omega
  ·rw[g2,g6,Int.toNat_natCast,Int.toNat_natCast,hb]
   show ((dp b.insts m:Nat):Int)<j
   have e:=BZ g4
   have:=Dm x
   have:=B3 (l:=b.insts) (show m+1≤k by omega)
   omega
end
section
variable {f:ad}
theorem tk (b:Int):dV (eo f) b=dV f b:=by unfold dV;rw[jR]
theorem uQ (hS:bz f) (hs:cL f.blocks≤512):bz (eo f):=by
 obtain ⟨h1,h2,h3,h4,h5,h6⟩:=hS
 have hl:=jR f
 refine ⟨?_,h2,h3,fun i hi=>?_,?_,fun c hc=>?_⟩
 ·have:kS (eo f)=kS f:=by unfold kS;rw[hl];rfl
  rw[this];exact h1
 ·have hi2:i<f.blocks.length:=by omega
  have e:(eo f).blocks[i]=fk f.blocks[i]:=List.getElem_map ..
  obtain ⟨g1,g2⟩:=h4 i hi2
  unfold yY
  rw[e]
  refine ⟨g1,?_⟩
  show ∀s∈(((f.blocks.map fk).take i).map (·.name)),s≠f.blocks[i].name
  rw[←List.map_take,List.map_map]
  exact g2
 ·have:cL (f.blocks.map fk)≤2*cL f.blocks:=by
   unfold cL
   rw[List.map_map]
   generalize f.blocks=l
   induction l with
   |nil=>exact Nat.le_refl _
   |cons b l ih=>
    rw[List.map_cons,List.map_cons,List.sum_cons,List.sum_cons]
    have e2:(fk b).insts.length≤2*b.insts.length:=rp b.insts
    show (fk b).phis.length+(fk b).insts.length+_≤_
    have e1:(fk b).phis.length=b.phis.length:=rfl
    omega
  show cL (f.blocks.map fk)≤_
  omega
 ·obtain ⟨b,hb,rfl⟩:=List.mem_map.1 hc
  obtain ⟨g1,g2,g3⟩:=h6 b hb
  refine ⟨fun p hp=>?_,fun x hx=>g2 x (lE.1 hx),?_⟩
  ·obtain ⟨p1,p2,p3,p4,p5⟩:=g1 p hp
   refine ⟨p1,p2,p3,p4,?_⟩
   rw[qy] at p5 ⊢
   exact fun b hb=>by rw[tk];exact p5 b hb
  ·show bv (eo f) b.term=true
   unfold bv at *
   simp only[tk]
   exact g3
theorem xo (hT:∀b∈f.blocks,gt f b=true):∀b∈(eo f).blocks,gt (eo f) b=true:=fun c hc=>by
 obtain ⟨b,hb,rfl⟩:=List.mem_map.1 hc
 have:=hT b hb
 unfold gt at *
 simp only[qx] at *
 refine ⟨⟨this.1.1,?_⟩,this.2⟩
 rw[qy]
 exact fun x hx=>List.all_eq_true.1 this.1.2 x (lE.1 hx)
theorem Dn {x:aB} (h:cW f x) (hc:fd x=true):x.dst<0:=by
 have hc:=qz hc
 rcases h.dst with g|g
 ·omega
 ·exfalso
  have hm:=g.1
  obtain ⟨j,hj⟩:∃j:Nat,x.op=(j:Int):=⟨x.op.toNat,by omega⟩
  rw[hj,zT j (by omega)] at hm
  have:j=18∨j=19∨j=20∨j=21∨j=22∨j=23∨j=24:=by omega
  rcases this with rfl|rfl|rfl|rfl|rfl|rfl|rfl<;>exact absurd hm (by decide)
theorem Ag (hS:bz f) (hE:bE f) (hs:sk f):sk (eo f):=by
 obtain ⟨hJ,hA,ho,hB⟩:=hs
 have hl:=jR f
 have hIF:∀b∈f.blocks,∀x∈b.insts,cW f x:=fun b hb x hx=>fK ((hS.2.2.2.2.2 b hb).2.1 x hx)
 have hD:∀b∈f.blocks,∀x∈b.insts,fd x=true→x.dst<0:=fun b hb x hx hc=>Dn (hIF b hb x hx) hc
 have ev:∀v:Int,aT f v=true→0≤v∧v<f.vars.length:=fun v h=>⟨(kZ h).2,(kZ h).1⟩
 have eb:∀i (h:i<(eo f).blocks.length),(eo f).blocks[i]=fk (f.blocks[i]'(by omega)):=fun i h=>List.getElem_map ..
 refine ⟨fun i hi p hp=>?_,fun i hi=>by rw[oA];exact hA i (by omega),tj hD ho,fun i hi=>?_⟩
 ·rw[oA,hl]
  rw[eb i hi] at hp
  exact hJ i (by omega) p hp
 ·have hi2:i<f.blocks.length:=by omega
  rw[eb i hi]
  have hb:=qi hi2
  have hbm:=qm hi2
  obtain ⟨b1,b2,b3⟩:=hB i hi2
  obtain ⟨s1,s2,s3⟩:=hS.2.2.2.2.2 _ hbm
  refine ⟨fun p hp q hq=>?_,fun j hj v hv=>?_,?_⟩
  ·have h1:=b1 p hp q hq
   have hm:=List.of_mem_zip (a:=q.1) (b:=q.2) hq
   obtain ⟨_,_,_,p4,p5⟩:=s1 p hp
   have hv:=ev _ (List.all_eq_true.1 p4 _ hm.1)
   have hbq:=List.all_eq_true.1 p5 _ hm.2
   unfold dV at hbq
   simp only[qx,w1] at hbq
   obtain ⟨m,hm2⟩:∃m:Nat,q.2=(m:Int):=⟨q.2.toNat,by omega⟩
   have hml:m<f.blocks.length:=by omega
   have hmb:=qi hml
   rw[hm2] at h1 ⊢
   rw[pW hmb] at h1
   have hl2:fY (eo f) (m:Int)=(((du (f.blocks[m]).insts).length:Nat):Int):=pW (b:=fk f.blocks[m]) (by rw[lF,hmb];rfl)
   rw[hl2]
   exact mc hD ho hv.1 hv.2 hmb (by rw[Af];exact Nat.le_refl _) h1
  ·obtain ⟨k,x1,x2⟩:=uP (qi (show j<(du (f.blocks[i]).insts).length from hj))
   obtain ⟨hk,x3⟩:=List.getElem?_eq_some_iff.1 x1
   have hv:v∈((f.blocks[i]).insts[k]).args:=by rw[x3];exact hv
   have h1:=b2 k hk v hv
   have hvv:=ev v ((hIF _ hbm _ (qm hk)).args v hv)
   exact mc hD ho hvv.1 hvv.2 hb (by omega) h1
  ·by_cases h0:(f.blocks[i]).term.kind=0
   ·exact .inl h0
   ·right
    have h1:=b3.resolve_left h0
    have hv:=ev _ (gu s3 h0)
    exact mc hD ho hv.1 hv.2 hb (by rw[Af];exact Nat.le_refl _) h1
theorem xp (hf:small f) (hs:cL f.blocks≤500):small (eo f):=by
 obtain ⟨h1,h2,h3,h4,h5⟩:=hf
 refine ⟨h1,h2,by rw[jR];exact h3,h4,fun c hc=>?_⟩
 obtain ⟨b,hb,rfl⟩:=List.mem_map.1 hc
 obtain ⟨g1,g2,g3,g4,g5⟩:=h5 b hb
 refine ⟨g1,g2,?_,g4,fun x hx=>g5 x (lE.1 hx)⟩
 have:=gH _ _ hb
 have:=rp b.insts
 show (du b.insts).length≤1000
 omega
theorem ia {K:KS} {op:Int} {l:List Int} {a b c:Int} (h:mT K op l=true):mT (dQ K a b c) op l=true:=by
 unfold dQ;split<;>exact h
theorem Ah {K:KS} {x:aB}:mT (kE f K x) x.op x.args=true:=by
 have h:mT ⟨K.l,K.p++[(x.op,x.args)]⟩ x.op x.args=true:=by
  unfold mT
  rw[List.any_append]
  simp
 unfold kE
 split
 ·exact ia (ia h)
 split
 ·exact ia (ia h)
 split
 ·split
  ·exact ia h
  ·split
   ·exact ia h
   ·exact h
 ·exact h
theorem uR {K:KS} {x:aB} (hc:fd x=true):lB f (dP f K x) x=true:=by
 unfold lB dP
 rw[if_pos (qz hc),Ah];rfl
end
end Go.Proofs.YtdilpodccjlkgaaGreatDoor
namespace Go.Proofs.YtdilpodccjlkgaaGreatDoor
open Go.Proofs.Tryz
section
variable {f:ad} (hR:b8 f)
include hR
end
end Go.Proofs.YtdilpodccjlkgaaGreatDoor
namespace Go.Proofs.YtdilpodccjlkgaaGreatDoor
open Go.Proofs.Tryz
def nc (f:ad):KS→List aB→List Bool
 |_,[]=>[]
 |K,x::l=>(if fd x=true then[lB f K x] else[])++nc f (dP f K x) l
def jS (f:ad) (b:Int):KS:=mB f (uF f (BM f b).tail) b
def B4 (f:ad) (b:Int):List Bool:=nc f (jS f b) (iC f b).insts
def Do (f:ad):List Bool:=(bh f.blocks.length).flatMap (B4 f)
def DJ (l:List aB):Nat:=(l.filter fd).length
def Dp (f:ad) (k:Nat):Nat:=((f.blocks.take k).map fun b=>DJ b.insts).sum
theorem rq (f:ad):∀(l:List aB) (K:KS),(nc f K l).length=DJ l
 |[],_=>rfl
 |x::l,K=>by
  unfold nc DJ
  rw[qo,rq f l,List.filter_cons]
  unfold DJ
  split<;>simp<;>omega
theorem vO {f:ad} {i:Nat} {b:aN} (h:f.blocks[i]?=some b):(B4 f (i:Int)).length=DJ b.insts:=by
 unfold B4;rw[rq,gB h]
theorem B5 (f:ad):∀i:Nat,i≤f.blocks.length→(((bh f.blocks.length).take i).map fun c=>(B4 f c).length).sum=Dp f i
 |0,_=>by unfold Dp;simp
 |i+1,h=>by
  have ih:=B5 f i (by omega)
  have hb:=qi (show i<f.blocks.length by omega)
  unfold Dp at ih ⊢
  rw[List.take_add_one,dO (by omega),List.take_add_one,hb,qt,List.sum_append,ih,qt,List.sum_append]
  show _+([(i:Int)].map _).sum=_+([_].map _).sum
  simp only[List.map_cons,List.map_nil,List.sum_cons,List.sum_nil,Nat.add_zero]
  rw[vO hb]
def fl:List aB→List Bool
 |[]=>[]
 |x::l=>(if fd x=true then[false,true] else[])++fl l
def pe (f:ad):List Bool:=f.blocks.flatMap fun b=>fl b.insts
def iE:List Bool→List Bool→Prop
 |[],[]=>True
 |a::l,b::m=>(a=true→b=true)∧iE l m
 |_,_=>False
theorem iE.app:∀{l m l' m':List Bool},iE l m→iE l' m'→iE (l++l') (m++m')
 |[],[],_,_,_,h=>h
 |_::_,_::_,_,_,h,k=>⟨h.1,iE.app h.2 k⟩
 |[],_::_,_,_,h,_=>h.elim
 |_::_,[],_,_,h,_=>h.elim
theorem iE.len:∀{l m:List Bool},iE l m→m.length=l.length
 |[],[],_=>rfl
 |_::_,_::_,h=>by rw[List.length_cons,List.length_cons,iE.len h.2]
 |[],_::_,h=>h.elim
 |_::_,[],h=>h.elim
theorem iE.at:∀{l m:List Bool},iE l m→∀{i:Nat},l[i]?=some true→m[i]?=some true
 |a::l,b::m,h,0,e=>by cases e;exact congrArg some (h.1 rfl)
 |a::l,b::m,h,i+1,e=>iE.at h.2 (i:=i) e
 |[],[],_,_,e=>by simp at e
 |[],_::_,h,_,_=>h.elim
 |_::_,[],h,_,_=>h.elim
theorem rr (f:ad):∀(l:List aB) (K:KS),iE (fl l) (nc f K (du l))
 |[],_=>trivial
 |x::l,K=>by
  show iE _ (nc f K (mb x++du l))
  unfold fl mb
  split
  ·rename_i hc
   show iE ([false,true]++fl l) (nc f K (x::x::du l))
   unfold nc
   rw[if_pos hc]
   unfold nc
   rw[if_pos hc,uR hc]
   exact ⟨fun h=>(by cases h),fun _=>rfl,rr f l _⟩
  ·rename_i hc
   show iE ([]++fl l) (nc f K (x::du l))
   unfold nc
   rw[if_neg hc]
   exact rr f l _
theorem Ai (f:ad):iE (pe f) (Do (eo f)):=by
 unfold pe Do
 rw[jR]
 have key:∀k:Nat,k≤f.blocks.length→iE ((f.blocks.take k).flatMap fun b=>fl b.insts) (((bh f.blocks.length).take k).flatMap (B4 (eo f))):=fun k=>by
  induction k with
  |zero=>exact fun _=>trivial
  |succ k ih=>
   intro hk
   have hb:=qi (show k<f.blocks.length by omega)
   rw[List.take_add_one (l:=bh f.blocks.length),dO (by omega),List.take_add_one,hb,List.flatMap_append,List.flatMap_append]
   refine (ih (by omega)).app ?_
   show iE ([_].flatMap _) ([(k:Int)].flatMap _)
   rw[List.flatMap_cons,List.flatMap_nil,qu,List.flatMap_cons,List.flatMap_nil,qu]
   unfold B4
   rw[gB (show (eo f).blocks[k]?=some (fk f.blocks[k]) by rw[lF,hb];rfl)]
   exact rr (eo f) _ _
 have:=key f.blocks.length (Nat.le_refl _)
 rw[qn,List.take_of_length_le (by rw[bI];exact Nat.le_refl _)] at this
 exact this
end Go.Proofs.YtdilpodccjlkgaaGreatDoor
namespace Go.Proofs.YtdilpodccjlkgaaGreatDoor
open Go.Proofs.Tryz
abbrev K4:=Int × Int × Int × Int
def v4 (k:K4):Value:=.agg #[.int .i64 k.1,.int .i64 k.2.1,.int .i64 k.2.2.1,.int .i64 k.2.2.2]
def kf (k:K4):List (K4 × Int)→Nat→Option (Nat × Int)
 |[],_=>none
 |(k',v)::es,i=>if k=k' then some (i,v) else kf k es (i+1)
section
variable {P:Program} {kt:TypeId} {w:World}
end
section
variable {E:World} {P:Program} {ops:Array Oper} {K:aM→OL→Prop} {env:aM} {O O' O'':OL} {rest:List Oper} {n:Nat}
variable {d ty:Nat} {pos:String} {af:Array Edge} {x y z:Operand} {t u e T kt:TypeId} {b:Nat}
end
end Go.Proofs.YtdilpodccjlkgaaGreatDoor
namespace Go.Proofs.YtdilpodccjlkgaaGreatDoor
open Go.Proofs.Tryz
def EZ (x:aB):Int:=if 0<x.args.length then (x.args[0]?).getD 0 else -1
def E0 (x:aB):Int:=if 1<x.args.length then (x.args[1]?).getD 0 else -1
def Em (x:aB):K4:=if Eb x.op=true∧E0 x<EZ x then (x.op,x.num,E0 x,EZ x) else (x.op,x.num,EZ x,E0 x)
structure E1 (f:ad) (r:Int→Int):Prop where
 same:∀i k x j q y,iD f i k x→iD f j q y→(Em (s5 r x)=Em (s5 r y)↔zU (s5 r x) (s5 r y)=true)
section
variable {f:ad} {r:Int→Int} {rk:Nat→Nat→Nat} (hH:EV f rk) (hr:Ec f r) (hK:E1 f r)
include hH hr hK
end
end Go.Proofs.YtdilpodccjlkgaaGreatDoor
namespace Go.Proofs.YtdilpodccjlkgaaGreatDoor
open Go.Proofs.Tryz
section
variable {S:Int→List Int} {n:Nat} (hG:fi S n)
def dD (S:Int→List Int) (n:Nat) (i:Int):List Int:=(bh n).filter fun c=>decide (gi (bd S n) c≠-1)&&decide (gi (bd S n) c=i)
include hG
theorem oB {i c:Int} (hall:∀j:Int,0≤j→j<n→j∈aA S n) (hi:0≤i):c∈dD S n i↔(0≤c∧c<n)∧c≠0∧gi (bl S n) c=i:=by
 unfold dD
 simp only[List.mem_filter,qx,w1,cJ]
 constructor
 ·rintro ⟨⟨h0,h1⟩,h2,h3⟩
  have hc:c≠0:=fun e=>by rw[e,na hG.npos] at h2;exact h2 rfl
  exact ⟨⟨h0,h1⟩,hc,by rw[dS h0 hc] at h3;exact h3⟩
 ·rintro ⟨⟨h0,h1⟩,hc,h3⟩
  refine ⟨⟨h0,h1⟩,?_,by rw[dS h0 hc];exact h3⟩
  rw[dS h0 hc,h3];omega
theorem ku {i c:Int} (hall:∀j:Int,0≤j→j<n→j∈aA S n) (hi:0≤i) (h:c∈dD S n i):(∀j,gV S j c↔j=c∨gV S j i)∧i∈aA S n∧c∈aA S n∧gi (bC S n) c=gi (bC S n) i+1:=by
 obtain ⟨⟨h0,h1⟩,hc,hN⟩:=(oB hG hall hi).1 h
 have hco:=hall c h0 h1
 obtain ⟨g1,g2⟩:=hG.near_mem hco hc
 rw[hN] at g1
 have hl:=hG.lev_near hco hc
 rw[hN] at hl
 refine ⟨fun j=>?_,g1,hco,hl⟩
 rw[hG.dom_iff hco,hG.dom_iff g1]
 constructor
 ·intro ha
  rcases ha.cases' with e|⟨_,_,h3⟩
  ·exact .inl e
  ·rw[hN] at h3;exact .inr h3
 ·rintro (rfl|ha)
  ·exact .refl _
  ·exact .up hc (hG.exact.has c hco) (by rw[hN];exact ha)
theorem ru {i c:Int} (hall:∀j:Int,0≤j→j<n→j∈aA S n) (hi:0≤i) (h:c∈dD S n i):¬gV S c i∧c≠i:=by
 obtain ⟨h1,h2,h3,h4⟩:=ku hG hall hi h
 refine ⟨fun hd=>?_,fun e=>by rw[e] at h4;omega⟩
 have:=(hG.lev_anc h2 ((hG.dom_iff h2).1 hd)).2.1
 omega
theorem xq {i c d j:Int} (hall:∀j:Int,0≤j→j<n→j∈aA S n) (hi:0≤i) (h:c∈dD S n i) (k:d∈dD S n i) (hne:c≠d) (h1:gV S c j) (h2:gV S d j):False:=by
 rcases xd hG h1 h2 with h3|h3
 ·rcases ((ku hG hall hi h).1 d).1 h3 with e|e
  ·exact hne e.symm
  ·exact (ru hG hall hi k).1 e
 ·rcases ((ku hG hall hi k).1 c).1 h3 with e|e
  ·exact hne e
  ·exact (ru hG hall hi h).1 e
theorem Aj {i j:Int} (hall:∀j:Int,0≤j→j<n→j∈aA S n) (hi:0≤i) (hj:j∈aA S n):gV S i j↔j=i∨∃c∈dD S n i,gV S c j:=by
 constructor
 ·intro h
  have ha:=(hG.dom_iff hj).1 h
  clear h
  induction ha with
  |refl x=>exact .inl rfl
  |@up x a hx hN ht ih=>
   have hr:=cU hG.toEOk hj
   obtain ⟨g1,_⟩:=hG.near_mem hj hx
   right
   rcases ih hi g1 with e|⟨c,hc,hd⟩
   ·exact ⟨x,(oB hG hall hi).2 ⟨hr,hx,e⟩,⟨(bL hG.toEOk x).1 hj,fun hw=>hw.end_ rfl⟩⟩
   ·exact ⟨c,hc,(hG.dom_iff hj).2 (.up hx hN ((hG.dom_iff g1).1 hd))⟩
 ·rintro (rfl|⟨c,hc,hd⟩)
  ·exact ⟨(bL hG.toEOk j).1 hj,fun hw=>hw.end_ rfl⟩
  ·obtain ⟨h1,h2,h3,_⟩:=ku hG hall hi hc
   have hic:=(h1 i).2 (.inr ⟨(bL hG.toEOk i).1 h2,fun hw=>hw.end_ rfl⟩)
   exact (hG.dom_iff hj).2 (((hG.dom_iff hj).1 hd).trans ((hG.dom_iff h3).1 hic))
omit hG in
theorem uS (i:Int):(dD S n i).Nodup:=by
 unfold dD
 refine List.Nodup.sublist List.filter_sublist ?_
 unfold bh List.Nodup
 rw[List.pairwise_map]
 exact List.Pairwise.imp (fun h e=>h (Int.ofNat.inj e)) (List.nodup_range (n:=n))
end
end Go.Proofs.YtdilpodccjlkgaaGreatDoor
namespace Go.Proofs.YtdilpodccjlkgaaGreatDoor
open Go.Proofs.Tryz
def cq {α:Type} (p:α→Bool) (l:List α) (k:Nat):Nat:=((l.take k).filter p).length
end Go.Proofs.YtdilpodccjlkgaaGreatDoor
namespace Go.Proofs.YtdilpodccjlkgaaGreatDoor
open Go.Proofs.Tryz
def Dk (V:Int→Bool) (i k:Nat):f7→Bool:=fun m=>V m.1||(decide (m.1=(i:Int))&&decide (m.2<(k:Int)))
def Dq (f:ad) (V:Int→Bool) (i:Int):Prop:=(∀j,gV (ae f) j i→j≠i→V j=true)∧∀j,gV (ae f) i j→V j=false
section
variable {f:ad} (hG:fi (ae f) f.blocks.length) (hall:∀j:Int,0≤j→j<f.blocks.length→j∈aA (ae f) f.blocks.length)
def gC (f:ad) (V:Int→Bool) (i:Int) (l:List Int):Int→Bool:=fun j=>(V j||decide (j=i))||l.any fun c=>fj (ae f) f.blocks.length c j
include hG hall
theorem B6 {V:Int→Bool} {i:Int} (hi:0≤i) (hV:Dq f V i) {l:List Int} {q:Nat} (hq:q<l.length) (hk:∀c∈l,c∈dD (ae f) f.blocks.length i) (hn:l.Nodup):Dq f (gC f V i (l.take q)) l[q]:=by
 have hc:=hk _ (qm hq)
 obtain ⟨h1,h2,h3,h4⟩:=ku hG hall hi hc
 obtain ⟨g1,g2⟩:=ru hG hall hi hc
 refine ⟨fun j hj hne=>?_,fun j hj=>?_⟩
 ·unfold gC
  rcases (h1 j).1 hj with e|hd
  ·exact absurd e hne
  ·by_cases e:j=i
   ·simp[e]
   ·rw[hV.1 j hd e];simp
 ·unfold gC
  have hi2:gV (ae f) i l[q]:=(h1 i).2 (.inr (.refl ((bL hG.toEOk i).1 h2)))
  have e1:V j=false:=hV.2 j (hi2.trans hj)
  have e2:j≠i:=fun e=>g1 (by rw[←e];exact hj)
  rw[e1]
  simp only[Bool.false_or,Bool.or_eq_false_iff,decide_eq_false_iff_not,List.any_eq_false]
  refine ⟨e2,fun c hcm hd=>?_⟩
  obtain ⟨p,hp,e⟩:=List.getElem_of_mem hcm
  rw[List.length_take] at hp
  rw[List.getElem_take] at e
  have hne:c≠l[q]:=fun e3=>by
   have:=(List.getElem_inj hn).1 (e.trans e3)
   omega
  exact xq hG hall hi (hk c (List.mem_of_mem_take hcm)) hc hne ((hG.domB_iff c j).1 hd) hj
omit hG hall in
theorem tm {V:Int→Bool} {i:Int} {l:List Int} {q:Nat} (hq:q<l.length) (j:Int):(gC f V i (l.take q) j||fj (ae f) f.blocks.length l[q] j)=gC f V i (l.take (q+1)) j:=by
 unfold gC
 rw[qj hq,List.any_append];simp[Bool.or_assoc]
theorem vP {V:Int→Bool} {i:Int} (hi:0≤i) {j:Int} (h0:0≤j) (h1:j<f.blocks.length):gC f V i (dD (ae f) f.blocks.length i) j=(V j||fj (ae f) f.blocks.length i j):=by
 unfold gC
 rw[Bool.or_assoc]
 congr 1
 rw[qr,hG.domB_iff,Aj hG hall hi (hall j h0 h1)]
 simp only[Bool.or_eq_true,w1,List.any_eq_true]
 refine or_congr Iff.rfl ⟨fun ⟨c,h2,h3⟩=>⟨c,h2,(hG.domB_iff c j).1 h3⟩,fun ⟨c,h2,h3⟩=>⟨c,h2,(hG.domB_iff c j).2 h3⟩⟩
end
end Go.Proofs.YtdilpodccjlkgaaGreatDoor
namespace Go.Proofs.YtdilpodccjlkgaaGreatDoor
open Go.Proofs.Tryz
section
variable {E:Int→List Int} {n:Nat} (hE:fi E n)
include hE
theorem oC:∀(k m:Nat) (b:Int),b∈aA E n→gi (bC E n) b<k→gi (bC E n) b<m→df (bl E n) k b=df (bl E n) m b
 |0,_,b,hb,hk,_=>by have:=hE.lev_nn hb;omega
 |_,0,b,hb,_,hk=>by have:=hE.lev_nn hb;omega
 |k+1,m+1,b,hb,hk,hm=>by
  unfold df
  by_cases h0:b=0
  ·rw[if_pos h0,if_pos h0]
  ·rw[if_neg h0,if_neg h0]
   obtain ⟨g1,_⟩:=hE.near_mem hb h0
   have hl:=hE.lev_near hb h0
   rw[oC k m _ g1 (by omega) (by omega)]
end
section
variable {f:ad} (hR:b8 f)
include hR
theorem B7 {i c:Int} (hc:0≤c∧c<f.blocks.length) (h0:c≠0) (hn:gi (bl (ae f) f.blocks.length) c=i):uF f (BM f c).tail=zX f (jS f i) i:=by
 have hG:=hR.hE.grph
 obtain ⟨cn,rfl⟩:∃cn:Nat,c=(cn:Int):=⟨c.toNat,by omega⟩
 have hm:=(bL hG.toEOk (cn:Int)).2 (hR.hs.2.1 cn (by omega))
 have hlv:=hR.lev (i:=cn) (by omega)
 have hnl:=hG.lev_near hm h0
 obtain ⟨g1,_⟩:=hG.near_mem hm h0
 rw[hn] at hnl g1
 have hi0:=hG.lev_nn g1
 unfold BM
 obtain ⟨m,hm2⟩:∃m,f.blocks.length=m+1:=⟨f.blocks.length - 1,by omega⟩
 have e1:df (bl (ae f) f.blocks.length) f.blocks.length (cn:Int)=(cn:Int)::df (bl (ae f) f.blocks.length) m i:=by
  conv=>lhs;rw[show df (bl (ae f) f.blocks.length) f.blocks.length (cn:Int)=df (bl (ae f) f.blocks.length) (m+1) (cn:Int) from by rw[←hm2]]
  show (cn:Int)::(if (cn:Int)=0 then[] else df (bl (ae f) f.blocks.length) m (gi (bl (ae f) f.blocks.length) (cn:Int)))=_
  rw[if_neg h0,hn]
 rw[e1,List.tail_cons,oC hG m f.blocks.length i g1 (by omega) (by omega)]
 unfold jS BM
 have e2:df (bl (ae f) f.blocks.length) f.blocks.length i=i::(df (bl (ae f) f.blocks.length) f.blocks.length i).tail:=by
  conv=>lhs;rw[show df (bl (ae f) f.blocks.length) f.blocks.length i=df (bl (ae f) f.blocks.length) (m+1) i from by rw[←hm2]]
  conv=>rhs;rw[show df (bl (ae f) f.blocks.length) f.blocks.length i=df (bl (ae f) f.blocks.length) (m+1) i from by rw[←hm2]]
  rfl
 rw[e2];rfl
theorem Ak:uF f (BM f 0).tail=dC f:=by
 have:=hR.run.pos
 unfold BM
 obtain ⟨m,hm2⟩:∃m,f.blocks.length=m+1:=⟨f.blocks.length - 1,by omega⟩
 rw[show df (bl (ae f) f.blocks.length) f.blocks.length 0=df (bl (ae f) f.blocks.length) (m+1) 0 from by rw[←hm2]]
 unfold df
 rw[if_pos rfl];rfl
end
def mF (f:ad) (i:Int):Int:=if (iC f i).term.kind=1 then fF f (zX f (jS f i) i) 100000 (iC f i).term.var else 0
def fe (f:ad) (V:Int→Bool):List Int:=(bh f.blocks.length).map fun j=>if V j=true then mF f j else 0
theorem eE (f:ad) (V:Int→Bool):(fe f V).length=f.blocks.length:=by unfold fe;rw[qp,bI]
theorem lG {f:ad} {V:Int→Bool} {j:Nat} (h:j<f.blocks.length):(fe f V)[j]?=some (if V (j:Int)=true then mF f (j:Int) else 0):=by
 unfold fe;rw[qq,dO h];rfl
theorem Al {f:ad} {V W:Int→Bool} {i:Nat} (hi:i<f.blocks.length) (h1:W (i:Int)=true) (h2:∀j:Int,j≠i→W j=V j):(fe f V).set i (mF f (i:Int))=fe f W:=by
 refine List.ext_getElem? fun j=>?_
 by_cases e:i=j
 ·subst e
  rw[List.getElem?_set_self (by rw[eE];exact hi),lG hi,if_pos h1]
 ·rw[List.getElem?_set_ne e]
  by_cases hj:j<f.blocks.length
  ·rw[lG hj,lG hj,h2 _ (by omega)]
  ·rw[List.getElem?_eq_none (by rw[eE];omega),List.getElem?_eq_none (by rw[eE];omega)]
theorem uT {f:ad} {V W:Int→Bool} (h:∀j:Int,0≤j→j<f.blocks.length→V j=W j):fe f V=fe f W:=by
 unfold fe
 exact List.map_congr_left fun j hj=>by rw[h j (cJ.1 hj).1 (cJ.1 hj).2]
def jT (f:ad) (m:f7):Bool:=decide (0≤m.1∧0≤m.2)&&match (iC f m.1).insts[m.2.toNat]? with|some x=>fd x&&lB f (DI f m.1 m.2.toNat) x|none=>false
def fW (f:ad) (D:f7→Bool) (T:List (f7 × Int)):Prop:=∀m:f7,aW T m=if (D m&&jT f m)=true then some 1 else none
theorem fW.congr {f:ad} {D D':f7→Bool} {T:List (f7 × Int)} (h:fW f D T) (e:∀m,jT f m=true→D m=D' m):fW f D' T:=fun m=>by
 rw[h m]
 cases hp:jT f m with
 |false=>simp
 |true=>rw[e m hp]
theorem fW.emp (f:ad):fW f (fun _=>false) []:=fun m=>by rw[ow.2 (by simp)];rfl
theorem tn {f:ad} {i k:Nat} {b:aN} {x:aB} (hb:f.blocks[i]?=some b) (hx:b.insts[k]?=some x):jT f ((i:Int),(k:Int))=(fd x&&lB f (DI f (i:Int) k) x):=by
 unfold jT
 dsimp only
 rw[qv ⟨by omega,by omega⟩,Bool.true_and,Int.toNat_natCast,gB hb,hx]
theorem vQ {V:Int→Bool} {i k:Nat} {m:f7} (hne:¬m=((i:Int),(k:Int))):Dk V i (k+1) m=Dk V i k m:=by
 unfold Dk
 congr 1
 by_cases e1:m.1=(i:Int)
 ·simp only[e1,decide_true,Bool.true_and]
  rw[decide_eq_decide]
  have:m.2≠(k:Int):=fun e=>hne (Prod.ext e1 e)
  push_cast;omega
 ·simp[e1]
theorem fW.skip {f:ad} {V:Int→Bool} {i k:Nat} {T:List (f7 × Int)} (h:fW f (Dk V i k) T) (hp:jT f ((i:Int),(k:Int))=false):fW f (Dk V i (k+1)) T:=h.congr fun m hm=>(vQ fun e=>by rw[e,hp] at hm;cases hm).symm
theorem fW.put {f:ad} {V:Int→Bool} {i k:Nat} {T:List (f7 × Int)} (h:fW f (Dk V i k) T) (hV:V (i:Int)=false) (hp:jT f ((i:Int),(k:Int))=true):fW f (Dk V i (k+1)) (bF T ((i:Int),(k:Int)) 1):=fun m=>by
 have hn:aW T ((i:Int),(k:Int))=none:=by
  rw[h,if_neg]
  unfold Dk
  simp[hV]
 rw[ox hn]
 split
 ·rename_i e
  subst e
  rw[hp,if_pos]
  unfold Dk;simp;right;omega
 ·rename_i e
  rw[h m,vQ e]
theorem fW.last {f:ad} {V:Int→Bool} {i:Nat} {b:aN} (hb:f.blocks[i]?=some b) {T:List (f7 × Int)} (h:fW f (Dk V i b.insts.length) T):fW f (fun m=>V m.1||decide (m.1=(i:Int))) T:=h.congr fun m hm=>by
 unfold Dk
 by_cases e:m.1=(i:Int)
 ·unfold jT at hm
  rw[qx] at hm
  have h0:=qz hm.1
  have h1:=hm.2
  rw[e,gB hb] at h1
  have:m.2<(b.insts.length:Int):=by
   refine Classical.byContradiction fun hn=>?_
   rw[List.getElem?_eq_none (by omega)] at h1
   cases h1
  simp[e,this]
 ·simp[e]
end Go.Proofs.YtdilpodccjlkgaaGreatDoor
namespace Go.Proofs.YtdilpodccjlkgaaGreatDoor
open Go.Proofs.Tryz
section
variable {f:ad} (hR:b8 f)
include hR
theorem b8.memO {b:Int} (h:0≤b∧b<f.blocks.length):b∈aA (ae f) f.blocks.length:=by
 obtain ⟨j,rfl⟩:∃j:Nat,b=(j:Int):=⟨b.toNat,by omega⟩
 exact (bL hR.hE.grph.toEOk _).2 (hR.hs.2.1 j (by omega))
end
end Go.Proofs.YtdilpodccjlkgaaGreatDoor
namespace Go.Proofs.YtdilpodccjlkgaaGreatDoor
open Go.Proofs.Tryz
section
variable {f:ad} (hR:b8 f)
include hR
theorem b8.rk0 {v:Int} {y:aB} (h:cS f v=some y) (hl:0<y.args.length):oR f (bB y)<oR f v:=hR.rk_arg h _ (EW hl)
theorem b8.rk1 {v:Int} {y:aB} (h:cS f v=some y) (hl:1<y.args.length):oR f (cK y)<oR f v:=hR.rk_arg h _ (EX hl)
theorem jU (K:KS):∀(n m:Nat) (v:Int),oR f v<n→oR f v<m→fF f K n v=fF f K m v
 |0,_,_,h,_=>by omega
 |_,0,_,_,h=>by omega
 |n+1,m+1,v,hn,hm=>by
  unfold fF
  cases hx:cS f v with
  |none=>rfl
  |some x=>
   obtain ⟨hF,_,_⟩:=hR.madeF hx
   have a0:∀{k:Int},x.op=k→0<([0,1,2,2,2,2,2,2,2,2,1,2,1,2,3,1,0,1,2,1,1,2,2,2,1,2,2][k.toNat]?).getD 0→fF f K n (bB x)=fF f K m (bB x):=fun e h=>by
    have:=hR.rk0 hx (by rw[hF.cnt e];exact h)
    exact jU K n m _ (by omega) (by omega)
   have a1:∀{k:Int},x.op=k→1<([0,1,2,2,2,2,2,2,2,2,1,2,1,2,3,1,0,1,2,1,1,2,2,2,1,2,2][k.toNat]?).getD 0→fF f K n (cK x)=fF f K m (cK x):=fun e h=>by
    have:=hR.rk1 hx (by rw[hF.cnt e];exact h)
    exact jU K n m _ (by omega) (by omega)
   dsimp only
   by_cases h8:x.op=8
   ·rw[if_pos h8,if_pos h8]
   by_cases h9:x.op=9
   ·rw[if_neg h8,if_neg h8,if_pos h9,if_pos h9]
   by_cases h7:x.op=7
   ·rw[if_neg h8,if_neg h8,if_neg h9,if_neg h9,if_pos h7,if_pos h7]
   by_cases h1:x.op=1
   ·rw[if_neg h8,if_neg h8,if_neg h9,if_neg h9,if_neg h7,if_neg h7,if_pos h1,if_pos h1,a0 h1 (by decide)]
   by_cases h10:x.op=10
   ·rw[if_neg h8,if_neg h8,if_neg h9,if_neg h9,if_neg h7,if_neg h7,if_neg h1,if_neg h1,if_pos h10,if_pos h10,a0 h10 (by decide)]
   by_cases h11:x.op=11
   ·rw[if_neg h8,if_neg h8,if_neg h9,if_neg h9,if_neg h7,if_neg h7,if_neg h1,if_neg h1,if_neg h10,if_neg h10,if_pos h11,if_pos h11,a0 h11 (by decide),a1 h11 (by decide)]
   ·rw[if_neg h8,if_neg h8,if_neg h9,if_neg h9,if_neg h7,if_neg h7,if_neg h1,if_neg h1,if_neg h10,if_neg h10,if_neg h11,if_neg h11]
end
end Go.Proofs.YtdilpodccjlkgaaGreatDoor
namespace Go.Proofs.YtdilpodccjlkgaaGreatDoor
open Go.Proofs.Tryz
abbrev fG:=Int × Bool
def ff (es:List (fG × Int)):Int:=(es.map (·.2)).sum
theorem Am (es:List (fG × Int)) (k:fG) (v:Int):ff (es++[(k,v)])=ff es+v:=by unfold ff;simp
theorem Ao:∀{es:List (fG × Int)} {j:Nat} {k:fG} {u:Int} (v:Int),es[j]?=some (k,u)→ff (es.set j (k,v))=ff es - u+v
 |x::es,0,k,u,v,h=>by
  cases h
  unfold ff
  simp only[List.set_cons_zero,List.map_cons,List.sum_cons];omega
 |x::es,j+1,k,u,v,h=>by
  have ih:=Ao (es:=es) (j:=j) v h
  unfold ff at ih ⊢
  rw[List.set_cons_succ,List.map_cons,List.sum_cons,ih,List.map_cons,List.sum_cons];omega
theorem vR (es:List (fG × Int)) (k:fG) (v:Int):ff (bF es k v)=ff es - (aW es k).getD 0+v:=by
 cases h:eY k es 0 with
 |none=>
  have hg:aW es k=none:=by unfold aW;rw[h];rfl
  rw[gf hg,Am,hg];simp
 |some q=>
  obtain ⟨j,u⟩:=q
  have hg:aW es k=some u:=by unfold aW;rw[h];rfl
  have h1:bF es k v=es.set j (k,v):=by unfold bF;rw[h]
  rw[h1,Ao v (fR h).1,hg];rfl
theorem md (es:List (fG × Int)) (k k':fG) (v:Int):aW (bF es k v) k'=if k'=k then some v else aW es k':=by
 cases h:eY k es 0 with
 |none=>exact ox (by unfold aW;rw[h];rfl) v k'
 |some q=>
  split
  ·rename_i e
   subst e
   obtain ⟨j,hj,_⟩:=uO (es:=es) (k:=k') v
   unfold aW;rw[hj];rfl
  ·rename_i hne
   obtain ⟨j,u⟩:=q
   have h1:bF es k v=es.set j (k,v):=by unfold bF;rw[h]
   rw[h1]
   have key:∀(es:List (fG × Int)) (i j:Nat),(∀x,es[j]?=some x→x.1=k)→(eY k' (es.set j (k,v)) i).map (·.2)=(eY k' es i).map (·.2):=fun es=>by
    induction es with
    |nil=>intro i j _;rfl
    |cons x es ih=>
     intro i j hx
     obtain ⟨k2,w⟩:=x
     cases j with
     |zero=>
      have:k2=k:=hx _ rfl
      subst this
      rw[List.set_cons_zero]
      unfold eY
      rw[if_neg hne,if_neg hne]
     |succ j=>
      rw[List.set_cons_succ]
      unfold eY
      split
      ·rfl
      ·exact ih (i+1) j hx
   have h2:=(fR h).1
   exact key es 0 j fun x hx=>by rw[h2] at hx;cases hx;rfl
structure gO (f:ad) (es:List (fG × Int)) (q:ky):Prop where
 get:∀k,(aW es k).isSome=q.seen.contains k
 pos:∀e∈es,1≤e.2
 nod:q.seen.Nodup
 rng:∀k∈q.seen,aT f k.1=true
 out:q.out.length≤q.seen.length
section
variable {f:ad} {es:List (fG × Int)} {q:ky}
theorem gO.emp (f:ad):gO f [] ⟨[],[]⟩:=⟨fun k=>rfl,fun e he=>(by cases he),List.nodup_nil,fun k hk=>(by cases hk),Nat.le_refl _⟩
theorem rv:∀(es:List (fG × Int)),(∀e∈es,1≤e.2)→0≤ff es
 |[],_=>by decide
 |x::es,h=>by
  have:=rv es fun e he=>h e (.tail _ he)
  have:=h x (.head _)
  unfold ff at *
  rw[List.map_cons,List.sum_cons];omega
theorem vS:∀(es:List (fG × Int)),(∀e∈es,1≤e.2)→∀e∈es,e.2≤ff es
 |x::es,h,e,he=>by
  have h1:=rv es fun e he=>h e (.tail _ he)
  have h2:=h x (.head _)
  have e1:ff (x::es)=x.2+ff es:=by unfold ff;simp
  rw[e1]
  rcases List.mem_cons.1 he with rfl|he
  ·omega
  ·have:=vS es (fun e he=>h e (.tail _ he)) e he;omega
theorem tq {k:fG} {v:Int} (h:aW es k=some v):(k,v)∈es:=by
 unfold aW at h
 cases hq:eY k es 0 with
 |none=>rw[hq] at h;cases h
 |some p=>
  obtain ⟨j,u⟩:=p
  rw[hq] at h
  cases h
  exact qs (fR hq).1
theorem gO.val (h:gO f es q) (k:fG):0≤(aW es k).getD 0∧(aW es k).getD 0≤ff es∧(q.seen.contains k=true↔1≤(aW es k).getD 0):=by
 have hg:=h.get k
 have hn:=rv es h.pos
 cases hk:aW es k with
 |none=>rw[hk] at hg;rw[←hg];simp;exact hn
 |some v=>
  rw[hk] at hg
  rw[←hg]
  have:=h.pos _ (tq hk)
  have:=vS es h.pos _ (tq hk)
  simp at *;omega
theorem vT (h:∀e∈es,1≤e.2) (k:fG) {v:Int} (hv:1≤v):∀e∈bF es k v,1≤e.2:=fun e he=>by
 unfold bF at he
 split at he
 ·rcases uE he with he|he
  ·exact h e he
  ·rw[he];exact hv
 ·rcases List.mem_append.1 he with he|he
  ·exact h e he
  ·rw[List.mem_singleton.1 he];exact hv
theorem gO.len (h:gO f es q):q.seen.length≤2*f.vars.length:=by
 have hsub:∀k∈q.seen,k∈(bh f.vars.length).flatMap fun i=>[(i,true),(i,false)]:=fun k hk=>by
  have hr:0≤k.1∧k.1<f.vars.length:=by simpa [aT] using h.rng k hk
  refine List.mem_flatMap.2 ⟨k.1,cJ.2 hr,?_⟩
  obtain ⟨a,b⟩:=k
  cases b<;>simp
 have h1:=List.Nodup.length_le_of_subset h.nod hsub
 have h2:∀l:List Int,(l.flatMap fun i=>[(i,true),(i,false)]).length=2*l.length:=fun l=>by
  induction l with
  |nil=>rfl
  |cons a l ih=>
   rw[List.flatMap_cons,qo,ih,List.length_cons]
   show 2+2*l.length=2*(l.length+1)
   omega
 have h2:=h2 (bh f.vars.length)
 rw[bI] at h2
 omega
theorem gO.old (h:gO f es q) {k:fG} (hk:q.seen.contains k=true):gO f (bF es k ((aW es k).getD 0+1)) q∧ff (bF es k ((aW es k).getD 0+1))=ff es+1:=by
 have hv:=h.val k
 refine ⟨⟨fun k'=>?_,vT h.pos k (by omega),h.nod,h.rng,h.out⟩,by rw[vR];omega⟩
 rw[md]
 split
 ·rename_i e;subst e;exact hk.symm
 ·exact h.get k'
theorem gO.new (h:gO f es q) {k:fG} (hk:q.seen.contains k=false) (hr:aT f k.1=true):gO f (bF es k ((aW es k).getD 0+1)) ⟨q.seen++[k],q.out⟩∧ff (bF es k ((aW es k).getD 0+1))=ff es+1:=by
 have hv:=h.val k
 refine ⟨⟨fun k'=>?_,vT h.pos k (by omega),?_,fun k' hk'=>?_,?_⟩,by rw[vR];omega⟩
 ·rw[md]
  split
  ·rename_i e;subst e;simp
  ·rename_i hne
   rw[h.get k',qr]
   simp[hne]
 ·show (q.seen++[k]).Nodup
  rw[List.nodup_append]
  refine ⟨h.nod,by simp,fun a ha b hb e=>?_⟩
  simp at hb
  subst hb e
  rw[List.contains_iff_mem.2 ha] at hk;cases hk
 ·rcases List.mem_append.1 hk' with hk'|hk'
  ·exact h.rng k' hk'
  ·rw[List.mem_singleton.1 hk'];exact hr
 ·show q.out.length≤(q.seen++[k]).length
  have:=h.out
  rw[qo];simp;omega
theorem gO.tell {k:fG} (h:gO f es ⟨q.seen++[k],q.out⟩) (ho:q.out.length≤q.seen.length) (a b n:Int):gO f es (eW ⟨q.seen++[k],q.out⟩ a b n)∧(eW ⟨q.seen++[k],q.out⟩ a b n).seen=q.seen++[k]:=by
 unfold eW
 split
 ·exact ⟨h,rfl⟩
 ·refine ⟨⟨h.get,h.pos,h.nod,h.rng,?_⟩,rfl⟩
  show (q.out++_).length≤(q.seen++[k]).length
  simp;omega
end
structure rx (f:ad) (q:ky):Prop where
 nod:q.seen.Nodup
 rng:∀k∈q.seen,aT f k.1=true
 out:q.out.length≤q.seen.length
theorem rx.len {f:ad} {q:ky} (h:rx f q):q.out.length≤2*f.vars.length:=by
 have hsub:∀k∈q.seen,k∈(bh f.vars.length).flatMap fun i=>[(i,true),(i,false)]:=fun k hk=>by
  have hr:0≤k.1∧k.1<f.vars.length:=by simpa [aT] using h.rng k hk
  refine List.mem_flatMap.2 ⟨k.1,cJ.2 hr,?_⟩
  obtain ⟨a,b⟩:=k
  cases b<;>simp
 have h1:=List.Nodup.length_le_of_subset h.nod hsub
 have h2:∀l:List Int,(l.flatMap fun i=>[(i,true),(i,false)]).length=2*l.length:=fun l=>by
  induction l with
  |nil=>rfl
  |cons a l ih=>
   rw[List.flatMap_cons,qo,ih,List.length_cons]
   show 2+2*l.length=2*(l.length+1)
   omega
 have h2:=h2 (bh f.vars.length)
 rw[bI] at h2
 have:=h.out
 omega
theorem rx.push {f:ad} {q:ky} (h:rx f q) {k:fG} (hk:q.seen.contains k=false) (hr:aT f k.1=true):rx f ⟨q.seen++[k],q.out⟩∧∀a b n,rx f (eW ⟨q.seen++[k],q.out⟩ a b n):=by
 have hn:(q.seen++[k]).Nodup:=by
  rw[List.nodup_append]
  refine ⟨h.nod,by simp,fun a ha b hb e=>?_⟩
  simp at hb
  subst hb e
  rw[List.contains_iff_mem.2 ha] at hk;cases hk
 have hg:∀k'∈q.seen++[k],aT f k'.1=true:=fun k' hk'=>by
  rcases List.mem_append.1 hk' with hk'|hk'
  ·exact h.rng k' hk'
  ·rw[List.mem_singleton.1 hk'];exact hr
 have ho:=h.out
 have h1:rx f ⟨q.seen++[k],q.out⟩:=⟨hn,hg,by show q.out.length≤(q.seen++[k]).length;simp;omega⟩
 refine ⟨h1,fun a b n=>?_⟩
 unfold eW
 split
 ·exact h1
 ·exact ⟨hn,hg,by show (q.out++_).length≤(q.seen++[k]).length;simp;omega⟩
theorem tt {f:ad} (hR:b8 f):∀(n:Nat) (q:ky) (c:Int) (is:Bool),rx f q→aT f c=true→rx f (kz f n q c is)
 |0,q,_,_,h,_=>h
 |n+1,q,c,is,h,hc=>by
  unfold kz
  split
  ·exact h
  rename_i hk
  have hk:q.seen.contains (c,is)=false:=by simpa using hk
  obtain ⟨h1,h2⟩:=h.push hk hc
  split
  ·exact h1
  rename_i x hx
  obtain ⟨hF,_,_⟩:=hR.madeF hx
  have a0:∀{k:Int},x.op=k→0<([0,1,2,2,2,2,2,2,2,2,1,2,1,2,3,1,0,1,2,1,1,2,2,2,1,2,2][k.toNat]?).getD 0→aT f (bB x)=true:=fun e h=>by
   have:=hF.a0 (by rw[hF.cnt e];exact h)
   unfold aT;simpa using ⟨this.2,this.1⟩
  have a1:∀{k:Int},x.op=k→1<([0,1,2,2,2,2,2,2,2,2,1,2,1,2,3,1,0,1,2,1,1,2,2,2,1,2,2][k.toNat]?).getD 0→aT f (cK x)=true:=fun e h=>by
   have:=hF.a1 (by rw[hF.cnt e];exact h)
   unfold aT;simpa using ⟨this.2,this.1⟩
  split
  ·rename_i e;exact tt hR n _ _ _ h1 (a0 e (by decide))
  split
  ·rename_i e;exact tt hR n _ _ _ h1 (a0 e (by decide))
  split
  ·rename_i e
   split
   ·exact tt hR n _ _ _ (tt hR n _ _ _ h1 (a0 e (by decide))) (a1 e (by decide))
   ·exact h1
  split
  ·split
   ·exact h2 _ _ _
   ·exact h2 _ _ _
  split
  ·split
   ·exact h2 _ _ _
   ·exact h2 _ _ _
  split
  ·split
   ·exact h2 _ _ _
   ·exact h1
  ·exact h1
theorem xr {f:ad} (hR:b8 f) {c:Int} (is:Bool) (hc:aT f c=true):(jQ f c is).length≤2*f.vars.length:=(tt hR 100000 ⟨[],[]⟩ c is ⟨List.nodup_nil,fun k hk=>(by cases hk),Nat.le_refl _⟩ hc).len
end Go.Proofs.YtdilpodccjlkgaaGreatDoor
namespace Go.Proofs.YtdilpodccjlkgaaGreatDoor
open Go.Proofs.Tryz
open Go.Proofs Go.Lib Go.Shelf Go.RowKit
variable {E:World}
set_option maxRecDepth 20000
def me:rn (Int × Int) where
 av:=fun k=>[.int .i64 k.1,.int .i64 k.2]
 val:=fun k=>#[.int .i64 k.1,.int .i64 k.2]
 one:=fun {I k v} h=>by
  obtain ⟨vs,rfl,a,_,rfl,h1,b,_,rfl,h2,h3⟩:=h
  have h1:a=.int .i64 k.1:=h1
  have h2:b=.int .i64 k.2:=h2
  have h3:_=[]:=h3
  subst h1 h2 h3;rfl
 bits:=fun k=>by unfold Instr.sameBits;simp[Instr.sameBits]
def ry:rn (Int × Bool) where
 av:=fun k=>[.int .i64 k.1,.bool k.2]
 val:=fun k=>#[.int .i64 k.1,.bool k.2]
 one:=fun {I k v} h=>by
  obtain ⟨vs,rfl,a,_,rfl,h1,b,_,rfl,h2,h3⟩:=h
  have h1:a=.int .i64 k.1:=h1
  have h2:b=.bool k.2:=h2
  have h3:_=[]:=h3
  subst h1 h2 h3;rfl
 bits:=fun k=>by unfold Instr.sameBits;simp[Instr.sameBits]
set_option maxRecDepth 200000 in
set_option maxHeartbeats 4000000 in
theorem Ap:gN me prog 77 where
 und:=⟨_,Zg⟩
 chk:=fun e k w=>by
  have hS:prog.underlying 77=some (.struct (prog.fieldsOf 77)):=by kernel_rfl
  rw[show (10000:Nat)=9999+1 from rfl]
  unfold Instr.checkKey
  rw[Sem.run_bind,run_underlying hS]
  simp only[Result.andThen,me,Program.fieldsOf,Zg]
  have h1:∀n w,(Instr.checkKey e 9999 3 (.int .i64 n)).run prog w=.ok () w:=fun n w=>MapKept.run_checkKey (d:=.int .i64) (k:=kv n) Zp (nq n) e 9998
  simp[part,j6,h1,Sem.run_bind,Result.andThen]
 eq:=fun k k' w=>by
  have hS:prog.underlying 77=some (.struct (prog.fieldsOf 77)):=by kernel_rfl
  have hp:prog.stoodInHeld 77=false:=by kernel_rfl
  unfold Op.equal me
  rw[show Op.maxDepth=9999+1 from rfl,run_equalIn_agg w 9999 _ _ _ hS hp]
  simp only[Program.fieldsOf,Zg]
  simp[Op.eqFields,part,j6,run_equalIn_int,Zp]
  obtain ⟨a,b⟩:=k
  obtain ⟨a',b'⟩:=k'
  by_cases h1:a=a'<;>by_cases h2:b=b'<;>simp[h1,h2]
set_option maxRecDepth 200000 in
set_option maxHeartbeats 4000000 in
theorem iF:gN ry prog 279 where
 und:=⟨_,underlying279⟩
 chk:=fun e k w=>by
  have hS:prog.underlying 279=some (.struct (prog.fieldsOf 279)):=by kernel_rfl
  rw[show (10000:Nat)=9999+1 from rfl]
  unfold Instr.checkKey
  rw[Sem.run_bind,run_underlying hS]
  simp only[Result.andThen,ry,Program.fieldsOf,underlying279]
  have h1:∀n w,(Instr.checkKey e 9999 3 (.int .i64 n)).run prog w=.ok () w:=fun n w=>MapKept.run_checkKey (d:=.int .i64) (k:=kv n) Zp (nq n) e 9998
  have h2:∀n w,(Instr.checkKey e 9999 4 (.bool n)).run prog w=.ok () w:=fun n w=>MapKept.run_checkKey (d:=.bool) (k:=.bool n) Zy trivial e 9998
  simp[part,j6,Yh,h1,h2,Sem.run_bind,Result.andThen]
 eq:=fun k k' w=>by
  have hS:prog.underlying 279=some (.struct (prog.fieldsOf 279)):=by kernel_rfl
  have hp:prog.stoodInHeld 279=false:=by kernel_rfl
  unfold Op.equal ry
  rw[show Op.maxDepth=9999+1 from rfl,run_equalIn_agg w 9999 _ _ _ hS hp]
  simp only[Program.fieldsOf,underlying279]
  simp[Op.eqFields,part,j6,Yh,run_equalIn_int,run_equalIn_bool',Zp,Zy]
  obtain ⟨a,b⟩:=k
  obtain ⟨a',b'⟩:=k'
  by_cases h1:a=a'<;>by_cases h2:b=b'<;>simp[h1,h2]
end Go.Proofs.YtdilpodccjlkgaaGreatDoor
