/- What is decided of a bool variable, step by step; what was decided already. Plain law. No conditions. -/
import Derived.Test.YtdilpodccjlkgaaGreatDoorJq
import Derived.Test.YtdilpodccjlkgaaGreatDoorJo
import Derived.Test.YtdilpodccjlkgaaGreatDoorJp
set_option linter.unusedVariables false
set_option linter.unusedSimpArgs false
set_option linter.unusedSectionVars false
namespace Go.Proofs.YtdilpodccjlkgaaGreatDoor
open Go.Proofs.Tryz
open Go.Proofs Go.Lib Go.Shelf Go.RowKit
theorem Ia:dE prog 183 #[(0,1),(1,1),(2,1)] [.int .i64 0,.int .i64 0,.int .i64 0]:=⟨_,_,Yy,zeroValue183,fun w=>by kernel_rfl,rfl⟩
theorem FC:df prog 181 183 1 3 [.int .i64 0,.int .i64 0,.int .i64 0]:=⟨_,underlying181,sizeOf183,zeroValue183,by decide,by decide,by kernel_rfl⟩
variable {E:World}
set_option maxRecDepth 20000
def iP (r:wI):List AV:=[.int .i64 r.a,.int .i64 r.b,.int .i64 r.n]
theorem DT (l:List wI):(l.map iP).flatten.length=l.length*3:=by
 induction l with
 |nil=>rfl
 |cons o r ih=>rw[List.map_cons,List.flatten_cons,qz,ih,List.length_cons];show 3+_=_;omega
theorem rh {f:ac} {v:Int} (h:v<f.vars.length∧0≤v):bd f v=true:=by unfold bd;simpa using ⟨h.2,h.1⟩
theorem oq {f:ac} {v:Int} (h:bd f v=true):aM prog E 202 [.agg (bD f),.fro 2 ((cf f).map eP.row),.int .i64 v] (.tup [.agg (I6 (dz f v)),.bool (dz f v).isSome]):=by
 obtain ⟨hv0,hvg⟩:=gc h
 unfold bD
 refine zp func202 Z (by decide) Z<|ai<|y9 (cs:=_) Z Z Z<|y6 (cs:=[.int .i64 0,.int .i64 0,.raw (.slice none 0 0),.int .i64 0]) Zf Z Z<|fun i6=>ab Z<|z6<|zd<|ai<|bc Z<|aa Z<|za (bv v.toNat Zw Yt Z Z (by omega) hvg)<|ae isAgg77 Yt Z Z<|y6 (cs:=[.int .i64 0,.int .i64 0]) zeroValue77 Z Z<|fun i8=>y1 Yt Z Z Z Z Z Z .head Z<|ze (yc (t:=8) Z .head)<|z6<|zd<|ye (γ:=Bool) [3,6,8] (fun u=>[(20,.bool u)]) (fun u=>[(i6,.cells 54 [.int .i64 0,.int .i64 0,.raw (.slice none 0 0),.int .i64 0])]) (fun u=>u=decide (0≤(aL f v).1∧0≤(aL f v).2)) ?_ (fun _ _ h=>h) ?_
 ·refine aT<|au Zp Z wz Z Z<|aA j6 Z<|za (q5 Z Z)<|aj Z<|zq (s:=16) Z (fun c1=>?_) (fun c1=>?_)
  ·refine z8 Z Z c1<|au Zp Z wz Z Z<|z8 Z Z c1<|aA j6 Z<|z8 Z Z c1<|za (q5 Z Z)<|aw Z c1 Z<|z6 ?_
   exact ⟨_,de,aK,aH,by simp_all<;>omega⟩
  ·refine z7 Z Z c1<|z7 Z Z c1<|z7 Z Z c1<|ay Z c1 Z<|z6 ?_
   exact ⟨_,de,aK,aH,by simp_all<;>omega⟩
 ·rintro u hu
  refine zy Z (fun cu=>?_) (fun cu=>?_)
  ·have hy:0≤(aL f v).1∧0≤(aL f v).2:=wd (hu▸cu)
   obtain ⟨i,b,h1,h2,h3⟩:=gv hy.1
   obtain ⟨q,x,h4,h5,h6⟩:∃(q:Nat) (x:aF),b.insts[q]?=some x∧x.dst=v∧(aL f v).2=q:=by
    rcases h3 with ⟨_,_,_,h4⟩|h3
    ·omega
    ·exact h3
   have hm:dz f v=some x:=by unfold dz;rw[if_pos hy,h2,h6,Int.toNat_natCast,Int.toNat_natCast,h1];exact h4
   rw[hm]
   refine zd<|zr (fun j=>Nat.beq j 11) (by kernel_rfl) Z (zj (.rest _))<|ad 0 Z (bM jg Z Z8 Z Z)<|ad 1 Z (fa Zh Z)<|ad 2 Z (bM Zp Z wz Z Z)<|ad 3 Z (cR j6 Z)<|ad 4 Z (bv i ju jy Z Z h2 h1)<|ad 5 Z (bM ji Z Zq Z Z)<|ad 6 Z (fa Y4 Z)<|ad 7 Z (bM Zp Z wz Z Z)<|ad 8 Z (cR j6 Z)<|ad 9 Z (bv q jz jx Z Z h6 h4)<|ad 10 Z (yx Y0 jx Z Z)<|yf<|yi (i:=11) Z (by kernel_rfl) (by kernel_rfl)<|y1 jx Z Z Z Z Z Z .head Z<|z6<|yi (i:=12) Z (by kernel_rfl) (by kernel_rfl)<|ab Z<|z6<|ym (by kernel_rfl)<|zi<|dZ.c1t (y:=.bool _) Z Z ⟨_,.head⟩ Y0 jx Z ?_
   rfl
  ·have hn:dz f v=none:=by unfold dz;rw[if_neg (we (hu▸cu))]
   rw[hn]
   refine zh<|ai<|za (y4 (cps:=[]) (rs:=[.int .i64 0,.int .i64 0,.raw (.slice none 0 0),.int .i64 0]) Fo Z Z Z)<|y1 jx Z Z Z Z Z Z .head Z<|ab Z<|z6<|zi<|dZ.c1t (y:=.bool _) Z Z ⟨_,.head⟩ Y0 jx Z ?_
   rfl
theorem v6 {f:ac} {v:Int} (h:bd f v=true) (hm:dz f v=none):aM prog E 202 [.agg (bD f),.fro 2 ((cf f).map eP.row),.int .i64 v] (.tup [.agg [.int .i64 0,.int .i64 0,.raw (.slice none 0 0),.int .i64 0],.bool false]):=by
 have:=oq (E:=E) h
 rw[hm] at this
 exact this
theorem v7 {f:ac} {v:Int} (h:bd f v=true) {y:aF} (hm:dz f v=some y):aM prog E 202 [.agg (bD f),.fro 2 ((cf f).map eP.row),.int .i64 v] (.tup [.agg (bF y),.bool true]):=by
 have:=oq (E:=E) h
 rw[hm] at this
 exact this
def DU (f:ac) (bs jo n:Nat):List AV:=[.fro 2 (f.vars.map gD),.fro 1 (f.params.map da),.fro 7 (f.blocks.map dk),.fro 2 ((cf f).map eP.row),dA bs,.own jo n]
def ua (f:ac) (iq bs jo:Nat) (es:List (gg × Int)) (q:kz):OL:=[(iq,.cells 256 (DU f bs jo q.out.length)),(0,lZ tZ bs es),(jo,.grow 3 183 (q.out.map iP).flatten)]
theorem x9 (f:ac) (iq bs jo:Nat) (es:List (gg × Int)) (q:kz) (a b n:Int) (hl:q.out.length≤100000) :
  aZ prog E 203 [.po iq 0,.int .i64 a,.int .i64 b,.int .i64 n] (ua f iq bs jo es q) (fun y O=>∃g:Nat,y=.tup []∧O=ua f iq bs g es (fd q a b n)∧True):=by
 refine q9 (γ:=Nat) (x:=fun g=>.tup []) (M:=fun g=>ua f iq bs g es (fd q a b n)) (p:=fun _=>True) ?_
 unfold ua
 refine zp func203 Z (by decide) Z<|ai<|aa Z<|aa Z<|aO Z Z<|z6<|zy Z (fun c=>?_) (fun c=>?_)
 ·have c:¬a=b:=by simpa using c
  have ht:fd q a b n=⟨q.seen,q.out++[⟨a,b,n⟩]⟩:=by unfold fd;rw[if_neg c]
  have hrl:=DT q.out
  refine aT<|aJ Z<|aJ Z<|aq Z<|za (zf Yb Z sizeOf181 (by decide) Z Z)<|za (zo (c:=.own _ _) isAgg181 Z ⟨_,.head⟩ Z)<|aa Z<|aa Z<|aa Z<|za (y4 (cps:=[(0,[_]),(1,[_]),(2,[_])]) (rs:=[_,_,_]) Ia Z Z Z)<|y3 (rows:=[[_,_,_]]) FC Z Z Z Z Z<|yq (k:=3) underlying181 type183 Z Z Z Z Z (fun _=>.t2) hrl (by decide) Z (by show (_+_)*24≤_;simp<;>omega) (by simp<;>omega)<|fun i21=>aq Z<|za (zf Yb Z sizeOf181 (by decide) Z Z)<|yp (l:=[_]) (new:=[_,_,_,_,_,_]) sizeOf181 Z Z Z Z Z Z .head Z Z<|z6<|y8 (zb (zc .t2))<|y8 (zb (zc .t2))<|y8 (zb (zc .t2))<|yl ?_
  exact ⟨i21,rfl,⟨_,.refl _,by rw[ht,w5,List.flatten_append,qz];rfl⟩,trivial⟩
 ·have c:a=b:=by simpa using c
  have ht:fd q a b n=q:=by unfold fd;rw[if_pos c]
  refine zh<|yl ?_
  exact ⟨jo,rfl,⟨_,.refl _,by rw[ht]⟩,trivial⟩
end Go.Proofs.YtdilpodccjlkgaaGreatDoor
namespace Go.Proofs.YtdilpodccjlkgaaGreatDoor
open Go.Proofs.Tryz
open Go.Proofs Go.Lib Go.Shelf Go.RowKit
theorem DV:dE prog 279 #[(0,1),(1,1)] [.int .i64 0,.bool false]:=⟨_,_,underlying279,zeroValue279,fun w=>by kernel_rfl,rfl⟩
variable {E:World}
set_option maxRecDepth 20000
def DW (E:World) (f:ac) (iq bs:Nat) (n:Nat):Prop:=∀(q:kz) (es:List (gg × Int)) (jo:Nat) (c:Int) (is:Bool),bd f c=true→rz f c<n→iO f es q→fO es≤2*q.seen.length →
 aZ prog E 185 [.po iq 0,.int .i64 c,.bool is] (ua f iq bs jo es q) (fun y O=>∃g:Nat × List (gg × Int),y=.tup []∧O=ua f iq bs g.1 g.2 (kC f n q c is)∧iO f g.2 (kC f n q c is)∧fO g.2+2*q.seen.length≤fO es+2*(kC f n q c is).seen.length+1)
set_option maxHeartbeats 16000000 in
theorem DX (f:ac) (hR:b7 f) (hv:f.vars.length≤1000) (iq bs n:Nat) (ih:DW E f iq bs n):DW E f iq bs (n+1):=by
 intro q es jo c is hc hrk hA hcn
 have hval:=hA.val (c,is)
 have hlen:=hA.len
 have hol:=hA.out
 have hnn:=tX es hA.pos
 obtain ⟨es1,hes1⟩:∃es1,bT es (c,is) ((bg es (c,is)).getD 0+1)=es1:=⟨_,rfl⟩
 have hg1:(bg es1 (c,is)).getD 0=(bg es (c,is)).getD 0+1:=by rw[←hes1,nL,if_pos rfl];rfl
 have hold:=fun h=>hA.old (k:=(c,is)) h
 have hnew:=fun h=>hA.new (k:=(c,is)) h hc
 rw[hes1] at hold hnew
 refine q9 (γ:=Nat × List (gg × Int)) (x:=fun _=>.tup []) (M:=fun g=>ua f iq bs g.1 g.2 (kC f (n+1) q c is)) (p:=fun g=>iO f g.2 (kC f (n+1) q c is)∧fO g.2+2*q.seen.length≤fO es+2*(kC f (n+1) q c is).seen.length+1) ?_
 have tell:=fun es (k:gg) a b m=>x9 (E:=E) f iq bs jo es ⟨q.seen++[k],q.out⟩ a b m (by show q.out.length≤_;omega)
 have ih:=fun q es jo c is h1 h2 h3 h4=>ih q es jo c is h1 h2 h3 h4
 unfold ua at tell ih ⊢
 unfold kC
 refine zp func185 Z (by decide) Z ?_
 rcases hm:dz f c with _|x
 ·refine zd<|ye (γ:=Nat) [0,1,2] (fun g=>[(6,.po g 0),(7,.bool false)]) (fun g=>[(iq,.cells 256 (DU f bs jo q.out.length)),(g,.cells 54 [.int .i64 0,.int .i64 0,.raw (.slice none 0 0),.int .i64 0]),(0,lZ tZ bs es),(jo,.grow 3 183 (q.out.map iP).flatten)]) (fun g=>True) ?_ (fun _ _ h=>h) ?_
  ·refine zr (fun j=>Nat.beq j 14) (by kernel_rfl) Z (zj (.r (.rest _)))<|ad 0 Z (cP Z)<|ad 1 Z (zw Z)<|ad 2 Z (zf Yb Z jj (by decide) Z Z)<|ad 3 Z (Gv.loadAC (l:=[_,_,_]) jv jj Z ⟨_,.head⟩ Z Z)<|ad 4 Z (cP Z)<|ad 5 Z (zw Z)<|ad 6 Z (zf Yb Z Yu (by decide) Z Z)<|ad 7 Z (zo (c:=.fro _ _) Xe Z ⟨_,.head⟩ Z)<|ad 8 Z (cD Z)<|yr (i:=9) (j:=13) Z Z (by kernel_rfl) ?_ ?_
   ·refine zg (v6 hc hm) Z<|z6<|ad 10 Z (kw Z)<|ad 11 Z (qa (v:=.agg _) Z Z)<|yo (i:=12) Z (by kernel_rfl) (by kernel_rfl) (by kernel_rfl) (by kernel_rfl) (jO Z Z)<|aQ 13 Z<|y6 (cs:=[.int .i64 0,.int .i64 0,.raw (.slice none 0 0),.int .i64 0]) Zf Z Z<|fun i6=>z6<|yf<|yi (i:=14) Z (by kernel_rfl) (by kernel_rfl)<|y1 jx Z Z Z Z Z Z .t1 Z<|z6<|yi (i:=15) Z (by kernel_rfl) (by kernel_rfl)<|ab Z<|z6<|ym (by kernel_rfl) ?_
    exact ⟨i6,(by repeat (first|with_reducible exact ya _ _|refine yt rfl ?_)),eh,aH,trivial⟩
   ·refine y6 (cs:=[.int .i64 0,.int .i64 0,.raw (.slice none 0 0),.int .i64 0]) Zf Z Z<|fun i6=>z6<|aQ 9 Z<|zg (v6 hc hm) Z<|z6<|ad 10 Z (kw Z)<|ad 11 Z (qa (v:=.agg _) Z Z)<|yo (i:=12) Z (by kernel_rfl) (by kernel_rfl) (by kernel_rfl) (by kernel_rfl) (jO Z Z)<|yf<|yi (i:=14) Z (by kernel_rfl) (by kernel_rfl)<|y1 jx Z Z Z Z Z Z .t1 Z<|z6<|yi (i:=15) Z (by kernel_rfl) (by kernel_rfl)<|ab Z<|z6<|ym (by kernel_rfl) ?_
    exact ⟨i6,(by repeat (first|with_reducible exact ya _ _|refine yt rfl ?_)),eh,aH,trivial⟩
  ·rintro i6 _
   refine zd<|zd<|ye (γ:=Unit) [0,1,2,6,7] (fun u=>[]) (fun u=>[(iq,.cells 256 (DU f bs jo q.out.length)),(i6,.cells 54 [.int .i64 0,.int .i64 0,.raw (.slice none 0 0),.int .i64 0]),(0,lZ tZ bs es1),(jo,.grow 3 183 (q.out.map iP).flatten)]) (fun u=>True) ?_ (fun _ _ h=>h) ?_
   ·refine zr (fun j=>false) (by kernel_rfl) Z (zj (.r (.rest _)))<|ad 0 Z (cP Z)<|ad 1 Z (zw Z)<|ad 2 Z (zf Yb Z sizeOf254 (by decide) Z Z)<|ad 3 Z (zo (c:=dA _) isAgg254 Z ⟨_,.head⟩ Z)<|ad 4 Z (cD Z)<|ad 5 Z (nT Z)<|ad 6 Z (y4 (cps:=[(0,[_]),(1,[_])]) (rs:=[_,_]) DV Z Z Z)<|yr (i:=7) (j:=9) Z Z (by kernel_rfl) ?_ ?_
    ·refine za (Gv.lookup1ST (k:=(c,is)) ke Yr Zv Z Z ⟨_,.t1⟩)<|z6<|ad 8 Z (wT Z Z)<|aQ 9 Z<|az.mapEntryS (k:=(c,is)) ke Yr Zv Z Z (fun _=>.t1)<|fun s30=>z6<|ad 10 Z (jL Z Z)<|aQ 11 Z<|az.entryStoreS Z Z Z .t1<|z6<|bJ ?_
     exact ⟨(),(by repeat (first|with_reducible exact ya _ _|refine yt rfl ?_)),trivial,⟨_,(.refl _),by rw[lL,hes1];rfl⟩,trivial⟩
    ·refine az.mapEntryS (k:=(c,is)) ke Yr Zv Z Z (fun _=>.t1)<|fun s30=>z6<|ad 10 Z (jL Z Z)<|aQ 7 Z<|za (Gv.lookup1SE (k:=(c,is)) ke Yr Zv Z Z ⟨_,.t1⟩)<|z6<|ad 8 Z (wT Z Z)<|aQ 11 Z<|az.entryStoreS Z Z Z .t1<|z6<|bJ ?_
     exact ⟨(),(by repeat (first|with_reducible exact ya _ _|refine yt rfl ?_)),trivial,⟨_,(.refl _),by rw[lL,hes1];rfl⟩,trivial⟩
   ·rintro u _
    refine ai<|aj Z<|aD Z<|aj Z<|z7 Z Z Z<|z7 Z Z Z<|z7 Z Z Z<|z7 Z Z Z<|z7 Z Z Z<|z7 Z Z Z<|z7 Z Z Z<|z7 Z Z Z<|z7 Z Z Z<|aw Z Z Z<|z6 ?_
    rcases hk:q.seen.contains (c,is) with _|_
    ·rw[if_neg (show ¬(false=true) by decide)]
     refine yu Z Z<|zi<|yl ?_
     exact ⟨(jo,es1),rfl,⟨_,.keep (.drop (.refl _)),rfl⟩,(hnew hk).1,by have:=(hnew hk).2;simp;omega⟩
    ·rw[if_pos (show true=true from rfl)]
     refine yu Z Z<|zi<|yl ?_
     exact ⟨(jo,es1),rfl,⟨_,.keep (.drop (.refl _)),rfl⟩,(hold hk).1,by have:=(hold hk).2;dsimp only;omega⟩
 ·obtain ⟨hF,_,_⟩:=hR.madeF hm
  have a0:∀{k:Int},x.op=k→0<([0,1,2,2,2,2,2,2,2,2,1,2,1,2,3,1,0,1,2,1,1,2,2,2,1,2,2][k.toNat]?).getD 0→(bd f (bj x)=true∧rz f (bj x)<n)∧0<x.args.length:=fun e h=>by
   have hl:0<x.args.length:=by rw[hF.cnt e];exact h
   have:=hR.rk0 hm hl
   exact ⟨⟨rh (hF.a0 hl),by omega⟩,hl⟩
  have a1:∀{k:Int},x.op=k→1<([0,1,2,2,2,2,2,2,2,2,1,2,1,2,3,1,0,1,2,1,1,2,2,2,1,2,2][k.toNat]?).getD 0→(bd f (bY x)=true∧rz f (bY x)<n)∧1<x.args.length:=fun e h=>by
   have hl:1<x.args.length:=by rw[hF.cnt e];exact h
   have:=hR.rk1 hm hl
   exact ⟨⟨rh (hF.a1 hl),by omega⟩,hl⟩
  refine zd<|ye (γ:=Nat) [0,1,2] (fun g=>[(6,.po g 0),(7,.bool true)]) (fun g=>[(iq,.cells 256 (DU f bs jo q.out.length)),(g,.cells 54 (bF x)),(0,lZ tZ bs es),(jo,.grow 3 183 (q.out.map iP).flatten)]) (fun g=>True) ?_ (fun _ _ h=>h) ?_
  ·refine zr (fun j=>Nat.beq j 14) (by kernel_rfl) Z (zj (.r (.rest _)))<|ad 0 Z (cP Z)<|ad 1 Z (zw Z)<|ad 2 Z (zf Yb Z jj (by decide) Z Z)<|ad 3 Z (Gv.loadAC (l:=[_,_,_]) jv jj Z ⟨_,.head⟩ Z Z)<|ad 4 Z (cP Z)<|ad 5 Z (zw Z)<|ad 6 Z (zf Yb Z Yu (by decide) Z Z)<|ad 7 Z (zo (c:=.fro _ _) Xe Z ⟨_,.head⟩ Z)<|ad 8 Z (cD Z)<|yr (i:=9) (j:=13) Z Z (by kernel_rfl) ?_ ?_
   ·refine zg (v7 hc hm) Z<|z6<|ad 10 Z (kw Z)<|ad 11 Z (qa (v:=.agg _) Z Z)<|yo (i:=12) Z (by kernel_rfl) (by kernel_rfl) (by kernel_rfl) (by kernel_rfl) (jO Z Z)<|aQ 13 Z<|y6 (cs:=[.int .i64 0,.int .i64 0,.raw (.slice none 0 0),.int .i64 0]) Zf Z Z<|fun i6=>z6<|yf<|yi (i:=14) Z (by kernel_rfl) (by kernel_rfl)<|y1 jx Z Z Z Z Z Z .t1 Z<|z6<|yi (i:=15) Z (by kernel_rfl) (by kernel_rfl)<|ab Z<|z6<|ym (by kernel_rfl) ?_
    exact ⟨i6,(by repeat (first|with_reducible exact ya _ _|refine yt rfl ?_)),eh,aH,trivial⟩
   ·refine y6 (cs:=[.int .i64 0,.int .i64 0,.raw (.slice none 0 0),.int .i64 0]) Zf Z Z<|fun i6=>z6<|aQ 9 Z<|zg (v7 hc hm) Z<|z6<|ad 10 Z (kw Z)<|ad 11 Z (qa (v:=.agg _) Z Z)<|yo (i:=12) Z (by kernel_rfl) (by kernel_rfl) (by kernel_rfl) (by kernel_rfl) (jO Z Z)<|yf<|yi (i:=14) Z (by kernel_rfl) (by kernel_rfl)<|y1 jx Z Z Z Z Z Z .t1 Z<|z6<|yi (i:=15) Z (by kernel_rfl) (by kernel_rfl)<|ab Z<|z6<|ym (by kernel_rfl) ?_
    exact ⟨i6,(by repeat (first|with_reducible exact ya _ _|refine yt rfl ?_)),eh,aH,trivial⟩
  ·rintro i6 _
   refine zd<|zd<|ye (γ:=Unit) [0,1,2,6,7] (fun u=>[]) (fun u=>[(iq,.cells 256 (DU f bs jo q.out.length)),(i6,.cells 54 (bF x)),(0,lZ tZ bs es1),(jo,.grow 3 183 (q.out.map iP).flatten)]) (fun u=>True) ?_ (fun _ _ h=>h) ?_
   ·refine zr (fun j=>false) (by kernel_rfl) Z (zj (.r (.rest _)))<|ad 0 Z (cP Z)<|ad 1 Z (zw Z)<|ad 2 Z (zf Yb Z sizeOf254 (by decide) Z Z)<|ad 3 Z (zo (c:=dA _) isAgg254 Z ⟨_,.head⟩ Z)<|ad 4 Z (cD Z)<|ad 5 Z (nT Z)<|ad 6 Z (y4 (cps:=[(0,[_]),(1,[_])]) (rs:=[_,_]) DV Z Z Z)<|yr (i:=7) (j:=9) Z Z (by kernel_rfl) ?_ ?_
    ·refine za (Gv.lookup1ST (k:=(c,is)) ke Yr Zv Z Z ⟨_,.t1⟩)<|z6<|ad 8 Z (wT Z Z)<|aQ 9 Z<|az.mapEntryS (k:=(c,is)) ke Yr Zv Z Z (fun _=>.t1)<|fun s30=>z6<|ad 10 Z (jL Z Z)<|aQ 11 Z<|az.entryStoreS Z Z Z .t1<|z6<|bJ ?_
     exact ⟨(),(by repeat (first|with_reducible exact ya _ _|refine yt rfl ?_)),trivial,⟨_,(.refl _),by rw[lL,hes1];rfl⟩,trivial⟩
    ·refine az.mapEntryS (k:=(c,is)) ke Yr Zv Z Z (fun _=>.t1)<|fun s30=>z6<|ad 10 Z (jL Z Z)<|aQ 7 Z<|za (Gv.lookup1SE (k:=(c,is)) ke Yr Zv Z Z ⟨_,.t1⟩)<|z6<|ad 8 Z (wT Z Z)<|aQ 11 Z<|az.entryStoreS Z Z Z .t1<|z6<|bJ ?_
     exact ⟨(),(by repeat (first|with_reducible exact ya _ _|refine yt rfl ?_)),trivial,⟨_,(.refl _),by rw[lL,hes1];rfl⟩,trivial⟩
   ·rintro u _
    refine zz (yc (t:=6) Z .t1)<|ai<|aj Z<|aD Z<|aj Z<|z8 Z Z Z<|aJ Z<|z8 Z Z Z<|aq Z<|z8 Z Z Z<|za (zf Yb Z sizeOf254 (by decide) Z Z)<|z8 Z Z Z<|za (zo (c:=dA _) isAgg254 Z ⟨_,.head⟩ Z)<|z8 Z Z Z<|aa Z<|z8 Z Z Z<|aj Z<|z8 Z Z Z<|za (y4 (cps:=[(0,[_]),(1,[_])]) (rs:=[_,_]) DV Z Z Z)<|z8 Z Z Z<|za (Gv.lookup1ST (k:=(c,is)) ke Yr Zv Z Z ⟨_,.t1⟩)<|z8 Z Z Z<|aY Z Z<|ay Z Z Z<|z6<|zy Z (fun c44=>?_) (fun c44=>?_)
    ·have hk:q.seen.contains (c,is)=true:=hval.2.2.2 (by have:=wd c44;rw[hg1] at this;omega)
     rw[if_pos hk]
     refine zi<|yl ?_
     exact ⟨(jo,es1),rfl,⟨_,.refl _,rfl⟩,(hold hk).1,by have:=(hold hk).2;dsimp only;omega⟩
    ·have hk:q.seen.contains (c,is)=false:=by
      cases e:q.seen.contains (c,is) with
      |false=>rfl
      |true=>
       have h1:=hval.2.2.1 e
       have:=we c44
       rw[hg1] at this;omega
     rw[if_neg (show ¬q.seen.contains (c,is)=true by rw[hk];decide)]
     obtain ⟨hA1,hc1⟩:=hnew hk
     have hl1:(q.seen++[(c,is)]).length=q.seen.length+1:=by simp
     dsimp only
     have two:∀a b m,iO f es1 (fd ⟨q.seen++[(c,is)],q.out⟩ a b m)∧fO es1+2*q.seen.length≤fO es+2*(fd ⟨q.seen++[(c,is)],q.out⟩ a b m).seen.length+1:=fun a b m=>by
      have h:=hA1.tell hol a b m
      exact ⟨h.1,by rw[h.2,hc1,hl1];omega⟩
     have one:iO f es1 ⟨q.seen++[(c,is)],q.out⟩∧fO es1+2*q.seen.length≤fO es+2*(kz.mk (q.seen++[(c,is)]) q.out).seen.length+1:=⟨hA1,by dsimp only;rw[hc1,hl1];omega⟩
     refine zh<|zk<|ai<|au j5 Z Z2 Z Z<|aA Z3 Z<|ao Z Z<|ab Z<|z6<|zt Z (fun c10=>?_) (fun c10=>?_)
     ·have c10:x.op=10:=c10
      obtain ⟨⟨h1,h2⟩,h3⟩:=a0 c10 (by decide)
      rw[if_pos c10]
      refine aT<|aJ Z<|au j5 Z j7 Z Z<|aI je Z<|za (bv 0 wy wz Z Z Z (cU h3))<|aA j6 Z<|aj Z<|aD Z<|zu Z (zj (.l (.l (.l (.rest _))))) (ih ⟨q.seen++[(c,is)],q.out⟩ es1 jo (bj x) (!is) h1 h2 hA1 (by dsimp only;rw[hc1,hl1];omega)) ?_
      rintro r56 O56 ⟨⟨j1,e1⟩,rfl,rfl,hB1,hB2⟩
      refine z6<|yl ?_
      exact ⟨(j1,e1),rfl,⟨_,.refl _,rfl⟩,hB1,by dsimp only at hB2 ⊢;rw[hc1,hl1] at hB2;omega⟩
     ·rw[if_neg (show ¬x.op=10 from c10)]
      refine ai<|au j5 Z Z2 Z Z<|aA Z3 Z<|ao Z Z<|ab Z<|z6<|zt Z (fun c1=>?_) (fun c1=>?_)
      ·have c1:x.op=1:=c1
       obtain ⟨⟨h1,h2⟩,h3⟩:=a0 c1 (by decide)
       rw[if_pos c1]
       refine aT<|aJ Z<|au j5 Z j7 Z Z<|aI je Z<|za (bv 0 wy wz Z Z Z (cU h3))<|aA j6 Z<|aj Z<|zu Z (zj (.l (.l (.l (.rest _))))) (ih ⟨q.seen++[(c,is)],q.out⟩ es1 jo (bj x) is h1 h2 hA1 (by dsimp only;rw[hc1,hl1];omega)) ?_
       rintro r67 O67 ⟨⟨j1,e1⟩,rfl,rfl,hB1,hB2⟩
       refine z6<|yl ?_
       exact ⟨(j1,e1),rfl,⟨_,.refl _,rfl⟩,hB1,by dsimp only at hB2 ⊢;rw[hc1,hl1] at hB2;omega⟩
      ·rw[if_neg (show ¬x.op=1 from c1)]
       refine ai<|au j5 Z Z2 Z Z<|aA Z3 Z<|ao Z Z<|aj Z<|zq (s:=72) Z (fun s11=>?_) (fun s11=>?_)
       ·have c11:x.op=11:=wd s11
        obtain ⟨⟨h1,h2⟩,h3⟩:=a0 c11 (by decide)
        obtain ⟨⟨g1,g2⟩,g3⟩:=a1 c11 (by decide)
        rw[if_pos c11]
        refine z8 Z Z s11<|aj Z<|aw Z s11 Z<|ab Z<|z6<|zy Z (fun ci=>?_) (fun ci=>?_)
        ·have ci:is=true:=ci
         rw[if_pos ci]
         refine ai<|aJ Z<|au j5 Z j7 Z Z<|aI je Z<|za (bv 0 wy wz Z Z Z (cU h3))<|aA j6 Z<|zu Z (zj (.l (.l (.l (.rest _))))) (ih ⟨q.seen++[(c,is)],q.out⟩ es1 jo (bj x) true h1 h2 hA1 (by dsimp only;rw[hc1,hl1];omega)) ?_
         rintro r80 O80 ⟨⟨j1,e1⟩,rfl,rfl,hB1,hB2⟩
         refine z6 ?_
         dsimp only at hB2
         rw[hc1,hl1] at hB2
         refine aT<|aJ Z<|au j5 Z j7 Z Z<|aI je Z<|za (bv 1 wy wz Z Z Z (dx g3))<|aA j6 Z<|zu Z (zj (.l (.l (.l (.rest _))))) (ih _ e1 j1 (bY x) true g1 g2 hB1 (by omega)) ?_
         rintro r86 O86 ⟨⟨j2,e2⟩,rfl,rfl,hD1,hD2⟩
         refine z6<|yl ?_
         exact ⟨(j2,e2),rfl,⟨_,.refl _,rfl⟩,hD1,by dsimp only at hD2 ⊢;omega⟩
        ·rw[if_neg (show ¬is=true by rw[show is=false from ci];decide)]
         refine ai<|au j5 Z Z2 Z Z<|aA Z3 Z<|ao Z Z<|aj Z<|zq (s:=91) Z (fun d8=>?_) (fun d8=>?_)
         ·exfalso;rw[c11] at d8;exact absurd d8 (by decide)
         ·refine z7 Z Z d8<|ay Z d8 Z<|ab Z<|z6<|yg Z Z<|ai<|au j5 Z Z2 Z Z<|aA Z3 Z<|ao Z Z<|ab Z<|z6<|yg Z (w9 (by rw[c11];decide))<|ai<|au j5 Z Z2 Z Z<|aA Z3 Z<|ao Z Z<|aj Z<|zq (s:=122) Z (fun d9=>?_) (fun d9=>?_)
          ·exfalso;rw[c11] at d9;exact absurd d9 (by decide)
          ·refine z7 Z Z d9<|ay Z d9 Z<|ab Z<|z6<|yg Z Z<|ai<|au j5 Z Z2 Z Z<|aA Z3 Z<|ao Z Z<|ab Z<|z6<|yg Z (w9 (by rw[c11];decide))<|ai<|au j5 Z Z2 Z Z<|aA Z3 Z<|ao Z Z<|aj Z<|zq (s:=153) Z (fun d7=>?_) (fun d7=>?_)
           ·exfalso;rw[c11] at d7;exact absurd d7 (by decide)
           ·refine z7 Z Z d7<|ay Z d7 Z<|ab Z<|z6<|yg Z Z<|zh<|yl ?_
            exact ⟨(jo,es1),rfl,⟨_,.refl _,rfl⟩,one⟩
       ·have c11:¬x.op=11:=we s11
        rw[if_neg c11]
        refine z7 Z Z s11<|ay Z s11 Z<|ab Z<|z6<|yg Z Z<|ai<|au j5 Z Z2 Z Z<|aA Z3 Z<|ao Z Z<|aj Z<|zq (s:=91) Z (fun s8=>?_) (fun s8=>?_)
        ·have c8:x.op=8:=wd s8
         obtain ⟨_,h3⟩:=a0 c8 (by decide)
         obtain ⟨_,g3⟩:=a1 c8 (by decide)
         rw[if_pos c8]
         refine z8 Z Z s8<|aj Z<|aw Z s8 Z<|ab Z<|z6<|zy Z (fun ci=>?_) (fun ci=>?_)
         ·rw[if_pos (show is=true from ci)]
          refine zr (fun j=>false) (by kernel_rfl) Z (zj (.rest _))<|ad 0 Z (cP Z)<|ad 1 Z (bM j5 Z j7 Z Z)<|ad 2 Z (fa je Z)<|ad 3 Z (bv 0 wy wz Z Z Z (cU h3))<|ad 4 Z (cR j6 Z)<|ad 5 Z (bM j5 Z j7 Z Z)<|ad 6 Z (fa je Z)<|ad 7 Z (bv 1 wy wz Z Z Z (dx g3))<|ad 8 Z (cR j6 Z)<|aQ 9 Z<|zu Z (zj (.l (.l (.l (.rest _))))) (tell es1 (c,is) (bj x) (bY x) 0) ?_
          rintro r103 O103 ⟨j1,rfl,rfl,_⟩
          refine z6<|bJ<|yl ?_
          exact ⟨(j1,es1),rfl,⟨_,.refl _,rfl⟩,two _ _ _⟩
         ·rw[if_neg (show ¬is=true by rw[show is=false from ci];decide)]
          refine ai<|au j5 Z Z2 Z Z<|aA Z3 Z<|ao Z Z<|ab Z<|z6<|yu Z (w8 c8)<|zr (fun j=>false) (by kernel_rfl) Z (zj (.rest _))<|ad 0 Z (cP Z)<|ad 1 Z (bM j5 Z j7 Z Z)<|ad 2 Z (fa je Z)<|ad 3 Z (bv 1 wy wz Z Z Z (dx g3))<|ad 4 Z (cR j6 Z)<|ad 5 Z (bM j5 Z j7 Z Z)<|ad 6 Z (fa je Z)<|ad 7 Z (bv 0 wy wz Z Z Z (cU h3))<|ad 8 Z (cR j6 Z)<|aQ 9 Z<|zu Z (zj (.l (.l (.l (.rest _))))) (tell es1 (c,is) (bY x) (bj x) 1) ?_
          rintro r117 O117 ⟨j1,rfl,rfl,_⟩
          refine z6<|bJ<|yl ?_
          exact ⟨(j1,es1),rfl,⟨_,.refl _,rfl⟩,two _ _ _⟩
        ·have c8:¬x.op=8:=we s8
         rw[if_neg c8]
         refine z7 Z Z s8<|ay Z s8 Z<|ab Z<|z6<|yg Z Z<|ai<|au j5 Z Z2 Z Z<|aA Z3 Z<|ao Z Z<|ab Z<|z6<|yg Z (w9 c8)<|ai<|au j5 Z Z2 Z Z<|aA Z3 Z<|ao Z Z<|aj Z<|zq (s:=122) Z (fun s9=>?_) (fun s9=>?_)
         ·have c9:x.op=9:=wd s9
          obtain ⟨_,h3⟩:=a0 c9 (by decide)
          obtain ⟨_,g3⟩:=a1 c9 (by decide)
          rw[if_pos c9]
          refine z8 Z Z s9<|aj Z<|aw Z s9 Z<|ab Z<|z6<|zy Z (fun ci=>?_) (fun ci=>?_)
          ·rw[if_pos (show is=true from ci)]
           refine zr (fun j=>false) (by kernel_rfl) Z (zj (.rest _))<|ad 0 Z (cP Z)<|ad 1 Z (bM j5 Z j7 Z Z)<|ad 2 Z (fa je Z)<|ad 3 Z (bv 0 wy wz Z Z Z (cU h3))<|ad 4 Z (cR j6 Z)<|ad 5 Z (bM j5 Z j7 Z Z)<|ad 6 Z (fa je Z)<|ad 7 Z (bv 1 wy wz Z Z Z (dx g3))<|ad 8 Z (cR j6 Z)<|aQ 9 Z<|zu Z (zj (.l (.l (.l (.rest _))))) (tell es1 (c,is) (bj x) (bY x) 1) ?_
           rintro r134 O134 ⟨j1,rfl,rfl,_⟩
           refine z6<|bJ<|yl ?_
           exact ⟨(j1,es1),rfl,⟨_,.refl _,rfl⟩,two _ _ _⟩
          ·rw[if_neg (show ¬is=true by rw[show is=false from ci];decide)]
           refine ai<|au j5 Z Z2 Z Z<|aA Z3 Z<|ao Z Z<|ab Z<|z6<|yu Z (w8 c9)<|zr (fun j=>false) (by kernel_rfl) Z (zj (.rest _))<|ad 0 Z (cP Z)<|ad 1 Z (bM j5 Z j7 Z Z)<|ad 2 Z (fa je Z)<|ad 3 Z (bv 1 wy wz Z Z Z (dx g3))<|ad 4 Z (cR j6 Z)<|ad 5 Z (bM j5 Z j7 Z Z)<|ad 6 Z (fa je Z)<|ad 7 Z (bv 0 wy wz Z Z Z (cU h3))<|ad 8 Z (cR j6 Z)<|aQ 9 Z<|zu Z (zj (.l (.l (.l (.rest _))))) (tell es1 (c,is) (bY x) (bj x) 0) ?_
           rintro r148 O148 ⟨j1,rfl,rfl,_⟩
           refine z6<|bJ<|yl ?_
           exact ⟨(j1,es1),rfl,⟨_,.refl _,rfl⟩,two _ _ _⟩
         ·have c9:¬x.op=9:=we s9
          rw[if_neg c9]
          refine z7 Z Z s9<|ay Z s9 Z<|ab Z<|z6<|yg Z Z<|ai<|au j5 Z Z2 Z Z<|aA Z3 Z<|ao Z Z<|ab Z<|z6<|yg Z (w9 c9)<|ai<|au j5 Z Z2 Z Z<|aA Z3 Z<|ao Z Z<|aj Z<|zq (s:=153) Z (fun s7=>?_) (fun s7=>?_)
          ·have c7:x.op=7:=wd s7
           obtain ⟨_,h3⟩:=a0 c7 (by decide)
           obtain ⟨_,g3⟩:=a1 c7 (by decide)
           rw[if_pos c7]
           refine z8 Z Z s7<|aj Z<|aw Z s7 Z<|ab Z<|z6<|zy Z (fun ci=>?_) (fun ci=>?_)
           ·rw[if_pos (show is=true from ci)]
            refine zr (fun j=>false) (by kernel_rfl) Z (zj (.rest _))<|ad 0 Z (cP Z)<|ad 1 Z (bM j5 Z j7 Z Z)<|ad 2 Z (fa je Z)<|ad 3 Z (bv 0 wy wz Z Z Z (cU h3))<|ad 4 Z (cR j6 Z)<|ad 5 Z (bM j5 Z j7 Z Z)<|ad 6 Z (fa je Z)<|ad 7 Z (bv 1 wy wz Z Z Z (dx g3))<|ad 8 Z (cR j6 Z)<|aQ 9 Z<|zu Z (zj (.l (.l (.l (.rest _))))) (tell es1 (c,is) (bj x) (bY x) 2) ?_
            rintro r165 O165 ⟨j1,rfl,rfl,_⟩
            refine z6<|bJ<|yl ?_
            exact ⟨(j1,es1),rfl,⟨_,.refl _,rfl⟩,two _ _ _⟩
           ·rw[if_neg (show ¬is=true by rw[show is=false from ci];decide)]
            refine zh<|yl ?_
            exact ⟨(jo,es1),rfl,⟨_,.refl _,rfl⟩,one⟩
          ·have c7:¬x.op=7:=we s7
           rw[if_neg c7]
           refine z7 Z Z s7<|ay Z s7 Z<|ab Z<|z6<|yg Z Z<|zh<|yl ?_
           exact ⟨(jo,es1),rfl,⟨_,.refl _,rfl⟩,one⟩
theorem Ao (f:ac) (hR:b7 f) (hv:f.vars.length≤1000) (iq bs:Nat):∀n,DW E f iq bs n
 |0=>fun _ _ _ _ _ _ h=>by omega
 |n+1=>DX f hR hv iq bs n (Ao f hR hv iq bs n)
end Go.Proofs.YtdilpodccjlkgaaGreatDoor
namespace Go.Proofs.YtdilpodccjlkgaaGreatDoor
open Go.Proofs.Tryz
open Go.Proofs Go.Lib Go.Shelf Go.RowKit
theorem Ib:dE prog 256 #[(0,3),(3,1),(4,1),(5,1)] [.raw (.slice none 0 0),.raw (.slice none 0 0),.raw (.slice none 0 0),.raw (.slice none 0 0),.raw (.map none),.raw (.slice none 0 0)]:=⟨_,_,Yb,zeroValue256,fun w=>by kernel_rfl,rfl⟩
variable {E:World}
set_option maxRecDepth 20000
theorem yA (l:List wI):∀x∈l.map iP,x.length=3:=fun x hx=>by obtain ⟨o,_,rfl⟩:=List.mem_map.1 hx;rfl
theorem v8 (f:ac) (hR:b7 f) (hv:f.vars.length≤1000) (c:Int) (is:Bool) (hc:bd f c=true) :
  aM prog E 151 [.agg (bD f),.fro 2 ((cf f).map eP.row),.int .i64 c,.bool is] (.fro 3 ((kc f c is).map iP)):=by
 have hA:=fun iq bs jo=>Ao (E:=E) f hR hv iq bs 100000 ⟨[],[]⟩ [] jo c is hc (hR.rk_low c) (iO.emp f) (by decide)
 unfold ua at hA
 refine zp func151 Z (by decide) Z<|ai<|y9 (cs:=_) Z Z Z<|za (jK Z)<|z6<|ai<|ae jv jj Z Z<|bc Z<|az.makeMapT (c:=tZ)<|fun b12=>za (y4 (cps:=[(0,[_,_,_]),(1,[_]),(2,[_])]) (rs:=[_,_,_,_,_,.raw (.slice none 0 0)]) Ib Z Z Z)<|yn (cs:=_) Z Z Z Z<|fun i14=>za (fZ Z)<|z6<|gP (off:=5) (k:=3) (T:=183) (fun _=>.head) Z<|fun jo=>zz (zb (zc .t2))<|zz (zb (zc .t2))<|ai<|aJ Z<|aa Z<|aj Z<|zu Z (zj (.l (.l (.l (.rest _))))) (hA i14 b12 jo) ?_
 rintro r18 O18 ⟨⟨j1,e1⟩,rfl,rfl,hB1,hB2⟩
 refine z6<|zz (aS.knowC (off:=5) (rows:=(kc f c is).map iP) .t2 .head Z (by exact yA _) (by decide) (by rw[w1];rfl))<|ai<|aJ Z<|aq Z<|za (zf Yb Z sizeOf181 (by decide) Z Z)<|za (zo (c:=.fro _ _) isAgg181 Z ⟨_,.head⟩ Z)<|za (ni Z)<|z6<|zi<|zn (x:=.fro _ _) Z ?_
 rfl
theorem wh (f:ac) (hf:small f) (hL:bz E) (hR:b7 f) (ht:bi f=true) (hs:dH f=true) (c:Int) (is:Bool) (hc:bd f c=true) (hk:bf f c=1) :
  aM prog E 109 [.agg (bD f),.int .i64 c,.bool is] (.fro 3 ((kc f c is).map iP)):=by
 have h1:=kZ (E:=E) f hf hL
 rw[if_pos (by rw[ht,hs];rfl)] at h1
 have h2:=kY (E:=E) f hf hL ht
 have h3:=v8 (E:=E) f hR hf.1 c is hc
 obtain ⟨vr,hx,hv2,hkt⟩:=kR hc
 have hc2:0≤c∧c<f.vars.length:=by simpa [bd] using hc
 rw[hk] at hkt
 unfold bD at *
 refine zp func109 Z (by decide) Z<|ai<|y9 (cs:=_) Z Z Z<|za (jK Z)<|z6<|zd<|zd<|ye (γ:=Bool) [1,2,3] (fun u=>[(29,.bool u)]) (fun u=>[]) (fun u=>u=false) ?_ (fun _ _ h=>h) ?_
 ·refine aT<|ae jv jj Z Z<|zg (h1) Z<|aO Z Z<|aj Z<|zq (s:=10) Z (fun c1=>?_) (fun c1=>?_)
  ·refine z7 Z Z c1<|z7 Z Z c1<|aw Z c1 Z<|aj Z<|z7 Z Z Z<|z7 Z Z Z<|z7 Z Z Z<|z7 Z Z Z<|z7 Z Z Z<|aw Z Z Z<|aj Z<|z7 Z Z Z<|z7 Z Z Z<|z7 Z Z Z<|z7 Z Z Z<|z7 Z Z Z<|z7 Z Z Z<|z7 Z Z Z<|aw Z Z Z<|z6 ?_
   exact ⟨_,(by repeat (first|with_reducible exact ya _ _|refine yt rfl ?_)),aK,aH,by clear h1 h2 h3 hv2;simp_all<;>omega⟩
  ·refine z8 Z Z c1<|aa Z<|z8 Z Z c1<|ax Z Z<|ay Z c1 Z<|aj Z<|zq (s:=14) Z (fun c2=>?_) (fun c2=>?_)
   ·refine z7 Z Z c2<|z7 Z Z c2<|z7 Z Z c2<|z7 Z Z c2<|z7 Z Z c2<|aw Z c2 Z<|aj Z<|z7 Z Z Z<|z7 Z Z Z<|z7 Z Z Z<|z7 Z Z Z<|z7 Z Z Z<|z7 Z Z Z<|z7 Z Z Z<|aw Z Z Z<|z6 ?_
    exact ⟨_,(by repeat (first|with_reducible exact ya _ _|refine yt rfl ?_)),aK,aH,by clear h1 h2 h3 hv2;simp_all<;>omega⟩
   ·refine z8 Z Z c2<|aa Z<|z8 Z Z c2<|au jg Z Yc Z Z<|z8 Z Z c2<|aI Yn Z<|z8 Z Z c2<|ap Z9 Z<|z8 Z Z c2<|za (q5 Z Z)<|ay Z c2 Z<|aj Z<|zq (s:=21) Z (fun c3=>?_) (fun c3=>?_)
    ·refine z7 Z Z c3<|z7 Z Z c3<|z7 Z Z c3<|z7 Z Z c3<|z7 Z Z c3<|z7 Z Z c3<|z7 Z Z c3<|aw Z c3 Z<|z6 ?_
     exact ⟨_,(by repeat (first|with_reducible exact ya _ _|refine yt rfl ?_)),aK,aH,by clear h1 h2 h3 hv2;simp_all<;>omega⟩
    ·refine z8 Z Z c3<|au jg Z Yc Z Z<|z8 Z Z c3<|aI Yn Z<|z8 Z Z c3<|aa Z<|z8 Z Z c3<|za (bv c.toNat Z9 Yd Z Z hv2 hx)<|z8 Z Z c3<|au Zm Z X2 Z Z<|z8 Z Z c3<|aA Xg Z<|z8 Z Z c3<|aO Z Z<|ay Z c3 Z<|z6 ?_
     exact ⟨_,(by repeat (first|with_reducible exact ya _ _|refine yt rfl ?_)),aK,aH,by clear h1 h2 h3 hv2;simp_all<;>omega⟩
 ·rintro u hu
  subst hu
  refine yg Z Z<|zh<|zd<|zr (fun j=>false) (by kernel_rfl) Z (zj (.rest _))<|ad 0 Z (yx jv jj Z Z)<|ad 1 Z (yx jv jj Z Z)<|ad 3 Z (cD Z)<|ad 4 Z (nT Z)<|aQ 2 Z<|zg (h2) Z<|z6<|aQ 5 Z<|zg (h3) Z<|z6<|ad 6 Z (ni Z)<|bJ<|zi<|zn (x:=.fro _ _) Z ?_
  rfl
theorem DY (K:KS) (r:wI):(gx K r).p=K.p:=by
 unfold gx;repeat' split
 ·exact cN ..
 ·exact cN ..
 ·exact lJ ..
 ·rfl
theorem ub:∀(l:List wI) (K:KS),(l.foldl gx K).p=K.p
 |[],_=>rfl
 |r::l,K=>by rw[List.foldl_cons,ub l,DY]
theorem G9 {f:ac} {i:Int} (h:¬(be (ah f) f.blocks.length i).length=1):En f i=[]:=by
 unfold En
 split
 ·rename_i p e;rw[e] at h;exact absurd rfl h
 ·rfl
def uc (f:ac):AV:=lO eI (cT f f.blocks.length)
set_option maxHeartbeats 4000000 in
theorem BZ {f:ac} {K:KS} {t a9 a10:AV} {iw js jl jm jp:Nat} {M:List Int} (hf:small f) (hL:bz E) (hR:b7 f) (ht:bi f=true) (hs:dH f=true) (hK:KB f K) {i:Nat} (hi:i<f.blocks.length) :
  aZ prog E 69 [.po iw 0,.int .i64 i] (iQ f t (uc f) a9 a10 iw js jl jm jp K M) (fun y O=>∃g:Nat,y=.tup []∧O=iQ f t (uc f) a9 a10 iw js g jm jp (og f K i) M∧True):=by
 refine q9 (γ:=Nat) (x:=fun g=>.tup []) (M:=fun g=>iQ f t (uc f) a9 a10 iw js g jm jp (og f K i) M) (p:=fun _=>True) ?_
 have add:=fun jl K hK a b (ha:aV f a) (hb:aV f b) c=>gT (E:=E) (js:=js) (jm:=jm) (M:=M) jl K hK ha hb c
 have same:=fun jl jp np K hK a b (ha:aV f a) (hb:aV f b)=>mn (E:=E) (t:=t) (pr:=uc f) (a9:=a9) (a10:=a10) (iw:=iw) (js:=js) (jm:=jm) (M:=M) jl jp np K hK ha hb
 have hget:((cT f f.blocks.length).map fun r=>[AV.fro 1 (r.map eI.row)])[i]?=some [.fro 1 ((be (ah f) f.blocks.length i).map da)]:=by rw[w2,jY f hi];rfl
 unfold iQ at *
 unfold og
 refine zp func69 Z (by decide) Z<|zd<|ai<|aJ Z<|aq Z<|za (zf j8 Z Xi (by decide) Z Z)<|za (zo (c:=.fro _ _) isAgg70 Z ⟨_,.head⟩ Z)<|aa Z<|za (Gv.idxF (j:=i) jh j7 Z Z Z hget)<|aI je Z<|ap wy Z<|aO Z Z<|z6<|zy Z (fun c0=>?_) (fun c0=>?_)
 ·have hn:=G9 (f:=f) (i:=i) (by intro e;rw[e] at c0;cases c0)
  rw[hn]
  refine zi<|yl ?_
  exact ⟨jl,rfl,⟨_,.refl _,rfl⟩,trivial⟩
 ·obtain ⟨p,hp⟩:∃p,be (ah f) f.blocks.length i=[p]:=List.length_eq_one_iff.1 (by have h:=c0;simp at h;omega)
  obtain ⟨hp1,_⟩:=hR.pred hp
  have hpr:0≤p∧p<f.blocks.length:=Classical.byContradiction fun hn=>by rw[f6 hn] at hp1;cases hp1
  obtain ⟨q,rfl⟩:∃q:Nat,p=(q:Int):=⟨p.toNat,by omega⟩
  have hq:=qt (show q<f.blocks.length by omega)
  obtain ⟨B,hB⟩:∃B,f.blocks[q]=B:=⟨_,rfl⟩
  rw[hB] at hq
  have hbq:=du hq
  have hat:En f i=if B.term.kind=1∧B.term.to0≠B.term.to1 then kc f B.term.var (decide (B.term.to0=i)) else[]:=by unfold En;rw[hp];dsimp only;rw[hbq]
  rw[hp] at hget
  refine zh<|zd<|zr (fun j=>false) (by kernel_rfl) Z (zj (.r (.rest _)))<|ad 0 Z (cP Z)<|ad 1 Z (zw Z)<|ad 2 Z (zf j8 Z jj (by decide) Z Z)<|ad 3 Z (zf jg Z Z8 (by decide) Z Z)<|ad 4 Z (zo (c:=.fro _ _) Zh Z ⟨_,.head⟩ Z)<|ad 5 Z (cP Z)<|ad 6 Z (zw Z)<|ad 7 Z (zf j8 Z Xi (by decide) Z Z)<|ad 8 Z (zo (c:=.fro _ _) isAgg70 Z ⟨_,.head⟩ Z)<|ad 9 Z (cD Z)<|ad 10 Z (Gv.idxF (j:=i) jh j7 Z Z Z hget)<|ad 11 Z (fa je Z)<|ad 12 Z (bv 0 wy wz Z Z Z Z)<|ad 13 Z (cR j6 Z)<|ad 14 Z (bv q ju jy Z Z Z hq)<|ad 15 Z (bM ji Z Zo Z Z)<|ad 16 Z (yx isAgg49 Zo Z Z)<|aQ 17 Z<|y6 (cs:=[.int .i64 0,.int .i64 0,.int .i64 0,.int .i64 0]) zeroValue49 Z Z<|fun i4=>z6<|aQ 18 Z<|y1 Zo Z Z Z Z Z Z .head Z<|z6<|bJ<|zz (yc (t:=4) Z .t1)<|zd<|zd<|ye (γ:=Bool) [0,1,4] (fun u=>[(44,.bool u)]) (fun u=>[(iw,.cells 75 (lY f t (uc f) js jp K.p.length a9 a10)),(js,.cells 136 [.int .i64 ((f.vars.length+1:Nat):Int),.own jl K.l.length,.own jm M.length]),(jl,.grow 3 180 (K.l.map b8).flatten),(jm,.grow 1 3 (cI M)),(jp,.grow 2 187 (K.p.map b9).flatten)]) (fun u=>u=decide (¬(B.term.kind=1∧B.term.to0≠B.term.to1))) ?_ (fun _ _ h=>h) ?_
  ·refine aT<|au jf Z Y7 Z Z<|aA Yh Z<|aO Z Z<|aj Z<|zq (s:=36) Z (fun c4=>?_) (fun c4=>?_)
   ·refine z7 Z Z c4<|z7 Z Z c4<|z7 Z Z c4<|z7 Z Z c4<|z7 Z Z c4<|z7 Z Z c4<|z7 Z Z c4<|aw Z c4 Z<|z6 ?_
    exact ⟨_,(by repeat (first|with_reducible exact ya _ _|refine yt rfl ?_)),aK,aH,by simp_all⟩
   ·refine z8 Z Z c4<|au jf Z Zd Z Z<|z8 Z Z c4<|za (q3 (j:=0) Z1 wz Z Z Z (by decide) Z)<|z8 Z Z c4<|aA j6 Z<|z8 Z Z c4<|au jf Z Zd Z Z<|z8 Z Z c4<|za (q3 (j:=1) Z1 wz Z Z Z (by decide) Z)<|z8 Z Z c4<|aA j6 Z<|z8 Z Z c4<|ao Z Z<|ay Z c4 Z<|z6 ?_
    exact ⟨_,(by repeat (first|with_reducible exact ya _ _|refine yt rfl ?_)),aK,aH,by simp_all⟩
  ·rintro u hu
   refine zy Z (fun cu=>?_) (fun cu=>?_)
   ·rw[hat,if_neg (wd (hu▸cu))]
    refine zi<|yl ?_
    exact ⟨jl,rfl,⟨_,.refl _,rfl⟩,trivial⟩
   ·have hc:B.term.kind=1∧B.term.to0≠B.term.to1:=by rw[hu] at cu;simpa using cu
    rw[hat,if_pos hc]
    have hbm:=w4 hq
    have hbT:=hR.hT B hbm
    have hvk:bd f B.term.var=true∧bf f B.term.var=1:=by
     have h1:=(hR.run.term _ hbm)
     unfold bH at h1
     rw[if_neg (by omega),if_pos hc.1] at h1
     unfold iK at hbT
     simp only[wa] at h1 hbT
     have h2:=hbT.2
     unfold d6 at h2
     rw[if_neg (by omega),if_pos hc.1] at h2
     simp only[wa] at h2
     exact ⟨h1.1.1,by simpa using h2.1.1⟩
    have hN:∀r∈kc f B.term.var (decide (B.term.to0=(i:Int))),vO f r:=sS hR _ _ _ _ fun r hr=>(by cases hr)
    obtain ⟨R,hRe⟩:∃R,kc f B.term.var (decide (B.term.to0=(i:Int)))=R:=⟨_,rfl⟩
    have hKn:=wh (E:=E) f hf hL hR ht hs B.term.var (decide (B.term.to0=(i:Int))) hvk.1 hvk.2
    have hRl:=BX hR (decide (B.term.to0=(i:Int))) hvk.1
    have hvl:=hf.1
    rw[hRe] at hN hKn hRl ⊢
    unfold bD at hKn
    refine zh<|zd<|zr (fun j=>false) (by kernel_rfl) Z (zj (.r (.rest _)))<|ad 0 Z (cP Z)<|ad 1 Z (zw Z)<|ad 2 Z (zf j8 Z jj (by decide) Z Z)<|ad 3 Z (Gv.loadAC (l:=[_,_,_]) jv jj Z ⟨_,.head⟩ Z Z)<|ad 4 Z (bM jf Z wz Z Z)<|ad 5 Z (cR j6 Z)<|ad 6 Z (bM jf Z Zd Z Z)<|ad 7 Z (q3 (j:=0) Z1 wz Z Z Z (by decide) Z)<|ad 8 Z (cR j6 Z)<|ad 9 Z (cD Z)<|ad 10 Z (Gv.eqlI Z Z)<|ad 13 Z (cD Z)<|aQ 11 Z<|zg (hKn) Z<|z6<|ad 12 Z (Gv.lenM underlying181 Z)<|bJ<|zk<|y7 (γ:=Nat × Nat) [0,56,57] (fun g=>[(58,.int .i64 g.1)]) (fun g=>[(iw,.cells 75 (lY f t (uc f) js jp K.p.length a9 a10)),(js,.cells 136 [.int .i64 ((f.vars.length+1:Nat):Int),.own g.2 ((R.take g.1).foldl gx K).l.length,.own jm M.length]),(g.2,.grow 3 180 (((R.take g.1).foldl gx K).l.map b8).flatten),(jm,.grow 1 3 (cI M)),(jp,.grow 2 187 (K.p.map b9).flatten)]) (fun g=>g.1≤R.length) (fun g=>R.length - g.1) (0,jl) aK aH (qw _) ?_
    rintro ⟨g,jq⟩ hg
    try dsimp only at *
    have hKB:KB f ((R.take g).foldl gx K):=KB.rels _ _ hK fun r hr=>hN r (List.mem_of_mem_take hr)
    have hKp:=ub (R.take g) K
    refine ai<|ax Z Z<|z6<|zd<|zt Z (fun cg=>?_) (fun cg=>?_)
    ·have hg2:g<R.length:=by simp at cg;omega
     obtain ⟨r,hr⟩:∃r,R[g]=r:=⟨_,rfl⟩
     have hgr:R[g]?=some r:=by rw[qt hg2,hr]
     have hrn:=hN r (w4 hgr)
     have hstep:(R.take (g+1)).foldl gx K=gx ((R.take g).foldl gx K) r:=by rw[List.take_add_one,hgr,List.foldl_append];rfl
     obtain ⟨Q,hQ⟩:∃Q,(R.take g).foldl gx K=Q:=⟨_,rfl⟩
     rw[hQ] at hKB hKp hstep
     have hQr:=DY Q r
     rw[hQ]
     refine zh<|zd<|zk<|ai<|za (bv g underlying181 sizeOf183 Z Z Z hgr)<|ae isAgg183 sizeOf183 Z Z<|y6 (cs:=[.int .i64 0,.int .i64 0,.int .i64 0]) zeroValue183 Z Z<|fun i6=>y1 sizeOf183 Z Z Z Z Z Z .head Z<|ze (yc (t:=6) Z .head)<|z6<|ai<|au Yy Z Z5 Z Z<|aA Zx Z<|z6<|zk<|ai<|ao Z Z<|ab Z<|z6<|zt Z (fun r0=>?_) (fun r0=>?_)
     ·have hre:gx Q r=et Q r.a r.b (-1):=by unfold gx;rw[if_pos (show r.n=0 from r0)]
      refine zr (fun j=>false) (by kernel_rfl) Z (zj (.r (.rest _)))<|ad 0 Z (cP Z)<|ad 1 Z (zw Z)<|ad 2 Z (zf j8 Z Z7 (by decide) Z Z)<|ad 3 Z (zo (c:=.po _ _) Zg Z ⟨_,.head⟩ Z)<|ad 4 Z (bM Yy Z wz Z Z)<|ad 5 Z (cR j6 Z)<|ad 6 Z (bM Yy Z wz Z Z)<|ad 7 Z (cR j6 Z)<|aQ 8 Z<|zu Z (zj (.l (.l (.l (.r (.rest _)))))) (add jq Q hKB _ _ hrn.1.1 hrn.1.2 (-1)) ?_
      rintro r74 O74 ⟨⟨j1,u1⟩,rfl,rfl,_⟩
      refine z6<|bJ<|zz (zb (zc .t4))<|zz (zb (zc .t4))<|zz (zb (zc .t4))<|zz (zb (zc .t4))<|zz (zb (zc .t4))<|aT<|aC Z Z<|aa Z<|z6 ?_
      exact ⟨(g+1,j1),de,aK,⟨_,(.refl _),by rw[hstep,hre]⟩,hg2,by dsimp only;omega⟩
     ·refine ai<|ao Z Z<|ab Z<|z6<|zt Z (fun r1=>?_) (fun r1=>?_)
      ·have hre:gx Q r=et Q r.a r.b 0:=by unfold gx;rw[if_neg (show ¬r.n=0 from r0),if_pos (show r.n=1 from r1)]
       refine zr (fun j=>false) (by kernel_rfl) Z (zj (.r (.rest _)))<|ad 0 Z (cP Z)<|ad 1 Z (zw Z)<|ad 2 Z (zf j8 Z Z7 (by decide) Z Z)<|ad 3 Z (zo (c:=.po _ _) Zg Z ⟨_,.head⟩ Z)<|ad 4 Z (bM Yy Z wz Z Z)<|ad 5 Z (cR j6 Z)<|ad 6 Z (bM Yy Z wz Z Z)<|ad 7 Z (cR j6 Z)<|aQ 8 Z<|zu Z (zj (.l (.l (.l (.r (.rest _)))))) (add jq Q hKB _ _ hrn.1.1 hrn.1.2 0) ?_
       rintro r85 O85 ⟨⟨j1,u1⟩,rfl,rfl,_⟩
       refine z6<|bJ<|zz (zb (zc .t4))<|zz (zb (zc .t4))<|zz (zb (zc .t4))<|zz (zb (zc .t4))<|zz (zb (zc .t4))<|aT<|aC Z Z<|aa Z<|z6 ?_
       exact ⟨(g+1,j1),de,aK,⟨_,(.refl _),by rw[hstep,hre]⟩,hg2,by dsimp only;omega⟩
      ·refine ai<|ao Z Z<|ab Z<|z6<|zt Z (fun r2=>?_) (fun r2=>?_)
       ·have hre:gx Q r=iA Q r.a r.b:=by unfold gx;rw[if_neg (show ¬r.n=0 from r0),if_neg (show ¬r.n=1 from r1),if_pos (show r.n=2 from r2)]
        refine aT<|aJ Z<|au Yy Z wz Z Z<|aA j6 Z<|au Yy Z wz Z Z<|aA j6 Z<|zu Z (zj (.l (.l (.l (.l (.r (.rest _))))))) (same jq jp K.p.length Q hKB _ _ hrn.1.1 hrn.1.2) ?_
        rintro r93 O93 ⟨j1,rfl,rfl,_⟩
        refine z6<|zz (zb (zc .t4))<|zz (zb (zc .t4))<|zz (zb (zc .t4))<|zz (zb (zc .t4))<|zz (zb (zc .t4))<|aT<|aC Z Z<|aa Z<|z6 ?_
        exact ⟨(g+1,j1),de,aK,⟨_,(.refl _),by rw[hstep,hre]⟩,hg2,by dsimp only;omega⟩
       ·exfalso
        have h0:¬r.n=0:=r0
        have h1:¬r.n=1:=r1
        have h2:¬r.n=2:=r2
        have:=hrn.2
        omega
    ·obtain rfl:g=R.length:=by simp at cg;omega
     rw[qy]
     refine y5<|yl ?_
     exact ⟨jq,rfl,⟨_,.refl _,by rw[ub]⟩,trivial⟩
end Go.Proofs.YtdilpodccjlkgaaGreatDoor
namespace Go.Proofs.YtdilpodccjlkgaaGreatDoor
open Go.Proofs.Tryz
def dK (f:ac) (K:KS) (v:Int):Int:=gf f K 100000 v
section
variable {f:ac} (hR:b7 f) {K:KS} {v:Int}
include hR
theorem iF:dK f K v=gf f K (rz f v+1) v:=lg hR K _ _ v (hR.rk_low v) (Nat.lt_succ_self _)
theorem Ap (hm:dz f v=none):dK f K v=0:=by rw[iF hR];unfold gf;rw[hm]
variable {x:aF} (hm:dz f v=some x)
include hm
theorem IQ (h:x.op=8):dK f K v=iC (e9 f K (bj x) (bY x) (-1)) (e9 f K (bY x) (bj x) 0):=by rw[iF hR];unfold gf;rw[hm];dsimp only;rw[if_pos h]
theorem IR (h:x.op=9):dK f K v=iC (e9 f K (bj x) (bY x) 0) (e9 f K (bY x) (bj x) (-1)):=by rw[iF hR];unfold gf;rw[hm];dsimp only;rw[if_neg (by omega),if_pos h]
theorem IU (h:x.op=7):dK f K v=iC (e9 f K (bj x) (bY x) 0&&e9 f K (bY x) (bj x) 0) (e9 f K (bj x) (bY x) (-1)||e9 f K (bY x) (bj x) (-1)):=by rw[iF hR];unfold gf;rw[hm];dsimp only;rw[if_neg (by omega),if_neg (by omega),if_pos h]
theorem ud (h:0<x.args.length):gf f K (rz f v) (bj x)=dK f K (bj x):=lg hR K _ _ _ (hR.rk0 hm h) (hR.rk_low _)
theorem FD (h:1<x.args.length):gf f K (rz f v) (bY x)=dK f K (bY x):=lg hR K _ _ _ (hR.rk1 hm h) (hR.rk_low _)
theorem IV (h:x.op=1) (hl:0<x.args.length):dK f K v=dK f K (bj x):=by
 rw[iF hR];unfold gf;rw[hm];dsimp only
 rw[if_neg (by omega),if_neg (by omega),if_neg (by omega),if_pos h,ud hR hm hl]
theorem Ic (h:x.op=10) (hl:0<x.args.length):dK f K v=iC (decide (dK f K (bj x)=2)) (decide (dK f K (bj x)=1)):=by
 rw[iF hR];unfold gf;rw[hm];dsimp only
 rw[if_neg (by omega),if_neg (by omega),if_neg (by omega),if_neg (by omega),if_pos h,ud hR hm hl]
theorem Id (h:x.op=11) (hl:1<x.args.length):dK f K v=iC (decide (dK f K (bj x)=1)&&decide (dK f K (bY x)=1)) (decide (dK f K (bj x)=2)||decide (dK f K (bY x)=2)):=by
 rw[iF hR];unfold gf;rw[hm];dsimp only
 rw[if_neg (by omega),if_neg (by omega),if_neg (by omega),if_neg (by omega),if_neg (by omega),if_pos h,ud hR hm (by omega),FD hR hm hl]
theorem FE (h:¬x.op=8∧¬x.op=9∧¬x.op=7∧¬x.op=1∧¬x.op=10∧¬x.op=11):dK f K v=0:=by
 rw[iF hR];unfold gf;rw[hm];dsimp only
 rw[if_neg h.1,if_neg h.2.1,if_neg h.2.2.1,if_neg h.2.2.2.1,if_neg h.2.2.2.2.1,if_neg h.2.2.2.2.2]
end
def mI (es:List (Int × Int)):List (Int × AV):=es.map fun p=>(p.1,.int .i64 p.2)
def Hx (k n:Int):List (Int × Int)→List (Int × Int)
 |[]=>[(k,n)]
 |(k',m)::es=>if k=k' then (k,n)::es else (k',m)::Hx k n es
theorem Aq (k n:Int):∀es,am k (.int .i64 n) (mI es)=mI (Hx k n es)
 |[]=>rfl
 |(k',m)::es=>by
  have ih:=Aq k n es
  unfold mI at ih ⊢
  rw[List.map_cons]
  unfold am Hx
  by_cases h:k=k'
  ·rw[if_pos h,if_pos h];rfl
  ·rw[if_neg h,if_neg h,ih];rfl
def Eq (f:ac) (K:KS) (es:List (Int × Int)):Prop:=∀v x,ag v (mI es)=some x→x=.int .i64 (dK f K v)
theorem Eq.emp (f:ac) (K:KS):Eq f K []:=fun v x h=>by cases h
theorem Eq.put {f:ac} {K:KS} {es:List (Int × Int)} (h:Eq f K es) (v:Int):Eq f K (Hx v (dK f K v) es):=fun u x hx=>by
 rw[←Aq,Gf] at hx
 split at hx
 ·rename_i e;subst e;cases hx;rfl
 ·exact h u x hx
end Go.Proofs.YtdilpodccjlkgaaGreatDoor
