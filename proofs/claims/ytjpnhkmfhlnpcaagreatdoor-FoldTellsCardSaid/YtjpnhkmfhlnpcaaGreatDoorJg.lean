/- Names; what an instruction of a shaped program is. No conditions. -/
import Derived.Test.YtjpnhkmfhlnpcaaGreatDoorJf
import Derived.Test.YtjpnhkmfhlnpcaaGreatDoorJc
import Derived.Test.YtjpnhkmfhlnpcaaGreatDoorJe
import Derived.Lib.MapLaws
set_option linter.unusedVariables false
set_option linter.unusedSimpArgs false
set_option linter.unusedSectionVars false
namespace Go.Proofs.YtjpnhkmfhlnpcaaGreatDoor
section
open Go.Proofs.Tryz
open Go.Proofs Go.Lib Go.Shelf Go.RowKit
theorem eM:gj prog 26 #[(0,1),(1,1),(2,1)] [.raw (.slice none 0 0),.raw (.slice none 0 0),.raw (.slice none 0 0)]:=⟨_,_,j6,jq,fun w=>by kernel_rfl,rfl⟩
theorem Db:gj prog 60 #[(0,1),(1,1),(2,1),(3,4)] [.str ⟨#[]⟩,.raw (.slice none 0 0),.raw (.slice none 0 0),.int .i64 0,.int .i64 0,.int .i64 0,.int .i64 0]:=⟨_,_,j5,ju,fun w=>by kernel_rfl,rfl⟩
theorem AM:gj prog 73 #[(0,1),(1,1),(2,1)] [.int .i64 0,.raw (.slice none 0 0),.raw (.slice none 0 0)]:=⟨_,_,jc,jz,fun w=>by kernel_rfl,rfl⟩
theorem qz:di prog 53 73 1 3 [.int .i64 0,.raw (.slice none 0 0),.raw (.slice none 0 0)]:=⟨_,jl,jp,jz,by decide,by decide,by kernel_rfl⟩
theorem qB:di prog 54 69 1 4 [.int .i64 0,.int .i64 0,.raw (.slice none 0 0),.int .i64 0]:=⟨_,jo,jt,Zg,by decide,by decide,by kernel_rfl⟩
theorem iy:di prog 24 60 1 7 [.str ⟨#[]⟩,.raw (.slice none 0 0),.raw (.slice none 0 0),.int .i64 0,.int .i64 0,.int .i64 0,.int .i64 0]:=⟨_,ja,jj,ju,by decide,by decide,by kernel_rfl⟩
set_option maxRecDepth 20000
variable {E:World}
def xw (b:az):Prop:=b.name.size≤1000∧b.phis.length≤1000∧b.insts.length≤1000∧(∀p∈b.phis,p.args.length≤1000∧p.from_.length≤1000)∧∀x∈b.insts,x.args.length≤1000
def small (f:ae):Prop:=f.vars.length≤1000∧f.params.length≤1000∧f.blocks.length≤1000∧(∀v∈f.vars,v.name.size≤1000)∧∀b∈f.blocks,xw b
theorem small.ok {f:ae} (h:small f):jU f:=by
 obtain ⟨h1,h2,h3,h4,h5⟩:=h
 refine ⟨by unfold lJ;omega,by unfold lJ;omega,by unfold lJ;omega,fun b hb=>?_⟩
 obtain ⟨g1,g2,g3,g4,g5⟩:=h5 b hb
 exact ⟨by unfold lJ;omega,by unfold lJ;omega,fun p hp=>⟨by have:=g4 p hp;unfold lJ;omega,by have:=g4 p hp;unfold lJ;omega⟩,fun x hx=>by have:=g5 x hx;unfold lJ;omega⟩
theorem small.names {f:ae} (h:small f):iZ f:=⟨fun v hv=>by have:=h.2.2.2.1 v hv;omega,fun b hb=>by have:=(h.2.2.2.2 b hb).1;omega⟩
theorem lS {α:Type} {enc:α→List AV} (h:∀x,(enc x).all AV.cell=true) (xs:List α):(xs.map enc).flatten.all AV.cell=true:=by
 induction xs with
 |nil=>rfl
 |cons x xs ih=>simp only[List.map_cons,List.flatten_cons,List.all_append,h,ih,Bool.and_self]
theorem qC (xs:List Int) (hl:xs.length≤1000):bV prog E 39 [.fro 1 (xs.map bh)] [] (fun x O'=>∃i:Nat,x=.own i xs.length∧Left O' [(i,.grow 1 3 (xs.map bh).flatten)]∧True):=by
 refine zo func39 Z (by decide) Z<|ai<|za (nc Z)<|z7<|zb<|ai<|aX Z<|ao.isNil j4 Z Z (fun hnil=>?_) ?_
 ·have hx:xs=[]:=by simpa using hnil
  subst hx
  refine z7<|yi Z Z<|ai<|za (nc Z)<|z7<|zg ?_
  repeat (first|refine ft ?_|refine d8 ?_)
  refine jR (s:=2) (k:=1) (T:=3) Z (fun i=>?_)
  refine zi (x:=.own _ _) Z ?_
  exact ⟨i,rfl,.refl _,trivial⟩
 ·refine z7<|yd Z Z<|zf<|ai<|yg (k:=1) j4 Z4<|fun i5=>aX Z<|zr (k:=1) j4 Z4 Z Z Z Z Z (fun _=>.head) (by simp) (by decide) (lS (fun _=>Z) xs) (by show (_+_)*8≤_;simp<;>omega) (by simp<;>omega)<|fun i7=>za (mQ Z)<|z7<|zg<|zi (x:=.own _ _) Z ?_
  exact ⟨i7,(by simp),⟨_,.refl _,rfl⟩,trivial⟩
theorem qD (xs:List iU) (hl:xs.length≤1000):bV prog E 38 [.fro 2 (xs.map ba)] [] (fun x O'=>∃i:Nat,x=.own i xs.length∧Left O' [(i,.grow 2 66 (xs.map ba).flatten)]∧True):=by
 refine zo func38 Z (by decide) Z<|ai<|za (nc Z)<|z7<|zb<|ai<|aX Z<|ao.isNil jk Z Z (fun hnil=>?_) ?_
 ·have hx:xs=[]:=by simpa using hnil
  subst hx
  refine z7<|yi Z Z<|ai<|za (nc Z)<|z7<|zg ?_
  repeat (first|refine ft ?_|refine d8 ?_)
  refine jR (s:=2) (k:=2) (T:=66) Z (fun i=>?_)
  refine zi (x:=.own _ _) Z ?_
  exact ⟨i,rfl,.refl _,trivial⟩
 ·refine z7<|yd Z Z<|zf<|ai<|yg (k:=2) jk Zn<|fun i5=>aX Z<|zr (k:=2) jk Zn Z Z Z Z Z (fun _=>.head) (by simp) (by decide) (lS (fun _=>Z) xs) (by show (_+_)*24≤_;simp<;>omega) (by simp<;>omega)<|fun i7=>za (mQ Z)<|z7<|zg<|zi (x:=.own _ _) Z ?_
  exact ⟨i7,(by simp),⟨_,.refl _,rfl⟩,trivial⟩
theorem bF (xs:List Int) (hl:xs.length≤1000):aT prog E 39 [.fro 1 (xs.map bh)] (.fro 1 (xs.map bh)):=(qC xs hl).frozen (by simp[bh]) (by decide) (by simp)
theorem fh (xs:List iU) (hl:xs.length≤1000):aT prog E 38 [.fro 2 (xs.map ba)] (.fro 2 (xs.map ba)):=(qD xs hl).frozen (by simp[ba]) (by decide) (by simp)
theorem nk (f:ae) (hf:small f):bV prog E 21 [.agg (bC f)] [] (fun x O'=>∃i:Nat,x=.agg [.fro 2 (f.vars.map ba),.fro 1 (f.params.map bh),.own i f.blocks.length]∧Left O' [(i,.grow 7 60 (f.blocks.map aE).flatten)]∧True):=by
 obtain ⟨hf1,hf2,hf3,hf4,hf5⟩:=hf
 refine zo func21 Z (by decide) Z<|ai<|y9 (cs:=_) Z Z Z<|zp (cs:=[.raw (.slice none 0 0),.raw (.slice none 0 0),.raw (.slice none 0 0)]) jq Z Z<|fun i2=>z7<|zb<|yn (γ:=Nat) [1,2] (fun i=>[(3,.po i 0)]) (fun i=>[(i,.cells 26 [.fro 2 (f.vars.map ba),.fro 1 (f.params.map bh),.raw (.slice none 0 0)]),(i2,.cells 26 [.raw (.slice none 0 0),.raw (.slice none 0 0),.raw (.slice none 0 0)])]) (fun i=>True) ?_ (fun _ _ h=>h) ?_
 ·refine ya (fun j=>Nat.beq j 8) (by kernel_rfl) Z (yh (.rest _))<|aN 0 Z (f9 j6 Z Za Z Z)<|aN 1 Z (lx Zi Z)<|aN 3 Z (f9 j6 Z je Z Z)<|aN 4 Z (lx jm Z)<|yv (i:=2) (j:=7) Z Z (by kernel_rfl) ?_ ?_
  ·refine ze (fh _ (by omega)) Z<|z7<|yv (i:=5) (j:=7) Z Z (by kernel_rfl) ?_ ?_
   ·refine ze (bF _ (by omega)) Z<|z7<|aN 6 Z (zw (cps:=[(0,[_]),(1,[_])]) (rs:=[_,_,.raw (.slice none 0 0)]) eM Z Z Z)<|cP 7 Z<|zp (cs:=[.raw (.slice none 0 0),.raw (.slice none 0 0),.raw (.slice none 0 0)]) jq Z Z<|fun i3=>z7<|yc<|ye (i:=8) Z (by kernel_rfl) (by kernel_rfl)<|zm j8 Z Z Z Z Z Z .head Z<|z7<|yf (by kernel_rfl) ?_
    exact ⟨i3,fF,aV,aU,trivial⟩
   ·refine zp (cs:=[.raw (.slice none 0 0),.raw (.slice none 0 0),.raw (.slice none 0 0)]) jq Z Z<|fun i3=>z7<|cP 5 Z<|ze (bF _ (by omega)) Z<|z7<|aN 6 Z (zw (cps:=[(0,[_]),(1,[_])]) (rs:=[_,_,.raw (.slice none 0 0)]) eM Z Z Z)<|yc<|ye (i:=8) Z (by kernel_rfl) (by kernel_rfl)<|zm j8 Z Z Z Z Z Z .head Z<|z7<|yf (by kernel_rfl) ?_
    exact ⟨i3,fF,aV,aU,trivial⟩
  ·refine zp (cs:=[.raw (.slice none 0 0),.raw (.slice none 0 0),.raw (.slice none 0 0)]) jq Z Z<|fun i3=>z7<|cP 2 Z<|ze (fh _ (by omega)) Z<|z7<|cP 5 Z<|ze (bF _ (by omega)) Z<|z7<|aN 6 Z (zw (cps:=[(0,[_]),(1,[_])]) (rs:=[_,_,.raw (.slice none 0 0)]) eM Z Z Z)<|yc<|ye (i:=8) Z (by kernel_rfl) (by kernel_rfl)<|zm j8 Z Z Z Z Z Z .head Z<|z7<|yf (by kernel_rfl) ?_
   exact ⟨i3,fF,aV,aU,trivial⟩
 ·rintro i3 _
  refine zb<|ai<|ap j6 Z ji Z Z<|aP js Z<|ac ja Z<|aa Z<|z7<|bJ (off:=2) (k:=7) (T:=60) (fun _=>.head) Z<|fun ib=>zh<|y7 (γ:=Nat × Nat) [2,3,19,20] (fun g=>[(21,.int .i64 g.1)]) (fun g=>[(g.2,.grow 7 60 ((f.blocks.take g.1).map aE).flatten),(i3,.cells 26 [.fro 2 (f.vars.map ba),.fro 1 (f.params.map bh),.own g.2 g.1]),(i2,.cells 26 [.raw (.slice none 0 0),.raw (.slice none 0 0),.raw (.slice none 0 0)])]) (fun g=>g.1≤f.blocks.length) (fun g=>f.blocks.length - g.1) (0,ib) aV aU (q5 _) ?_
  rintro ⟨k,ib⟩ hk
  try dsimp only at *
  refine ai<|ay Z Z<|z7<|zb<|zt Z (fun ck=>?_) (fun ck=>?_)
  ·have hk2:k<f.blocks.length:=by omega
   obtain ⟨hb0,hb1,hb2,hb3,hb4⟩:=hf5 _ (q6 hk2)
   refine zf<|zb<|zh<|ai<|za (yk ja jj Z Z Z (q2 (by omega)))<|ab Z7 jj Z Z<|zp (cs:=[.str ⟨#[]⟩,.raw (.slice none 0 0),.raw (.slice none 0 0),.int .i64 0,.int .i64 0,.int .i64 0,.int .i64 0]) ju Z Z<|fun i5=>zm jj Z Z Z Z Z Z .head Z<|z7<|ai<|za (zd j5 Z jy (by decide) Z Z)<|za (zj (c:=.str _) Z1 Z ⟨_,.head⟩ Z)<|za (zd j5 Z jn (by decide) Z Z)<|za (Gv.loadAC (l:=[_,_,_,_]) Zo jn Z ⟨_,.head⟩ Z Z)<|za (zw (cps:=[(0,[_]),(3,[_,_,_,_])]) (rs:=[_,.raw (.slice none 0 0),.raw (.slice none 0 0),_,_,_,_]) Db Z Z Z)<|zp (cs:=[.str ⟨#[]⟩,.raw (.slice none 0 0),.raw (.slice none 0 0),.int .i64 0,.int .i64 0,.int .i64 0,.int .i64 0]) ju Z Z<|fun i6=>zm jj Z Z Z Z Z Z .head Z<|z7<|zb<|ai<|za (zd j5 Z jw (by decide) Z Z)<|za (zj (c:=.fro _ _) Z8 Z ⟨_,.t1⟩ Z)<|ac jl Z<|aa Z<|z7<|bJ (off:=1) (k:=3) (T:=73) (fun _=>.head) Z<|fun ip=>zz (zn (zq .t1))<|zh<|y7 (γ:=Nat × Nat) [2,3,5,6,19,20,21,31,32] (fun g=>[(33,.int .i64 g.1)]) (fun g=>[(i6,.cells 60 [.str f.blocks[k].name,.own g.2 g.1,.raw (.slice none 0 0),.int .i64 f.blocks[k].term.kind,.int .i64 f.blocks[k].term.var,.int .i64 f.blocks[k].term.to0,.int .i64 f.blocks[k].term.to1]),(g.2,.grow 3 73 ((f.blocks[k].phis.take g.1).map aL).flatten),(i5,.cells 60 (aE f.blocks[k])),(ib,.grow 7 60 ((f.blocks.take k).map aE).flatten),(i3,.cells 26 [.fro 2 (f.vars.map ba),.fro 1 (f.params.map bh),.own ib k]),(i2,.cells 26 [.raw (.slice none 0 0),.raw (.slice none 0 0),.raw (.slice none 0 0)])]) (fun g=>g.1≤f.blocks[k].phis.length) (fun g=>f.blocks[k].phis.length - g.1) (0,ip) aV aU (q5 _) ?_
   rintro ⟨m,ip⟩ hm
   try dsimp only at *
   refine ai<|ay Z Z<|z7<|zb<|zt Z (fun cm=>?_) (fun cm=>?_)
   ·have hm2:m<f.blocks[k].phis.length:=by omega
    obtain ⟨hp1,hp2⟩:=hb3 _ (q6 hm2)
    refine zf<|zb<|zh<|ai<|za (yk jl jp Z Z Z (q2 (by omega)))<|ab Zf jp Z Z<|zp (cs:=[.int .i64 0,.raw (.slice none 0 0),.raw (.slice none 0 0)]) jz Z Z<|fun i8=>zm jp Z Z Z Z Z Z .head Z<|z7<|ya (fun j=>Nat.beq j 14) (by kernel_rfl) Z (yh (.r (.r (.rest _))))<|aN 0 Z (zd j5 Z jw (by decide) Z Z)<|aN 1 Z (zj (c:=.own _ _) Z8 Z ⟨_,.t1⟩ Z)<|aN 2 Z (zd jc Z j9 (by decide) Z Z)<|aN 3 Z (zj (c:=.int _ _) jf Z ⟨_,.head⟩ Z)<|aN 4 Z (zd jc Z je (by decide) Z Z)<|aN 5 Z (zj (c:=.fro _ _) jm Z ⟨_,.head⟩ Z)<|aN 7 Z (zd jc Z je (by decide) Z Z)<|aN 8 Z (zj (c:=.fro _ _) jm Z ⟨_,.head⟩ Z)<|cP 6 Z<|ze (bF _ (by omega)) Z<|z7<|cP 9 Z<|ze (bF _ (by omega)) Z<|z7<|aN 10 Z (zw (cps:=[(0,[_]),(1,[_]),(2,[_])]) (rs:=[_,_,_]) AM Z Z Z)<|cP 11 Z<|y8 (rows:=[[_,_,_]]) qz Z Z Z Z Z<|z7<|cP 12 Z<|zr (k:=3) jl type73 Z Z Z Z Z (fun _=>.head) (by rw[bW (k:=3) (fun _=>rfl),qc,Nat.min_eq_left hm]) (by decide) Z (by show (_+_)*56≤_;simp<;>omega) (by simp<;>omega)<|fun i49=>z7<|aN 13 Z (zd j5 Z jw (by decide) Z Z)<|yc<|ye (i:=14) Z (by kernel_rfl) (by kernel_rfl)<|yb (l:=[_]) (new:=[_,_,_,_,_,_,_]) jw Z Z Z Z Z Z .t1 Z Z<|z7<|yf (by kernel_rfl)<|bg<|aB Z Z ?_
    refine aa Z<|z7 ?_
    exact ⟨(m+1,i49),ne,aV,⟨_,(.drop (.refl _)),by rw[←dB (q3 hm2)];rfl⟩,hm2,by dsimp only;omega⟩
   ·obtain rfl:m=f.blocks[k].phis.length:=by omega
    refine zy<|zb<|ai<|za (zd j5 Z Z0 (by decide) Z Z)<|za (zj (c:=.fro _ _) Ze Z ⟨_,.t2⟩ Z)<|ac jo Z<|aa Z<|z7<|bJ (off:=2) (k:=4) (T:=69) (fun _=>.head) Z<|fun ii=>zh<|y7 (γ:=Nat × Nat) [2,3,6,19,20,21,53,54] (fun g=>[(55,.int .i64 g.1)]) (fun g=>[(g.2,.grow 4 69 ((f.blocks[k].insts.take g.1).map aZ).flatten),(i6,.cells 60 [.str f.blocks[k].name,.own ip f.blocks[k].phis.length,.own g.2 g.1,.int .i64 f.blocks[k].term.kind,.int .i64 f.blocks[k].term.var,.int .i64 f.blocks[k].term.to0,.int .i64 f.blocks[k].term.to1]),(ip,.grow 3 73 (f.blocks[k].phis.map aL).flatten),(i5,.cells 60 (aE f.blocks[k])),(ib,.grow 7 60 ((f.blocks.take k).map aE).flatten),(i3,.cells 26 [.fro 2 (f.vars.map ba),.fro 1 (f.params.map bh),.own ib k]),(i2,.cells 26 [.raw (.slice none 0 0),.raw (.slice none 0 0),.raw (.slice none 0 0)])]) (fun g=>g.1≤f.blocks[k].insts.length) (fun g=>f.blocks[k].insts.length - g.1) (0,ii) aV ⟨_,(.refl _),by rw[q7];rfl⟩ (q5 _) ?_
    rintro ⟨m,ii⟩ hm
    try dsimp only at *
    refine ai<|ay Z Z<|z7<|zb<|zt Z (fun cm=>?_) (fun cm=>?_)
    ·have hm2:m<f.blocks[k].insts.length:=by omega
     have hp1:=hb4 _ (q6 hm2)
     refine zf<|zb<|zh<|ai<|za (yk jo jt Z Z Z (q2 (by omega)))<|ab Zm jt Z Z<|zp (cs:=[.int .i64 0,.int .i64 0,.raw (.slice none 0 0),.int .i64 0]) Zg Z Z<|fun i10=>zm jt Z Z Z Z Z Z .head Z<|z7<|ai<|za (zd jd Z je (by decide) Z Z)<|za (zj (c:=.fro _ _) jm Z ⟨_,.head⟩ Z)<|ze (bF _ (by omega)) Z<|za (zd jd Z je (by decide) Z Z)<|yb (l:=[_]) (new:=[_,_,_,_]) je Z Z Z Z Z Z .head Z Z<|z7<|bg<|za (zd j5 Z Z0 (by decide) Z Z)<|za (zj (c:=.own _ _) Ze Z ⟨_,.t2⟩ Z)<|za (yr Zm jt Z ⟨_,.head⟩ Z)<|y8 (rows:=[[_,_,_,_]]) qB Z Z Z Z Z<|zr (k:=4) jo type69 Z Z Z Z Z (fun _=>.t1) (by rw[bW (k:=4) (fun _=>rfl),qc,Nat.min_eq_left hm]) (by decide) Z (by show (_+_)*48≤_;simp<;>omega) (by simp<;>omega)<|fun i67=>za (zd j5 Z Z0 (by decide) Z Z)<|yb (l:=[_]) (new:=[_,_,_,_,_,_,_]) Z0 Z Z Z Z Z Z .t2 Z Z<|z7<|bg<|aB Z Z<|aa Z<|z7 ?_
     exact ⟨(m+1,i67),qi,aV,⟨_,(.drop (.refl _)),by rw[←dB (q3 hm2)];rfl⟩,hm2,by dsimp only;omega⟩
    ·obtain rfl:m=f.blocks[k].insts.length:=by omega
     rw[q7]
     refine zy<|zz (yq (off:=1) (rows:=f.blocks[k].phis.map aL) .t2 .t1 Z (by simp[bh,ba,aL,aZ,aE]) (by decide) (by simp))<|zz (yq (off:=2) (rows:=f.blocks[k].insts.map aZ) .head .head Z (by simp[bh,ba,aL,aZ,aE]) (by decide) (by simp))<|bg<|za (zd j6 Z ji (by decide) Z Z)<|za (zj (c:=.own _ _) js Z ⟨_,.t3⟩ Z)<|za (yr Z7 jj Z ⟨_,.head⟩ Z)<|y8 (rows:=[[_,_,_,_,_,_,_]]) iy Z Z Z Z Z<|zr (k:=7) ja type60 Z Z Z Z Z (fun _=>.t2) (by rw[bW (k:=7) (fun _=>rfl),qc,Nat.min_eq_left hk]) (by decide) Z (by show (_+_)*96≤_;simp<;>omega) (by simp<;>omega)<|fun i74=>za (zd j6 Z ji (by decide) Z Z)<|yb (l:=[_]) (new:=[_,_,_]) ji Z Z Z Z Z Z .t3 Z Z<|z7<|bg<|aB Z Z<|aa Z<|z7 ?_
     exact ⟨(k+1,i74),fv,aV,⟨_,(.drop (.drop (.refl _))),by rw[←dB (q3 hk2)];rfl⟩,hk2,by dsimp only;omega⟩
  ·obtain rfl:k=f.blocks.length:=by omega
   rw[q7]
   refine zy<|ai<|za (yr jh j8 Z ⟨_,.t1⟩ Z)<|zm j8 Z Z Z Z Z Z .t2 Z<|z7<|zg<|dh.c1 Z ⟨_,.t2⟩ jh j8 Z ?_
   exact ⟨ib,rfl,⟨_,.keep (.drop (.drop (.refl _))),rfl⟩,trivial⟩
end
section
open Go.Proofs.Tryz
open Go.Proofs Go.Lib Go.Shelf Go.RowKit
set_option maxRecDepth 20000
variable {E:World}
theorem qE (f:ae) (hf:small f):aT prog E 21 [.agg (bC f)] (.agg (bC f)):=
 (nk f hf).know fun I F w v y O' ⟨i,e,hl,_⟩ h1 h2=>by
  subst e
  obtain ⟨J,h3,h4,h5⟩:=Go.Proofs.YtjpnhkmfhlnpcaaGreatDoor.know (m:=f.blocks.length) .head (by simp[aE]) (by decide) (by simp) (hl.sla h2)
  obtain ⟨vs,ev,v1,us1,e1,r1,v2,us2,e2,r2,v3,us3,e3,r3,r4⟩:=h1
  exact ⟨J,.agg (bC f),[],h3,⟨vs,ev,v1,us1,e1,bH.mono h3 _ _ r1,v2,us2,e2,bH.mono h3 _ _ r2,v3,us3,e3,h5 _ r3,r4⟩,h4,rfl⟩
def eN (f g:ae):Bool:=!decide ((f.vars.length:Int)=g.vars.length)||(!decide (f.params=g.params)||!decide ((f.blocks.length:Int)=g.blocks.length))
def fj (x y:az):Bool:=!decide (x.name=y.name)||(!decide (x.term.kind=y.term.kind∧x.term.var=y.term.var∧x.term.to0=y.term.to0∧x.term.to1=y.term.to1)||(!decide ((x.phis.length:Int)=y.phis.length)||!decide ((x.insts.length:Int)=y.insts.length)))
theorem qF {f g:ae} (h:eN f g=false):f.vars.length=g.vars.length∧f.params=g.params∧f.blocks.length=g.blocks.length:=by
 unfold eN at h;simp at h;exact ⟨by omega,h.2.1,by omega⟩
theorem vY {f g:az} (h:fj f g=false):(f.name=g.name∧f.term=g.term)∧f.phis.length=g.phis.length∧f.insts.length=g.insts.length:=by
 unfold fj at h;simp at h
 obtain ⟨h1,h2,h3,h4⟩:=h
 refine ⟨⟨h1,?_⟩,by omega,by omega⟩
 obtain ⟨a,b,c,⟨d1,d2,d3,d4⟩⟩:=f;obtain ⟨a',b',c',⟨d1',d2',d3',d4'⟩⟩:=g
 simp_all
theorem AN {x y:az} (h1:x.name=y.name) (h2:x.term=y.term) (h3:x.phis=y.phis) (h4:x.insts=y.insts):x=y:=by
 cases x;cases y;simp_all
theorem xx {x y:ae} (h1:x.vars=y.vars) (h2:x.params=y.params) (h3:x.blocks=y.blocks):x=y:=by
 cases x;cases y;simp_all
theorem lT (x y:bM):decide (x=y)=!(!decide (x.dst=y.dst)||(!decide (x.args=y.args)||!decide (x.from_=y.from_))):=by
 rw[AD];simp[Bool.and_assoc]
theorem gO (x y:bB):decide (x=y)=!(!decide (x.op=y.op)||(!decide (x.dst=y.dst)||(!decide (x.num=y.num)||!decide (x.args=y.args)))):=by
 rw[xo];simp[Bool.and_assoc]
set_option maxHeartbeats 8000000 in
theorem nR (f g:ae) (hf:jU f):aT prog E 9 [.agg (bC f),.agg (bC g)] (.bool (decide (f=g))):=by
 obtain ⟨hf1,hf2,hf3,hf4⟩:=hf
 have hl1:=hf1.lt
 have hl3:=hf3.lt
 refine zo func9 Z (by decide) Z<|ai<|y9 (cs:=_) Z Z Z<|y9 (cs:=_) Z Z Z<|ad Z<|z7<|zb<|zb<|yn (γ:=Unit) [2,3] (fun u=>[(38,.bool (eN f g))]) (fun u=>[]) (fun u=>True) ?_ (fun _ _ h=>h) ?_
 ·refine bg<|ap j6 Z Za Z Z<|aP Zi Z<|ac jk Z<|ap j6 Z Za Z Z<|aP Zi Z<|ac jk Z<|aG Z Z<|aj Z<|zk (s:=22) Z (fun c1=>?_) (fun c1=>?_)
  ·refine z6 Z Z c1<|z6 Z Z c1<|z6 Z Z c1<|z6 Z Z c1<|z6 Z Z c1<|z6 Z Z c1<|ak Z c1 Z<|aj Z<|z6 Z Z Z<|z6 Z Z Z<|z6 Z Z Z<|z6 Z Z Z<|z6 Z Z Z<|z6 Z Z Z<|z6 Z Z Z<|ak Z Z Z<|z7 ?_
   exact ⟨(),fF,⟨jb (by simp_all[eN]),trivial⟩,aU,trivial⟩
  ·refine z8 Z Z c1<|ap j6 Z je Z Z<|z8 Z Z c1<|aP jm Z<|z8 Z Z c1<|ap j6 Z je Z Z<|z8 Z Z c1<|aP jm Z<|z8 Z Z c1<|ze (gM _ _ (by assumption)) Z<|z8 Z Z c1<|aH Z<|al Z c1 Z<|aj Z<|zk (s:=30) Z (fun c2=>?_) (fun c2=>?_)
   ·refine z6 Z Z c2<|z6 Z Z c2<|z6 Z Z c2<|z6 Z Z c2<|z6 Z Z c2<|z6 Z Z c2<|z6 Z Z c2<|ak Z c2 Z<|z7 ?_
    exact ⟨(),fF,⟨jb (by simp_all[eN]),trivial⟩,aU,trivial⟩
   ·refine z8 Z Z c2<|ap j6 Z ji Z Z<|z8 Z Z c2<|aP js Z<|z8 Z Z c2<|ac ja Z<|z8 Z Z c2<|ap j6 Z ji Z Z<|z8 Z Z c2<|aP js Z<|z8 Z Z c2<|ac ja Z<|z8 Z Z c2<|aG Z Z<|al Z c2 Z<|z7 ?_
    exact ⟨(),fF,⟨jb (by simp_all[eN]),trivial⟩,aU,trivial⟩
 ·rintro _ _
  refine zu Z (fun c0=>?_) (fun c0=>?_)
  ·refine ai<|ad Z<|z7<|zg<|zi (x:=.bool _) Z ?_
   rw[qf (fun e=>by subst e;simp[eN] at c0)]
  ·obtain ⟨hv,hpar,hbl⟩:=qF c0
   refine zf<|zb<|ai<|ap j6 Z Za Z Z<|aP Zi Z<|ac jk Z<|aa Z<|z7<|zh<|y7 (γ:=Nat) [2,3,41] (fun k=>[(42,.int .i64 k)]) (fun k=>[]) (fun k=>k≤f.vars.length∧f.vars.take k=g.vars.take k) (fun k=>f.vars.length - k) 0 aV aU (⟨q5 _,Z⟩) ?_
   rintro k ⟨hk,hpre⟩
   refine ai<|ay Z Z<|z7<|zb<|zt Z (fun ck=>?_) (fun ck=>?_)
   ·have hk1:k<f.vars.length:=by omega
    have hk2:k<g.vars.length:=by omega
    refine zf<|zb<|zh<|ai<|aa Z<|aw Z<|z7<|zb<|ya (fun j=>false) (by kernel_rfl) Z (yh (.rest _))<|aN 0 Z (f9 j6 Z Za Z Z)<|aN 1 Z (lx Zi Z)<|aN 2 Z (kq Z)<|aN 3 Z (yk jk Zc Z Z Z (q2 (by omega)))<|aN 4 Z (yo isAgg66 Zc Z Z)<|aN 5 Z (f9 j6 Z Za Z Z)<|aN 6 Z (lx Zi Z)<|aN 7 Z (kq Z)<|aN 8 Z (yk jk Zc Z Z Z (q2 (by omega)))<|aN 9 Z (yo isAgg66 Zc Z Z)<|aN 10 Z (Gv.neqP (xs:=[.string _,.int _ _]) (ys:=[.string _,.int _ _]) (by kernel_rfl) Z Z (fun w=>CZ _ _ _ _ w))<|kV<|zu Z (fun cd=>?_) (fun cd=>?_)
    ·refine ai<|ad Z<|z7<|zg<|zi (x:=.bool _) Z ?_
     rw[qf (fun e=>by subst e;simp at cd)]
    ·refine zf<|bg<|aB Z Z<|aa Z<|z7 ?_
     exact ⟨k+1,oE,aV,aU,⟨hk1,eA hk1 hk2 hpre (AE (by simpa using cd))⟩,by omega⟩
   ·have hvars:=eB hv (by omega) hpre
    refine zy<|zb<|ai<|ap j6 Z ji Z Z<|aP js Z<|ac ja Z<|aa Z<|z7<|zh<|y7 (γ:=Nat) [3,58,59] (fun k=>[(60,.int .i64 k)]) (fun k=>[]) (fun k=>k≤f.blocks.length∧f.blocks.take k=g.blocks.take k) (fun k=>f.blocks.length - k) 0 aV aU (⟨q5 _,Z⟩) ?_
    rintro k ⟨hk,hpre2⟩
    refine ai<|ay Z Z<|z7<|zb<|zt Z (fun ck=>?_) (fun ck=>?_)
    ·have hi1:k<f.blocks.length:=by omega
     have hi2:k<g.blocks.length:=by omega
     obtain ⟨hx1,hx2,hx3,hx4⟩:=hf4 _ (q6 hi1)
     have hl4:=hx1.lt
     have hl5:=hx2.lt
     refine zf<|zb<|zh<|ai<|aa Z<|za (yk ja jj Z Z Z (q2 (by omega)))<|ab Z7 jj Z Z<|zp (cs:=[.str ⟨#[]⟩,.raw (.slice none 0 0),.raw (.slice none 0 0),.int .i64 0,.int .i64 0,.int .i64 0,.int .i64 0]) ju Z Z<|fun i7=>aw Z<|zm jj Z Z Z Z Z Z .head Z<|z7<|ai<|ap j6 Z ji Z Z<|aP js Z<|aa Z<|za (yk ja jj Z Z Z (q2 (by omega)))<|ab Z7 jj Z Z<|zp (cs:=[.str ⟨#[]⟩,.raw (.slice none 0 0),.raw (.slice none 0 0),.int .i64 0,.int .i64 0,.int .i64 0,.int .i64 0]) ju Z Z<|fun i8=>zm jj Z Z Z Z Z Z .head Z<|z7<|zb<|zb<|yn (γ:=Unit) [3,7,8,58,59,60] (fun u=>[(99,.bool (fj f.blocks[k] g.blocks[k]))]) (fun u=>[(i8,.cells 60 (aE g.blocks[k])),(i7,.cells 60 (aE f.blocks[k]))]) (fun u=>True) ?_ (fun _ _ h=>h) ?_
     ·refine bg<|za (zd j5 Z jy (by decide) Z Z)<|za (zj (c:=.str _) Z1 Z ⟨_,.t1⟩ Z)<|za (zd j5 Z jy (by decide) Z Z)<|za (zj (c:=.str _) Z1 Z ⟨_,.head⟩ Z)<|za (Gv.neqT Z Z)<|aj Z<|zk (s:=75) Z (fun c3=>?_) (fun c3=>?_)
      ·refine z6 Z Z c3<|z6 Z Z c3<|z6 Z Z c3<|z6 Z Z c3<|z6 Z Z c3<|ak Z c3 Z<|aj Z<|z6 Z Z Z<|z6 Z Z Z<|z6 Z Z Z<|z6 Z Z Z<|z6 Z Z Z<|z6 Z Z Z<|z6 Z Z Z<|ak Z Z Z<|aj Z<|z6 Z Z Z<|z6 Z Z Z<|z6 Z Z Z<|z6 Z Z Z<|z6 Z Z Z<|z6 Z Z Z<|z6 Z Z Z<|ak Z Z Z<|z7 ?_
       exact ⟨(),Ax,⟨jb (by simp_all[fj]),trivial⟩,aU,trivial⟩
      ·refine z8 Z Z c3<|za (zd j5 Z jn (by decide) Z Z)<|z8 Z Z c3<|za (Gv.loadAC (l:=[_,_,_,_]) Zo jn Z ⟨_,.t1⟩ Z Z)<|z8 Z Z c3<|za (zd j5 Z jn (by decide) Z Z)<|z8 Z Z c3<|za (Gv.loadAC (l:=[_,_,_,_]) Zo jn Z ⟨_,.head⟩ Z Z)<|z8 Z Z c3<|za (Gv.neqP (xs:=[.int _ _,.int _ _,.int _ _,.int _ _]) (ys:=[.int _ _,.int _ _,.int _ _,.int _ _]) (by kernel_rfl) Z Z (fun w=>AC _ _ _ _ _ _ _ _ w))<|al Z c3 Z<|aj Z<|zk (s:=82) Z (fun c4=>?_) (fun c4=>?_)
       ·refine z6 Z Z c4<|z6 Z Z c4<|z6 Z Z c4<|z6 Z Z c4<|z6 Z Z c4<|z6 Z Z c4<|z6 Z Z c4<|ak Z c4 Z<|aj Z<|z6 Z Z Z<|z6 Z Z Z<|z6 Z Z Z<|z6 Z Z Z<|z6 Z Z Z<|z6 Z Z Z<|z6 Z Z Z<|ak Z Z Z<|z7 ?_
        exact ⟨(),Ax,⟨jb (by simp_all[fj]),trivial⟩,aU,trivial⟩
       ·refine z8 Z Z c4<|za (zd j5 Z jw (by decide) Z Z)<|z8 Z Z c4<|za (zj (c:=.fro _ _) Z8 Z ⟨_,.t1⟩ Z)<|z8 Z Z c4<|ac jl Z<|z8 Z Z c4<|za (zd j5 Z jw (by decide) Z Z)<|z8 Z Z c4<|za (zj (c:=.fro _ _) Z8 Z ⟨_,.head⟩ Z)<|z8 Z Z c4<|ac jl Z<|z8 Z Z c4<|aG Z Z<|al Z c4 Z<|aj Z<|zk (s:=91) Z (fun c5=>?_) (fun c5=>?_)
        ·refine z6 Z Z c5<|z6 Z Z c5<|z6 Z Z c5<|z6 Z Z c5<|z6 Z Z c5<|z6 Z Z c5<|z6 Z Z c5<|ak Z c5 Z<|z7 ?_
         exact ⟨(),Ax,⟨jb (by simp_all[fj]),trivial⟩,aU,trivial⟩
        ·refine z8 Z Z c5<|za (zd j5 Z Z0 (by decide) Z Z)<|z8 Z Z c5<|za (zj (c:=.fro _ _) Ze Z ⟨_,.t1⟩ Z)<|z8 Z Z c5<|ac jo Z<|z8 Z Z c5<|za (zd j5 Z Z0 (by decide) Z Z)<|z8 Z Z c5<|za (zj (c:=.fro _ _) Ze Z ⟨_,.head⟩ Z)<|z8 Z Z c5<|ac jo Z<|z8 Z Z c5<|aG Z Z<|al Z c5 Z<|z7 ?_
         exact ⟨(),Ax,⟨jb (by simp_all[fj]),trivial⟩,aU,trivial⟩
     ·rintro _ _
      refine zu Z (fun cb=>?_) (fun cb=>?_)
      ·refine ai<|ad Z<|z7<|zg<|zi (x:=.bool _) Z ?_
       rw[qf (fun e=>by subst e;simp[fj] at cb)]
      ·obtain ⟨⟨hbn,hbt⟩,hbp,hbi⟩:=vY cb
       refine zf<|zb<|ai<|za (zd j5 Z jw (by decide) Z Z)<|za (zj (c:=.fro _ _) Z8 Z ⟨_,.t1⟩ Z)<|ac jl Z<|aa Z<|z7<|zh<|y7 (γ:=Nat) [3,7,8,58,59,60,101,102] (fun m=>[(103,.int .i64 m)]) (fun m=>[(i8,.cells 60 (aE g.blocks[k])),(i7,.cells 60 (aE f.blocks[k]))]) (fun m=>m≤f.blocks[k].phis.length∧f.blocks[k].phis.take m=g.blocks[k].phis.take m) (fun m=>f.blocks[k].phis.length - m) 0 aV aU (⟨q5 _,Z⟩) ?_
       rintro m ⟨hm,hpre3⟩
       refine ai<|ay Z Z<|z7<|zb<|zt Z (fun cm=>?_) (fun cm=>?_)
       ·have hj1:m<f.blocks[k].phis.length:=by omega
        have hj2:m<g.blocks[k].phis.length:=by omega
        obtain ⟨hy1,hy2⟩:=hx3 _ (q6 hj1)
        refine zf<|zb<|zh<|ai<|aa Z<|za (yk jl jp Z Z Z (q2 (by omega)))<|ab Zf jp Z Z<|zp (cs:=[.int .i64 0,.raw (.slice none 0 0),.raw (.slice none 0 0)]) jz Z Z<|fun i10=>aw Z<|zm jp Z Z Z Z Z Z .head Z<|z7<|ai<|za (zd j5 Z jw (by decide) Z Z)<|za (zj (c:=.fro _ _) Z8 Z ⟨_,.t1⟩ Z)<|aa Z<|za (yk jl jp Z Z Z (q2 (by omega)))<|ab Zf jp Z Z<|zp (cs:=[.int .i64 0,.raw (.slice none 0 0),.raw (.slice none 0 0)]) jz Z Z<|fun i11=>zm jp Z Z Z Z Z Z .head Z<|z7<|zb<|yn (γ:=Unit) [3,7,8,58,59,60,101,102,103] (fun u=>[(133,.bool (!decide (f.blocks[k].phis[m]=g.blocks[k].phis[m])))]) (fun u=>[(i8,.cells 60 (aE g.blocks[k])),(i7,.cells 60 (aE f.blocks[k]))]) (fun u=>True) ?_ (fun _ _ h=>h) ?_
        ·refine bg<|za (zd jc Z j9 (by decide) Z Z)<|za (zj (c:=.int _ _) jf Z ⟨_,.t1⟩ Z)<|za (zd jc Z j9 (by decide) Z Z)<|za (zj (c:=.int _ _) jf Z ⟨_,.head⟩ Z)<|aG Z Z<|aj Z<|zk (s:=118) Z (fun c6=>?_) (fun c6=>?_)
         ·refine z6 Z Z c6<|z6 Z Z c6<|z6 Z Z c6<|z6 Z Z c6<|z6 Z Z c6<|z6 Z Z c6<|ak Z c6 Z<|aj Z<|z6 Z Z Z<|z6 Z Z Z<|z6 Z Z Z<|z6 Z Z Z<|z6 Z Z Z<|z6 Z Z Z<|ak Z Z Z<|z7 ?_
          exact ⟨(),ne,⟨jb (by rw[lT,Bool.not_not];simp_all),trivial⟩,⟨_,(.drop (.drop (.refl _))),rfl⟩,trivial⟩
         ·refine z8 Z Z c6<|za (zd jc Z je (by decide) Z Z)<|z8 Z Z c6<|za (zj (c:=.fro _ _) jm Z ⟨_,.t1⟩ Z)<|z8 Z Z c6<|za (zd jc Z je (by decide) Z Z)<|z8 Z Z c6<|za (zj (c:=.fro _ _) jm Z ⟨_,.head⟩ Z)<|z8 Z Z c6<|ze (gM _ _ (by assumption)) Z<|z8 Z Z c6<|aH Z<|al Z c6 Z<|aj Z<|zk (s:=126) Z (fun c7=>?_) (fun c7=>?_)
          ·refine z6 Z Z c7<|z6 Z Z c7<|z6 Z Z c7<|z6 Z Z c7<|z6 Z Z c7<|z6 Z Z c7<|ak Z c7 Z<|z7 ?_
           exact ⟨(),ne,⟨jb (by rw[lT,Bool.not_not];simp_all),trivial⟩,⟨_,(.drop (.drop (.refl _))),rfl⟩,trivial⟩
          ·refine z8 Z Z c7<|za (zd jc Z je (by decide) Z Z)<|z8 Z Z c7<|za (zj (c:=.fro _ _) jm Z ⟨_,.t1⟩ Z)<|z8 Z Z c7<|za (zd jc Z je (by decide) Z Z)<|z8 Z Z c7<|za (zj (c:=.fro _ _) jm Z ⟨_,.head⟩ Z)<|z8 Z Z c7<|ze (gM _ _ (by assumption)) Z<|z8 Z Z c7<|aH Z<|al Z c7 Z<|z7 ?_
           exact ⟨(),ne,⟨jb (by rw[lT,Bool.not_not];simp_all),trivial⟩,⟨_,(.drop (.drop (.refl _))),rfl⟩,trivial⟩
        ·rintro _ _
         refine zu Z (fun cp=>?_) (fun cp=>?_)
         ·refine ai<|ad Z<|z7<|zg<|zi (x:=.bool _) Z ?_
          rw[qf (fun e=>by subst e;simp at cp)]
         ·refine zf<|bg<|aB Z Z<|aa Z<|z7 ?_
          exact ⟨m+1,qi,aV,aU,⟨hj1,eA hj1 hj2 hpre3 (by simpa using cp)⟩,by omega⟩
       ·have hphis:=eB hbp (by omega) hpre3
        refine zy<|ai<|za (zd j5 Z Z0 (by decide) Z Z)<|za (zj (c:=.fro _ _) Ze Z ⟨_,.t1⟩ Z)<|ac jo Z<|aa Z<|z7<|zh<|y7 (γ:=Nat) [3,8,58,59,60,136,137] (fun m=>[(138,.int .i64 m)]) (fun m=>[(i8,.cells 60 (aE g.blocks[k])),(i7,.cells 60 (aE f.blocks[k]))]) (fun m=>m≤f.blocks[k].insts.length∧f.blocks[k].insts.take m=g.blocks[k].insts.take m) (fun m=>f.blocks[k].insts.length - m) 0 aV aU (⟨q5 _,Z⟩) ?_
        rintro m ⟨hm,hpre3⟩
        refine ai<|ay Z Z<|z7<|zb<|zt Z (fun cm=>?_) (fun cm=>?_)
        ·have hj1:m<f.blocks[k].insts.length:=by omega
         have hj2:m<g.blocks[k].insts.length:=by omega
         have hy1:=hx4 _ (q6 hj1)
         refine zf<|zb<|zh<|ai<|aa Z<|za (yk jo jt Z Z Z (q2 (by omega)))<|ab Zm jt Z Z<|zp (cs:=[.int .i64 0,.int .i64 0,.raw (.slice none 0 0),.int .i64 0]) Zg Z Z<|fun i13=>aw Z<|zm jt Z Z Z Z Z Z .head Z<|z7<|ai<|za (zd j5 Z Z0 (by decide) Z Z)<|za (zj (c:=.fro _ _) Ze Z ⟨_,.t1⟩ Z)<|aa Z<|za (yk jo jt Z Z Z (q2 (by omega)))<|ab Zm jt Z Z<|zp (cs:=[.int .i64 0,.int .i64 0,.raw (.slice none 0 0),.int .i64 0]) Zg Z Z<|fun i14=>zm jt Z Z Z Z Z Z .head Z<|z7<|zb<|yn (γ:=Unit) [3,8,58,59,60,136,137,138] (fun u=>[(174,.bool (!decide (f.blocks[k].insts[m]=g.blocks[k].insts[m])))]) (fun u=>[(i8,.cells 60 (aE g.blocks[k])),(i7,.cells 60 (aE f.blocks[k]))]) (fun u=>True) ?_ (fun _ _ h=>h) ?_
         ·refine bg<|za (zd jd Z Zd (by decide) Z Z)<|za (zj (c:=.int _ _) Zj Z ⟨_,.t1⟩ Z)<|za (zd jd Z Zd (by decide) Z Z)<|za (zj (c:=.int _ _) Zj Z ⟨_,.head⟩ Z)<|aG Z Z<|aj Z<|zk (s:=153) Z (fun c8=>?_) (fun c8=>?_)
          ·refine z6 Z Z c8<|z6 Z Z c8<|z6 Z Z c8<|z6 Z Z c8<|z6 Z Z c8<|ak Z c8 Z<|aj Z<|z6 Z Z Z<|z6 Z Z Z<|z6 Z Z Z<|z6 Z Z Z<|z6 Z Z Z<|ak Z Z Z<|aj Z<|z6 Z Z Z<|z6 Z Z Z<|z6 Z Z Z<|z6 Z Z Z<|z6 Z Z Z<|z6 Z Z Z<|ak Z Z Z<|z7 ?_
           exact ⟨(),qi,⟨jb (by rw[gO,Bool.not_not];simp_all),trivial⟩,⟨_,(.drop (.drop (.refl _))),rfl⟩,trivial⟩
          ·refine z8 Z Z c8<|za (zd jd Z j9 (by decide) Z Z)<|z8 Z Z c8<|za (zj (c:=.int _ _) jf Z ⟨_,.t1⟩ Z)<|z8 Z Z c8<|za (zd jd Z j9 (by decide) Z Z)<|z8 Z Z c8<|za (zj (c:=.int _ _) jf Z ⟨_,.head⟩ Z)<|z8 Z Z c8<|aG Z Z<|al Z c8 Z<|aj Z<|zk (s:=160) Z (fun c9=>?_) (fun c9=>?_)
           ·refine z6 Z Z c9<|z6 Z Z c9<|z6 Z Z c9<|z6 Z Z c9<|z6 Z Z c9<|ak Z c9 Z<|aj Z<|z6 Z Z Z<|z6 Z Z Z<|z6 Z Z Z<|z6 Z Z Z<|z6 Z Z Z<|z6 Z Z Z<|ak Z Z Z<|z7 ?_
            exact ⟨(),qi,⟨jb (by rw[gO,Bool.not_not];simp_all),trivial⟩,⟨_,(.drop (.drop (.refl _))),rfl⟩,trivial⟩
           ·refine z8 Z Z c9<|za (zd jd Z sizeOf2 (by decide) Z Z)<|z8 Z Z c9<|za (zj (c:=.int _ _) isAgg2 Z ⟨_,.t1⟩ Z)<|z8 Z Z c9<|za (zd jd Z sizeOf2 (by decide) Z Z)<|z8 Z Z c9<|za (zj (c:=.int _ _) isAgg2 Z ⟨_,.head⟩ Z)<|z8 Z Z c9<|aG Z Z<|al Z c9 Z<|aj Z<|zk (s:=167) Z (fun c10=>?_) (fun c10=>?_)
            ·refine z6 Z Z c10<|z6 Z Z c10<|z6 Z Z c10<|z6 Z Z c10<|z6 Z Z c10<|z6 Z Z c10<|ak Z c10 Z<|z7 ?_
             exact ⟨(),qi,⟨jb (by rw[gO,Bool.not_not];simp_all),trivial⟩,⟨_,(.drop (.drop (.refl _))),rfl⟩,trivial⟩
            ·refine z8 Z Z c10<|za (zd jd Z je (by decide) Z Z)<|z8 Z Z c10<|za (zj (c:=.fro _ _) jm Z ⟨_,.t1⟩ Z)<|z8 Z Z c10<|za (zd jd Z je (by decide) Z Z)<|z8 Z Z c10<|za (zj (c:=.fro _ _) jm Z ⟨_,.head⟩ Z)<|z8 Z Z c10<|ze (gM _ _ (by assumption)) Z<|z8 Z Z c10<|aH Z<|al Z c10 Z<|z7 ?_
             exact ⟨(),qi,⟨jb (by rw[gO,Bool.not_not];simp_all),trivial⟩,⟨_,(.drop (.drop (.refl _))),rfl⟩,trivial⟩
         ·rintro _ _
          refine zu Z (fun cp=>?_) (fun cp=>?_)
          ·refine ai<|ad Z<|z7<|zg<|zi (x:=.bool _) Z ?_
           rw[qf (fun e=>by subst e;simp at cp)]
          ·refine zf<|bg<|aB Z Z<|aa Z<|z7 ?_
           exact ⟨m+1,gY,aV,aU,⟨hj1,eA hj1 hj2 hpre3 (by simpa using cp)⟩,by omega⟩
        ·have hinsts:=eB hbi (by omega) hpre3
         refine zy<|bg<|aB Z Z<|aa Z<|z7 ?_
         exact ⟨k+1,oE,aV,⟨_,(.drop (.drop (.refl _))),rfl⟩,⟨hi1,eA hi1 hi2 hpre2 (AN hbn hbt hphis hinsts)⟩,by omega⟩
    ·have hblocks:=eB hbl (by omega) hpre2
     refine zy<|ai<|ad Z<|z7<|zg<|zi (x:=.bool _) Z ?_
     rw[qe (xx hvars hpar hblocks)]
end
section
open Go.Proofs.Tryz
open Go.Proofs Go.Lib Go.Shelf Go.RowKit
set_option maxRecDepth 20000
variable {E:World}
def wV (l:List iU):Nat:=(l.map fun v=>v.name.size).sum
def wP (l:List bM):Nat:=(l.map fun p=>p.args.length+p.from_.length).sum
def wX (l:List bB):Nat:=(l.map fun x=>x.args.length).sum
def wB (b:az):Nat:=b.name.size+10*(b.phis.length+b.insts.length)+wP b.phis+wX b.insts
def qG (l:List az):Nat:=(l.map wB).sum
theorem AO {l:List iU} {k:Nat} (h:k<l.length):wV (l.take (k+1))=wV (l.take k)+l[k].name.size:=by
 unfold wV;rw[q3 h,List.map_append,List.sum_append];simp only[List.map_cons,List.map_nil,List.sum_cons,List.sum_nil,Nat.add_zero]
theorem AP {l:List bM} {k:Nat} (h:k<l.length):wP (l.take (k+1))=wP (l.take k)+(l[k].args.length+l[k].from_.length):=by
 unfold wP;rw[q3 h,List.map_append,List.sum_append];simp only[List.map_cons,List.map_nil,List.sum_cons,List.sum_nil,Nat.add_zero]
theorem AQ {l:List bB} {k:Nat} (h:k<l.length):wX (l.take (k+1))=wX (l.take k)+l[k].args.length:=by
 unfold wX;rw[q3 h,List.map_append,List.sum_append];simp only[List.map_cons,List.map_nil,List.sum_cons,List.sum_nil,Nat.add_zero]
theorem oZ {l:List az} {k:Nat} (h:k<l.length):qG (l.take (k+1))=qG (l.take k)+wB l[k]:=by
 unfold qG;rw[q3 h,List.map_append,List.sum_append];simp only[List.map_cons,List.map_nil,List.sum_cons,List.sum_nil,Nat.add_zero]
def rU (b:az):Prop:=b.name.size≤400∧b.phis.length≤400∧b.insts.length≤400∧(∀p∈b.phis,p.args.length≤400∧p.from_.length≤400)∧∀x∈b.insts,x.args.length≤400
def jW (f:ae):Prop:=f.vars.length≤100∧f.blocks.length≤40∧f.params.length≤20∧(∀v∈f.vars,v.name.size≤400)∧(∀b∈f.blocks,rU b)∧(f.blocks≠[]→wV f.vars+qG f.blocks≤4000)
theorem jW.small {f:ae} (h:jW f):small f:=by
 obtain ⟨h1,h2,h3,h4,h5,_⟩:=h
 refine ⟨by omega,by omega,by omega,fun v hv=>by have:=h4 v hv;omega,fun b hb=>?_⟩
 obtain ⟨g1,g2,g3,g4,g5⟩:=h5 b hb
 exact ⟨by omega,by omega,by omega,fun p hp=>by have:=g4 p hp;omega,fun x hx=>by have:=g5 x hx;omega⟩
def wL {α:Type} (l:List α):Prop:=l.length≤9223372036854775807
def D0 (p:bM):Prop:=wL p.args∧wL p.from_
def D1 (b:az):Prop:=wL b.phis∧wL b.insts∧(∀p∈b.phis,D0 p)∧(∀x∈b.insts,wL x.args)
def nl (f:ae):Prop:=wL f.vars∧wL f.params∧wL f.blocks∧∀b∈f.blocks,D1 b
theorem wL.lt {α:Type} {l:List α} (h:wL l):l.length≤9223372036854775807:=h
def vZ (f:ae):Bool:=decide ((100:Int)<f.vars.length)||(decide ((40:Int)<f.blocks.length)||decide ((20:Int)<f.params.length))
def v6 (b:az):Bool:=decide ((400:Int)<b.name.size)||(decide ((400:Int)<b.phis.length)||decide ((400:Int)<b.insts.length))
end
section
open Go.Proofs.Tryz
open Go.Proofs Go.Lib Go.Shelf Go.RowKit
set_option maxRecDepth 20000
variable {E:World}
end
section
open Go.Proofs.Tryz
open Go.Proofs Go.Lib Go.Shelf Go.RowKit
set_option maxRecDepth 20000
variable {E:World}
theorem AR:∀r∈em,r.1≠⟨#[]⟩:=by decide
theorem AU {op:Int} (h:0≤op∧op≤26):(bv op).1≠⟨#[]⟩:=by
 have hm:bv op∈em:=by
  unfold bv
  rw[if_pos h.1,q2 (show _<27 by omega)]
  exact q6 _
 exact AR _ hm
theorem xy:∀j:Nat,j<27→ly (j:Int)=(decide ((bv (j:Int)).1=⟨#[99,111,110,115,116]⟩)||decide ((bv (j:Int)).1=⟨#[112,105]⟩)):=by decide
theorem nn {x:bB} (h:0≤x.op∧x.op≤26):fZ x=ly x.op:=by
 have:=xy x.op.toNat (by omega)
 rw[Int.toNat_of_nonneg h.1] at this
 unfold fZ;exact this.symm
theorem jX (op:Int):(bd op).length=(bv op).2.1.size:=by unfold bd;rw[q9];exact Array.length_toList
theorem v7 (b:ByteArray):b.data.toList.isEmpty=decide (b=⟨#[]⟩):=by
 obtain ⟨⟨l⟩⟩:=b
 cases l<;>simp
theorem gP (op:Int):cK op=!decide ((bv op).2.2=⟨#[]⟩):=by unfold cK;rw[v7]
theorem v8 {op:Int} (h:¬(0≤op∧op≤26)):bv op=(⟨#[]⟩,⟨#[]⟩,⟨#[]⟩):=oN (by unfold mR;simp;omega)
theorem lU (f:ae) (x:bB):b5 f x=true↔lP f x:=by
 by_cases h:0≤x.op∧x.op≤26
 ·have hw:=AU h
  have hn:=nn h
  unfold b5 ee ep lP iw
  rw[jX,gP,hn]
  by_cases h1:x.args.length=(bv x.op).2.1.size<;>by_cases h2:(bv x.op).2.2=⟨#[]⟩<;>by_cases h3:x.dst=-1<;>by_cases h4:x.num=0<;>by_cases h5:x.args.all (bf f)=true<;>simp_all[Int.ofNat_inj]<;>(try (unfold bf;simp))<;>(try grind)
 ·constructor
  ·intro h2
   have:=v8 h
   unfold b5 ee at h2
   rw[this] at h2;simp at h2
  ·intro h2;exact absurd ⟨h2.1,h2.2.1⟩ h
def only (f:ae) (x:bB):ae:={ f with blocks:=[⟨⟨#[111,110,108,121]⟩,[],[x],⟨0,0,0,0⟩⟩] }
def ended (f:ae) (b0:az) (bs:List az) (t:b9):ae:={ f with blocks:={ b0 with term:=t }::bs }
end
section
open Go.Proofs.Tryz
open Go.Proofs Go.Lib Go.Shelf Go.RowKit
set_option maxRecDepth 20000
variable {E:World}
def cX (c:Int):Bool:=isLetterU c&&!decide (c=65533)
def lV (c:Int):Bool:=decide (48≤c)&&decide (c≤57)
def db (c:Int):Bool:=cX c||(lV c||(decide (c=46)||decide (c=95)))
theorem jA (c:Int) (h1:-2147483648≤c) (h2:c≤2147483647) (hL:ah E):aT prog E 189 [.int .i32 c] (.bool (cX c)):=by
 refine zo func189 Z (by decide) Z<|ai<|ad Z<|z7<|ai<|aa Z<|ze (gr c h1 h2 hL) Z<|aj Z<|zk (s:=5) Z (fun c1=>?_) (fun c1=>?_)
 ·refine z8 Z Z c1<|aa Z<|z8 Z Z c1<|aG Z Z<|ak Z c1 Z<|ad Z<|z7<|zg<|zi (x:=.bool _) Z ?_
  exact jb (by simp_all[cX])
 ·refine z6 Z Z c1<|z6 Z Z c1<|al Z c1 Z<|ad Z<|z7<|zg<|zi (x:=.bool _) Z ?_
  exact jb (by simp_all[cX])
theorem o1 (c:Int):aT prog E 198 [.int .i32 c] (.bool (lV c)):=by
 refine zo func198 Z (by decide) Z<|ai<|ad Z<|z7<|ai<|aa Z<|za (Gv.geq Z Z)<|aj Z<|zk (s:=5) Z (fun c2=>?_) (fun c2=>?_)
 ·refine z8 Z Z c2<|aa Z<|z8 Z Z c2<|za (Gv.leq Z Z)<|ak Z c2 Z<|ad Z<|z7<|zg<|zi (x:=.bool _) Z ?_
  exact jb (by simp_all[lV]<;>(intros;omega))
 ·refine z6 Z Z c2<|z6 Z Z c2<|al Z c2 Z<|ad Z<|z7<|zg<|zi (x:=.bool _) Z ?_
  exact jb (by simp_all[lV]<;>(intros;omega))
theorem kz (c:Int) (h1:-2147483648≤c) (h2:c≤2147483647) (hL:ah E):aT prog E 190 [.int .i32 c] (.bool (db c)):=by
 refine zo func190 Z (by decide) Z<|ai<|ad Z<|z7<|ai<|aa Z<|ze (jA c h1 h2 hL) Z<|aj Z<|zk (s:=5) Z (fun c3=>?_) (fun c3=>?_)
 ·refine z6 Z Z c3<|z6 Z Z c3<|ak Z c3 Z<|aj Z<|z6 Z Z Z<|z6 Z Z Z<|ak Z Z Z<|aj Z<|z6 Z Z Z<|z6 Z Z Z<|ak Z Z Z<|ad Z<|z7<|zg<|zi (x:=.bool _) Z ?_
  exact jb (by simp_all[db])
 ·refine z8 Z Z c3<|aa Z<|z8 Z Z c3<|ze (o1 _) Z<|al Z c3 Z<|aj Z<|zk (s:=9) Z (fun c4=>?_) (fun c4=>?_)
  ·refine z6 Z Z c4<|z6 Z Z c4<|ak Z c4 Z<|aj Z<|z6 Z Z Z<|z6 Z Z Z<|ak Z Z Z<|ad Z<|z7<|zg<|zi (x:=.bool _) Z ?_
   exact jb (by simp_all[db])
  ·refine z8 Z Z c4<|aa Z<|z8 Z Z c4<|aq Z Z<|al Z c4 Z<|aj Z<|zk (s:=13) Z (fun c5=>?_) (fun c5=>?_)
   ·refine z6 Z Z c5<|z6 Z Z c5<|ak Z c5 Z<|ad Z<|z7<|zg<|zi (x:=.bool _) Z ?_
    exact jb (by simp_all[db])
   ·refine z8 Z Z c5<|aa Z<|z8 Z Z c5<|aq Z Z<|al Z c5 Z<|ad Z<|z7<|zg<|zi (x:=.bool _) Z ?_
    exact jb (by simp_all[db])
def bi (s:ByteArray) (p:Nat):List Int:=if h:p<s.size then ((Utf8.decode s p).1:Int)::bi s (p+(Utf8.decode s p).2) else[]
termination_by s.size - p
decreasing_by have:=(cU s p).1;omega
theorem dj {s:ByteArray} {p:Nat} (h:p<s.size):bi s p=((Utf8.decode s p).1:Int)::bi s (p+(Utf8.decode s p).2):=by rw[bi,dif_pos h]
theorem bR {s:ByteArray} {p:Nat} (h:¬p<s.size):bi s p=[]:=by rw[bi,dif_neg h]
theorem mU (s:ByteArray):∀k p,s.size - p≤k→(bi s p).length≤k:=by
 intro k
 induction k with
 |zero=>intro p h;rw[bR (by omega)];simp
 |succ k ih=>
  intro p h
  by_cases hp:p<s.size
  ·rw[dj hp]
   have:=(cU s p).1
   have:=ih (p+(Utf8.decode s p).2) (by omega)
   simp;omega
  ·rw[bR hp];simp
theorem qH (s:ByteArray) (hs:s.size≤140737488355328):aT prog E 191 [.str s] (.int .i64 (bi s 0).length):=by
 have h0:=mU s s.size 0 (by omega)
 refine zo func191 Z (by decide) Z<|ai<|aw Z<|z7<|ai<|aw Z<|z7<|zb<|ai<|za (yx (v:=.str _) Z)<|ao.rangeT jv Z<|fun i5=>z7<|zh<|y7 (γ:=Nat × Nat) [5] (fun g=>[(3,.int .i64 g.2)]) (fun g=>[(i5,.iter s g.1)]) (fun g=>g.2+(bi s g.1).length=(bi s 0).length) (fun g=>s.size - g.1) (0,0) aV aU (by simp) ?_
 rintro ⟨p,n⟩ hp
 try dsimp only at *
 by_cases hlt:p<s.size
 ·have hd:=(cU s p).1
  rw[dj hlt] at hp
  simp only[List.length_cons] at hp
  refine ai<|ao.nextT Z .head hlt<|za (w9 Z Z)<|z7<|zb<|yi Z Z<|zf<|zh<|bg<|aa Z<|aB Z Z<|aw Z<|z7 ?_
  exact ⟨(p+(Utf8.decode s p).2,n+1),aV,aV,aU,by dsimp only;omega,by dsimp only;omega⟩
 ·rw[bR hlt] at hp
  simp only[List.length_nil] at hp
  refine ai<|ao.nextTover Z .head hlt<|za (w9 Z Z)<|z7<|zb<|yd Z Z<|zy<|ai<|aa Z<|aw Z<|z7<|zg<|zi (x:=.int _ _) Z ?_
  exact congrArg (AV.int .i64) (by omega)
def lW (s:ByteArray) (p:Nat):Bool:=if h:p<s.size then (if (decide (p=0)&&!cX ((Utf8.decode s p).1:Int))||!db ((Utf8.decode s p).1:Int) then false else lW s (p+(Utf8.decode s p).2)) else (decide (¬s=⟨#[]⟩)&&decide (((bi s 0).length:Int)≤16))
termination_by s.size - p
decreasing_by have:=(cU s p).1;omega
def dc (s:ByteArray):Bool:=lW s 0
theorem qI (s:ByteArray) (hs:s.size≤140737488355328) (hL:ah E):aT prog E 177 [.str s] (.bool (dc s)):=by
 refine zo func177 Z (by decide) Z<|ai<|ad Z<|z7<|zb<|ai<|za (yx (v:=.str _) Z)<|ao.rangeT jv Z<|fun i6=>z7<|zh<|y7 (γ:=Nat) [0,6] (fun p=>[]) (fun p=>[(i6,.iter s p)]) (fun p=>lW s p=dc s) (fun p=>s.size - p) 0 trivial aU (Z) ?_
 rintro p hp
 by_cases hlt:p<s.size
 ·obtain ⟨hd1,hd2⟩:=cU s p
  have hstep:=hp
  rw[lW,dif_pos hlt] at hstep
  refine ai<|ao.nextT Z .head hlt<|za (w9 Z Z)<|z7<|zb<|yi Z Z<|zf<|zh<|ai<|za (xi Z Z)<|za (xi Z Z)<|aw Z<|aw Z<|z7<|ai<|aa Z<|aq Z Z<|aj Z<|zk (s:=13) Z (fun c6=>?_) (fun c6=>?_)
  ·refine z8 Z Z c6<|aa Z<|z8 Z Z c6<|ze (jA _ (by omega) (by omega) hL) Z<|z8 Z Z c6<|aH Z<|ak Z c6 Z<|aj Z<|zk (s:=18) Z (fun c7=>?_) (fun c7=>?_)
   ·refine z6 Z Z c7<|z6 Z Z c7<|z6 Z Z c7<|ak Z c7 Z<|z7<|yi Z Z<|ai<|ad Z<|z7<|zg<|zi (x:=.bool _) Z ?_
    rw[if_pos (by simp_all<;>omega)] at hstep;exact jb hstep
   ·refine z8 Z Z c7<|aa Z<|z8 Z Z c7<|ze (kz _ (by omega) (by omega) hL) Z<|z8 Z Z c7<|aH Z<|al Z c7 Z<|z7<|zu Z (fun c8=>?_) (fun c8=>?_)
    ·refine ai<|ad Z<|z7<|zg<|zi (x:=.bool _) Z ?_
     rw[if_pos (by simp_all<;>omega)] at hstep;exact jb hstep
    ·refine zf ?_
     exact ⟨p+(Utf8.decode s p).2,fF,trivial,aU,by rw[if_neg (by simp_all<;>omega)] at hstep;exact hstep,by omega⟩
  ·refine z6 Z Z c6<|z6 Z Z c6<|z6 Z Z c6<|al Z c6 Z<|aj Z<|z8 Z Z Z<|aa Z<|z8 Z Z Z<|ze (kz _ (by omega) (by omega) hL) Z<|z8 Z Z Z<|aH Z<|al Z Z Z<|z7<|zu Z (fun c9=>?_) (fun c9=>?_)
   ·refine ai<|ad Z<|z7<|zg<|zi (x:=.bool _) Z ?_
    rw[if_pos (by simp_all<;>omega)] at hstep;exact jb hstep
   ·refine zf ?_
    exact ⟨p+(Utf8.decode s p).2,fF,trivial,aU,by rw[if_neg (by simp_all<;>omega)] at hstep;exact hstep,by omega⟩
 ·rw[lW,dif_neg hlt] at hp
  refine ai<|ao.nextTover Z .head hlt<|za (w9 Z Z)<|z7<|zb<|yd Z Z<|zy<|ai<|za (yx (v:=.str _) Z)<|za (Gv.neqT Z Z)<|aj Z<|zk (s:=25) Z (fun c10=>?_) (fun c10=>?_)
  ·refine z8 Z Z c10<|za (yx (v:=.str _) Z)<|z8 Z Z c10<|ze (qH _ (by assumption)) Z<|z8 Z Z c10<|za (Gv.leq Z Z)<|ak Z c10 Z<|ad Z<|z7<|zg<|zi (x:=.bool _) Z ?_
   rw[←hp];exact jb (by simp_all<;>(try omega))
  ·refine z6 Z Z c10<|z6 Z Z c10<|z6 Z Z c10<|al Z c10 Z<|ad Z<|z7<|zg<|zi (x:=.bool _) Z ?_
   rw[←hp];exact jb (by simp_all<;>(try omega))
end
section
open Go.Proofs.Tryz
open Go.Proofs Go.Lib Go.Shelf Go.RowKit
set_option maxRecDepth 20000
variable {E:World}
def fM (t:Int):ByteArray:=if t=0 then ⟨#[105,110,116]⟩ else if t=1 then ⟨#[98,111,111,108]⟩ else if t=2 then ⟨#[97,114,114]⟩ else ⟨#[]⟩
theorem AW (s:ByteArray):DZ s.data.toList=s:=by unfold DZ;simp
def rV:List Int→Bool
 |[]=>false
 |c::rs=>cX c&&(rs.all db&&decide (rs.length+1≤16))
theorem nS {c:Int} (h:cX c=true):db c=true:=by unfold db;rw[h];rfl
theorem xz (s:ByteArray):∀(n p:Nat),s.size - p≤n→0<p→p≤s.size→lW s p=((bi s p).all db&&decide ((bi s 0).length≤16)):=by
 intro n
 induction n with
 |zero=>
  intro p h hp hps
  have hne:¬s=⟨#[]⟩:=fun e=>by subst e;have:p≤0:=hps;omega
  rw[lW,dif_neg (by omega),bR (p:=p) (by omega)]
  simp[hne];omega
 |succ n ih=>
  intro p h hp hps
  by_cases hlt:p<s.size
  ·have hd:=(cU s p).1
   have hw:p+(Utf8.decode s p).2≤s.size:=by
    have:=decodeL_le (s.data.toList.drop p) (by intro e;have:=congrArg List.length e;rw[List.length_drop] at this;have h2:s.data.toList.length=s.size:=Array.length_toList;simp only[List.length_nil] at this;omega)
    rw[decodeL_drop,List.length_drop] at this
    have h2:s.data.toList.length=s.size:=Array.length_toList
    omega
   rw[lW,dif_pos hlt,dj hlt,List.all_cons]
   have hp0:decide (p=0)=false:=qf (by omega)
   rw[hp0,Bool.false_and,Bool.false_or]
   cases hi:db ((Utf8.decode s p).1:Int) with
   |false=>simp
   |true=>rw[if_neg (by simp),ih _ (by omega) (by omega) hw];simp
  ·have hne:¬s=⟨#[]⟩:=fun e=>by subst e;have:p≤0:=hps;omega
   rw[lW,dif_neg hlt,bR (p:=p) hlt]
   simp[hne];omega
theorem AX {s:ByteArray} {p:Nat} (hlt:p<s.size):p+(Utf8.decode s p).2≤s.size:=by
 have h2:s.data.toList.length=s.size:=Array.length_toList
 have:=decodeL_le (s.data.toList.drop p) (by intro e;have:=congrArg List.length e;rw[List.length_drop] at this;simp only[List.length_nil] at this;omega)
 rw[decodeL_drop,List.length_drop] at this
 omega
theorem qJ (s:ByteArray):dc s=rV (bi s 0):=by
 unfold dc
 by_cases hlt:0<s.size
 ·have hd:=(cU s 0).1
  have hw:=AX hlt
  have hr:=dj hlt
  have hl:=congrArg List.length hr
  rw[List.length_cons] at hl
  rw[lW,dif_pos hlt]
  have h2:rV (bi s 0)=(cX ((Utf8.decode s 0).1:Int)&&((bi s (0+(Utf8.decode s 0).2)).all db&&decide ((bi s (0+(Utf8.decode s 0).2)).length+1≤16))):=by rw[hr];rfl
  rw[h2]
  cases hc:cX ((Utf8.decode s 0).1:Int) with
  |false=>simp
  |true=>
   rw[nS hc,if_neg (by simp),xz s _ _ (Nat.le_refl _) (by omega) hw,hl];rfl
 ·rw[lW,dif_neg hlt,bR hlt]
  have:s=⟨#[]⟩:=by
   have h2:s.data.toList.length=s.size:=Array.length_toList
   have h3:s.data.toList=[]:=List.eq_nil_of_length_eq_zero (by omega)
   rw[←AW s,h3];rfl
  simp[this,rV]
theorem rW (k:Nat):(decide ((1:Int)≤((k+1:Nat):Int))&&decide (((k+1:Nat):Int)≤16))=(([]:List Int).all db&&decide (k+1+([]:List Int).length≤16)):=by
 rw[qe (by omega),Bool.true_and]
 show _=(true&&_)
 rw[Bool.true_and,decide_eq_decide]
 show ((k+1:Nat):Int)≤16↔k+1+0≤16
 omega
theorem nT (s:ByteArray):∀(n p k:Nat),s.size - p≤n→cZ s p (k+1)=((bi s p).all db&&decide (k+1+(bi s p).length≤16)):=by
 intro n
 induction n with
 |zero=>
  intro p k h
  rw[cZ,dif_neg (by omega),bR (by omega)]
  exact rW k
 |succ n ih=>
  intro p k h
  by_cases hlt:p<s.size
  ·have hd:=(cU s p).1
   rw[cZ,dif_pos hlt,dj hlt,List.all_cons]
   have ho:b7 ((Utf8.decode s p).1:Int) (k+1)=db ((Utf8.decode s p).1:Int):=by
    unfold b7 db cX lV
    have:decide (((k+1:Nat):Int)=0)=false:=qf (by omega)
    rw[this];simp[Bool.or_assoc]
   rw[ho]
   cases hi:db ((Utf8.decode s p).1:Int) with
   |false=>simp
   |true=>rw[if_pos rfl,ih _ _ (by omega),Bool.true_and,List.length_cons];congr 2;simp;omega
  ·rw[cZ,dif_neg hlt,bR hlt]
   exact rW k
theorem AY (s:ByteArray):iX s=rV (bi s 0):=by
 unfold iX
 by_cases hlt:0<s.size
 ·rw[cZ,dif_pos hlt,dj hlt]
  have ho:b7 ((Utf8.decode s 0).1:Int) 0=cX ((Utf8.decode s 0).1:Int):=by unfold b7 cX;simp
  rw[ho]
  show _=(cX ((Utf8.decode s 0).1:Int)&&_)
  cases hc:cX ((Utf8.decode s 0).1:Int) with
  |false=>simp
  |true=>rw[if_pos rfl,nT s _ _ _ (Nat.le_refl _),Bool.true_and];congr 2;simp;omega
 ·rw[cZ,dif_neg hlt,bR hlt];rfl
theorem kZ (s:ByteArray):iX s=dc s:=by rw[AY,qJ]
structure o3 (f:ae) (x:bB):Prop where
 op:0≤x.op∧x.op≤26
 len:x.args.length=(bd x.op).length
 dst:(cK x.op=false∧x.dst=-1)∨(cK x.op=true∧x.dst≠-1∧bf f x.dst=true)
 num:ly x.op=false→x.num=0
 args:∀a∈x.args,bf f a=true
theorem nU {f:ae} {x:bB} (h:lP f x):o3 f x:=by
 obtain ⟨h1,h2,h3,h4⟩:=h
 have hw:=nn ⟨h1,h2⟩
 unfold iw at h3
 simp only[Bool.or_eq_false_iff,Bool.not_eq_false',qh,Bool.and_eq_false_iff,beq_iff_eq] at h3
 obtain ⟨g1,g2,g3,g4⟩:=h3
 refine ⟨⟨h1,h2⟩,by rw[jX];omega,?_,fun hn=>?_,List.all_eq_true.1 h4⟩
 ·rw[gP]
  by_cases hd:x.dst=-1
  ·left
   rw[qe hd] at g2
   exact ⟨by rw[g2];rfl,hd⟩
  ·right
   rw[qf hd] at g2
   refine ⟨by rw[g2];rfl,hd,?_⟩
   rcases g3 with g|g
   ·exact absurd g hd
   ·exact g
 ·rcases g4 with g|g
  ·exact g
  ·rw[hw,hn] at g;cases g
theorem o4 (t:Int):aT prog E 143 [.int .i64 t] (.str (fM t)):=by
 refine zo func143 Z (by decide) Z<|ai<|za (Gv.assign (v:=.str _) Z)<|z7<|zb<|ai<|aa Z<|z7<|zh<|ai<|aq Z Z<|ad Z<|z7<|zu Z (fun c1=>?_) (fun c1=>?_)
 ·refine ai<|za (Gv.assign (v:=.str _) Z)<|z7<|zg<|zi (x:=.str _) Z ?_
  exact congrArg AV.str (by simp_all[fM])
 ·refine ai<|aq Z Z<|ad Z<|z7<|zu Z (fun c2=>?_) (fun c2=>?_)
  ·refine ai<|za (Gv.assign (v:=.str _) Z)<|z7<|zg<|zi (x:=.str _) Z ?_
   exact congrArg AV.str (by simp_all[fM])
  ·refine ai<|aq Z Z<|ad Z<|z7<|zu Z (fun c3=>?_) (fun c3=>?_)
   ·refine ai<|za (Gv.assign (v:=.str _) Z)<|z7<|zg<|zi (x:=.str _) Z ?_
    exact congrArg AV.str (by simp_all[fM])
   ·refine zf<|ai<|za (Gv.assign (v:=.str _) Z)<|z7<|zg<|zi (x:=.str _) Z ?_
    exact congrArg AV.str (by simp_all[fM])
end
end Go.Proofs.YtjpnhkmfhlnpcaaGreatDoor
