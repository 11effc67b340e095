/- The document's machine told as plain data, and what stays so in it. No conditions. -/
import Derived.Test.YtbconpmnckokoaaGreatDoorZd
import Derived.ProofKit
import Derived.OpenShut
import Derived.Deep.Matrix
import Derived.Lib.LaidU8
import Derived.Lib.LaidTab
import Derived.MapKept
import Derived.WideMake
import Derived.Laws.Cover4
import Derived.Test.YtbconpmnckokoaaGreatDoorZc
import Derived.WideLaws
import Derived.Lib.AppendZeros
import Derived.Lib.Builder
import Derived.Lib.AppendStr
import Derived.Lib.UnsafeStr
import Derived.Laws.Externs
import Derived.Lib.MapLaws
import Derived.Test.YtbconpmnckokoaaGreatDoorZa
import Derived.Test.YtbconpmnckokoaaGreatDoorZb
set_option linter.unusedVariables false
set_option linter.unusedSimpArgs false
set_option linter.unusedSectionVars false
namespace Go.Proofs.YtbconpmnckokoaaGreatDoor
section
open Go.Proofs.Tryz
open Go.Proofs Go.Lib Go.Shelf Go.RowKit
theorem Cf:gF prog 26 #[(0,1),(1,1),(2,1)] [.raw (.slice none 0 0),.raw (.slice none 0 0),.raw (.slice none 0 0)]:=⟨_,_,jj,Zu,fun w=>by kernel_rfl,rfl⟩
theorem Er:gF prog 62 #[(0,1),(1,1),(2,1),(3,4)] [.str ⟨#[]⟩,.raw (.slice none 0 0),.raw (.slice none 0 0),.int .i64 0,.int .i64 0,.int .i64 0,.int .i64 0]:=⟨_,_,j9,Ze,fun w=>by kernel_rfl,rfl⟩
theorem Es:gF prog 77 #[(0,1),(1,1),(2,1)] [.int .i64 0,.raw (.slice none 0 0),.raw (.slice none 0 0)]:=⟨_,_,jr,Zy,fun w=>by kernel_rfl,rfl⟩
theorem Cg:dc prog 56 77 1 3 [.int .i64 0,.raw (.slice none 0 0),.raw (.slice none 0 0)]:=⟨_,jy,Za,Zy,by decide,by decide,by kernel_rfl⟩
theorem kT:dc prog 57 67 1 4 [.int .i64 0,.int .i64 0,.raw (.slice none 0 0),.int .i64 0]:=⟨_,jm,jv,Zs,by decide,by decide,by kernel_rfl⟩
theorem wi:dc prog 24 62 1 7 [.str ⟨#[]⟩,.raw (.slice none 0 0),.raw (.slice none 0 0),.int .i64 0,.int .i64 0,.int .i64 0,.int .i64 0]:=⟨_,jp,ju,Ze,by decide,by decide,by kernel_rfl⟩
set_option maxRecDepth 20000
variable {E:World}
def wj (b:aI):Prop:=b.name.size≤1000∧b.phis.length≤1000∧b.insts.length≤1000∧(∀p∈b.phis,p.args.length≤1000∧p.from_.length≤1000)∧∀x∈b.insts,x.args.length≤1000
def small (f:ai):Prop:=f.vars.length≤1000∧f.params.length≤1000∧f.blocks.length≤1000∧(∀v∈f.vars,v.name.size≤1000)∧∀b∈f.blocks,wj b
theorem small.ok {f:ai} (h:small f):mX f:=by
 obtain ⟨h1,h2,h3,h4,h5⟩:=h
 refine ⟨by unfold mv;omega,by unfold mv;omega,by unfold mv;omega,fun b hb=>?_⟩
 obtain ⟨g1,g2,g3,g4,g5⟩:=h5 b hb
 exact ⟨by unfold mv;omega,by unfold mv;omega,fun p hp=>⟨by have:=g4 p hp;unfold mv;omega,by have:=g4 p hp;unfold mv;omega⟩,fun x hx=>by have:=g5 x hx;unfold mv;omega⟩
theorem small.names {f:ai} (h:small f):gY f:=⟨fun v hv=>by have:=h.2.2.2.1 v hv;omega,fun b hb=>by have:=(h.2.2.2.2 b hb).1;omega⟩
theorem od {α:Type} {enc:α→List AV} (h:∀x,(enc x).all AV.cell=true) (xs:List α):(xs.map enc).flatten.all AV.cell=true:=by
 induction xs with
 |nil=>rfl
 |cons x xs ih=>simp only[List.map_cons,List.flatten_cons,List.all_append,h,ih,Bool.and_self]
theorem o9 (xs:List Int) (hl:xs.length≤1000):bC prog E 39 [.fro 1 (xs.map bS)] [] (fun x O'=>∃i:Nat,x=.own i xs.length∧Left O' [(i,.grow 1 3 (xs.map bS).flatten)]∧True):=by
 refine zr func39 Z (by decide) Z<|ao<|z8 (uR Z)<|z6<|zb<|ao<|z8 (eR Z)<|ak.isNil j6 Z Z (fun hnil=>?_) ?_
 ·have hx:xs=[]:=by simpa using hnil
  subst hx
  refine z6<|yq Z Z<|ao<|z8 (uR Z)<|z6<|ze ?_
  repeat (first|refine aX ?_|refine aR ?_)
  refine mr (s:=2) (k:=1) (T:=3) Z (fun i=>?_)
  refine zi (x:=.own _ _) Z ?_
  exact ⟨i,rfl,.refl _,trivial⟩
 ·refine z6<|yv Z Z<|zg<|ao<|y9 (k:=1) j6 Zo<|fun i5=>z8 (eR Z)<|yt (k:=1) j6 Zo Z Z Z Z Z (fun _=>.head) (by simp) (by decide) (od (fun _=>Z) xs) (by show (_+_)*8≤_;simp<;>omega) (by simp<;>omega)<|fun i7=>z8 (d6 Z)<|z6<|ze<|zi (x:=.own _ _) Z ?_
  exact ⟨i7,(by simp),⟨_,.refl _,rfl⟩,trivial⟩
theorem pa (xs:List l3) (hl:xs.length≤1000):bC prog E 38 [.fro 2 (xs.map bU)] [] (fun x O'=>∃i:Nat,x=.own i xs.length∧Left O' [(i,.grow 2 73 (xs.map bU).flatten)]∧True):=by
 refine zr func38 Z (by decide) Z<|ao<|z8 (uR Z)<|z6<|zb<|ao<|z8 (eR Z)<|ak.isNil Z5 Z Z (fun hnil=>?_) ?_
 ·have hx:xs=[]:=by simpa using hnil
  subst hx
  refine z6<|yq Z Z<|ao<|z8 (uR Z)<|z6<|ze ?_
  repeat (first|refine aX ?_|refine aR ?_)
  refine mr (s:=2) (k:=2) (T:=73) Z (fun i=>?_)
  refine zi (x:=.own _ _) Z ?_
  exact ⟨i,rfl,.refl _,trivial⟩
 ·refine z6<|yv Z Z<|zg<|ao<|y9 (k:=2) Z5 type73<|fun i5=>z8 (eR Z)<|yt (k:=2) Z5 type73 Z Z Z Z Z (fun _=>.head) (by simp) (by decide) (od (fun _=>Z) xs) (by show (_+_)*24≤_;simp<;>omega) (by simp<;>omega)<|fun i7=>z8 (d6 Z)<|z6<|ze<|zi (x:=.own _ _) Z ?_
  exact ⟨i7,(by simp),⟨_,.refl _,rfl⟩,trivial⟩
theorem du (xs:List Int) (hl:xs.length≤1000):aV prog E 39 [.fro 1 (xs.map bS)] (.fro 1 (xs.map bS)):=(o9 xs hl).frozen (by simp[bS]) (by decide) (by simp)
theorem iT (xs:List l3) (hl:xs.length≤1000):aV prog E 38 [.fro 2 (xs.map bU)] (.fro 2 (xs.map bU)):=(pa xs hl).frozen (by simp[bU]) (by decide) (by simp)
theorem uV (f:ai) (hf:small f):bC prog E 24 [.agg (bW f)] [] (fun x O'=>∃i:Nat,x=.agg [.fro 2 (f.vars.map bU),.fro 1 (f.params.map bS),.own i f.blocks.length]∧Left O' [(i,.grow 7 62 (f.blocks.map bc).flatten)]∧True):=by
 obtain ⟨hf1,hf2,hf3,hf4,hf5⟩:=hf
 refine zr func24 Z (by decide) Z<|ao<|yf (cs:=_) Z Z Z<|zz (cs:=[.raw (.slice none 0 0),.raw (.slice none 0 0),.raw (.slice none 0 0)]) Zu Z Z<|fun i2=>z6<|zb<|yp (γ:=Nat) [1,2] (fun i=>[(3,.po i 0)]) (fun i=>[(i,.cells 26 [.fro 2 (f.vars.map bU),.fro 1 (f.params.map bS),.raw (.slice none 0 0)]),(i2,.cells 26 [.raw (.slice none 0 0),.raw (.slice none 0 0),.raw (.slice none 0 0)])]) (fun i=>True) ?_ (fun _ _ h=>h) ?_
 ·refine zo (fun j=>Nat.beq j 8) (by kernel_rfl) Z (zq (.rest _))<|ad 0 Z (dV jj Z Y4 Z Z)<|ad 1 Z (jH Yb Z)<|ad 3 Z (dV jj Z jn Z Z)<|ad 4 Z (jH js Z)<|qb (i:=2) (j:=7) Z Z (by kernel_rfl) ?_ ?_
  ·refine zh (iT _ (by omega)) Z<|z6<|qb (i:=5) (j:=7) Z Z (by kernel_rfl) ?_ ?_
   ·refine zh (du _ (by omega)) Z<|z6<|ad 6 Z (yn (cps:=[(0,[_]),(1,[_])]) (rs:=[_,_,.raw (.slice none 0 0)]) Cf Z Z Z)<|bl 7 Z<|zz (cs:=[.raw (.slice none 0 0),.raw (.slice none 0 0),.raw (.slice none 0 0)]) Zu Z Z<|fun i3=>z6<|ya<|yg (i:=8) Z (by kernel_rfl) (by kernel_rfl)<|zx jl Z Z Z Z Z Z .head Z<|z6<|ye (by kernel_rfl) ?_
    exact ⟨i3,dX,aY,aS,trivial⟩
   ·refine zz (cs:=[.raw (.slice none 0 0),.raw (.slice none 0 0),.raw (.slice none 0 0)]) Zu Z Z<|fun i3=>z6<|bl 5 Z<|zh (du _ (by omega)) Z<|z6<|ad 6 Z (yn (cps:=[(0,[_]),(1,[_])]) (rs:=[_,_,.raw (.slice none 0 0)]) Cf Z Z Z)<|ya<|yg (i:=8) Z (by kernel_rfl) (by kernel_rfl)<|zx jl Z Z Z Z Z Z .head Z<|z6<|ye (by kernel_rfl) ?_
    exact ⟨i3,dX,aY,aS,trivial⟩
  ·refine zz (cs:=[.raw (.slice none 0 0),.raw (.slice none 0 0),.raw (.slice none 0 0)]) Zu Z Z<|fun i3=>z6<|bl 2 Z<|zh (iT _ (by omega)) Z<|z6<|bl 5 Z<|zh (du _ (by omega)) Z<|z6<|ad 6 Z (yn (cps:=[(0,[_]),(1,[_])]) (rs:=[_,_,.raw (.slice none 0 0)]) Cf Z Z Z)<|ya<|yg (i:=8) Z (by kernel_rfl) (by kernel_rfl)<|zx jl Z Z Z Z Z Z .head Z<|z6<|ye (by kernel_rfl) ?_
   exact ⟨i3,dX,aY,aS,trivial⟩
 ·rintro i3 _
  refine zb<|ao<|aw jj Z Z6 Z Z<|aT Zk Z<|aj jp Z<|aa Z<|z6<|dM (off:=2) (k:=7) (T:=62) (fun _=>.head) Z<|fun ib=>zk<|yd (γ:=Nat × Nat) [2,3,19,20] (fun g=>[(21,.int .i64 g.1)]) (fun g=>[(g.2,.grow 7 62 ((f.blocks.take g.1).map bc).flatten),(i3,.cells 26 [.fro 2 (f.vars.map bU),.fro 1 (f.params.map bS),.own g.2 g.1]),(i2,.cells 26 [.raw (.slice none 0 0),.raw (.slice none 0 0),.raw (.slice none 0 0)])]) (fun g=>g.1≤f.blocks.length) (fun g=>f.blocks.length - g.1) (0,ib) aY aS (qr _) ?_
  rintro ⟨k,ib⟩ hk
  try dsimp only at *
  refine ao<|ay Z Z<|z6<|zb<|zp Z (fun ck=>?_) (fun ck=>?_)
  ·have hk2:k<f.blocks.length:=by omega
   obtain ⟨hb0,hb1,hb2,hb3,hb4⟩:=hf5 _ (qs hk2)
   refine zg<|zb<|zk<|ao<|z8 (q8 jp ju Z Z Z (qo (by omega)))<|ac Y0 ju Z Z<|zz (cs:=[.str ⟨#[]⟩,.raw (.slice none 0 0),.raw (.slice none 0 0),.int .i64 0,.int .i64 0,.int .i64 0,.int .i64 0]) Ze Z Z<|fun i5=>zx ju Z Z Z Z Z Z .head Z<|z6<|ao<|z8 (za j9 Z Zg (by decide) Z Z)<|z8 (zd (c:=.str _) Zn Z ⟨_,.head⟩ Z)<|z8 (za j9 Z Zt (by decide) Z Z)<|z8 (Gv.loadAC (l:=[_,_,_,_]) isAgg60 Zt Z ⟨_,.head⟩ Z Z)<|z8 (yn (cps:=[(0,[_]),(3,[_,_,_,_])]) (rs:=[_,.raw (.slice none 0 0),.raw (.slice none 0 0),_,_,_,_]) Er Z Z Z)<|zz (cs:=[.str ⟨#[]⟩,.raw (.slice none 0 0),.raw (.slice none 0 0),.int .i64 0,.int .i64 0,.int .i64 0,.int .i64 0]) Ze Z Z<|fun i6=>zx ju Z Z Z Z Z Z .head Z<|z6<|zb<|ao<|z8 (za j9 Z Zq (by decide) Z Z)<|z8 (zd (c:=.fro _ _) Y8 Z ⟨_,.t1⟩ Z)<|aj jy Z<|aa Z<|z6<|dM (off:=1) (k:=3) (T:=77) (fun _=>.head) Z<|fun ip=>zy (zj (zn .t1))<|zk<|yd (γ:=Nat × Nat) [2,3,5,6,19,20,21,31,32] (fun g=>[(33,.int .i64 g.1)]) (fun g=>[(i6,.cells 62 [.str f.blocks[k].name,.own g.2 g.1,.raw (.slice none 0 0),.int .i64 f.blocks[k].term.kind,.int .i64 f.blocks[k].term.var,.int .i64 f.blocks[k].term.to0,.int .i64 f.blocks[k].term.to1]),(g.2,.grow 3 77 ((f.blocks[k].phis.take g.1).map bD).flatten),(i5,.cells 62 (bc f.blocks[k])),(ib,.grow 7 62 ((f.blocks.take k).map bc).flatten),(i3,.cells 26 [.fro 2 (f.vars.map bU),.fro 1 (f.params.map bS),.own ib k]),(i2,.cells 26 [.raw (.slice none 0 0),.raw (.slice none 0 0),.raw (.slice none 0 0)])]) (fun g=>g.1≤f.blocks[k].phis.length) (fun g=>f.blocks[k].phis.length - g.1) (0,ip) aY aS (qr _) ?_
   rintro ⟨m,ip⟩ hm
   try dsimp only at *
   refine ao<|ay Z Z<|z6<|zb<|zp Z (fun cm=>?_) (fun cm=>?_)
   ·have hm2:m<f.blocks[k].phis.length:=by omega
    obtain ⟨hp1,hp2⟩:=hb3 _ (qs hm2)
    refine zg<|zb<|zk<|ao<|z8 (q8 jy Za Z Z Z (qo (by omega)))<|ac isAgg77 Za Z Z<|zz (cs:=[.int .i64 0,.raw (.slice none 0 0),.raw (.slice none 0 0)]) Zy Z Z<|fun i8=>zx Za Z Z Z Z Z Z .head Z<|z6<|zo (fun j=>Nat.beq j 14) (by kernel_rfl) Z (zq (.r (.r (.rest _))))<|ad 0 Z (za j9 Z Zq (by decide) Z Z)<|ad 1 Z (zd (c:=.own _ _) Y8 Z ⟨_,.t1⟩ Z)<|ad 2 Z (za jr Z j7 (by decide) Z Z)<|ad 3 Z (zd (c:=.int _ _) je Z ⟨_,.head⟩ Z)<|ad 4 Z (za jr Z jn (by decide) Z Z)<|ad 5 Z (zd (c:=.fro _ _) js Z ⟨_,.head⟩ Z)<|ad 7 Z (za jr Z jn (by decide) Z Z)<|ad 8 Z (zd (c:=.fro _ _) js Z ⟨_,.head⟩ Z)<|bl 6 Z<|zh (du _ (by omega)) Z<|z6<|bl 9 Z<|zh (du _ (by omega)) Z<|z6<|ad 10 Z (yn (cps:=[(0,[_]),(1,[_]),(2,[_])]) (rs:=[_,_,_]) Es Z Z Z)<|bl 11 Z<|yk (rows:=[[_,_,_]]) Cg Z Z Z Z Z<|z6<|bl 12 Z<|yt (k:=3) jy type77 Z Z Z Z Z (fun _=>.head) (by rw[dC (k:=3) (fun _=>rfl),qw,Nat.min_eq_left hm]) (by decide) Z (by show (_+_)*56≤_;simp<;>omega) (by simp<;>omega)<|fun i49=>z6<|ad 13 Z (za j9 Z Zq (by decide) Z Z)<|ya<|yg (i:=14) Z (by kernel_rfl) (by kernel_rfl)<|y8 (l:=[_]) (new:=[_,_,_,_,_,_,_]) Zq Z Z Z Z Z Z .t1 Z Z<|z6<|ye (by kernel_rfl)<|bj<|aF Z Z ?_
    refine aa Z<|z6 ?_
    exact ⟨(m+1,i49),⟨rfl,rfl,rfl,rfl,rfl,rfl,rfl,rfl,rfl,trivial⟩,aY,⟨_,(.drop (.refl _)),by rw[←ei (qp hm2)];rfl⟩,hm2,by dsimp only;omega⟩
   ·obtain rfl:m=f.blocks[k].phis.length:=by omega
    refine yc<|zb<|ao<|z8 (za j9 Z jw (by decide) Z Z)<|z8 (zd (c:=.fro _ _) Zb Z ⟨_,.t2⟩ Z)<|aj jm Z<|aa Z<|z6<|dM (off:=2) (k:=4) (T:=67) (fun _=>.head) Z<|fun ii=>zk<|yd (γ:=Nat × Nat) [2,3,6,19,20,21,53,54] (fun g=>[(55,.int .i64 g.1)]) (fun g=>[(g.2,.grow 4 67 ((f.blocks[k].insts.take g.1).map bf).flatten),(i6,.cells 62 [.str f.blocks[k].name,.own ip f.blocks[k].phis.length,.own g.2 g.1,.int .i64 f.blocks[k].term.kind,.int .i64 f.blocks[k].term.var,.int .i64 f.blocks[k].term.to0,.int .i64 f.blocks[k].term.to1]),(ip,.grow 3 77 (f.blocks[k].phis.map bD).flatten),(i5,.cells 62 (bc f.blocks[k])),(ib,.grow 7 62 ((f.blocks.take k).map bc).flatten),(i3,.cells 26 [.fro 2 (f.vars.map bU),.fro 1 (f.params.map bS),.own ib k]),(i2,.cells 26 [.raw (.slice none 0 0),.raw (.slice none 0 0),.raw (.slice none 0 0)])]) (fun g=>g.1≤f.blocks[k].insts.length) (fun g=>f.blocks[k].insts.length - g.1) (0,ii) aY ⟨_,(.refl _),by rw[qt];rfl⟩ (qr _) ?_
    rintro ⟨m,ii⟩ hm
    try dsimp only at *
    refine ao<|ay Z Z<|z6<|zb<|zp Z (fun cm=>?_) (fun cm=>?_)
    ·have hm2:m<f.blocks[k].insts.length:=by omega
     have hp1:=hb4 _ (qs hm2)
     refine zg<|zb<|zk<|ao<|z8 (q8 jm jv Z Z Z (qo (by omega)))<|ac Zr jv Z Z<|zz (cs:=[.int .i64 0,.int .i64 0,.raw (.slice none 0 0),.int .i64 0]) Zs Z Z<|fun i10=>zx jv Z Z Z Z Z Z .head Z<|z6<|ao<|z8 (za jd Z jn (by decide) Z Z)<|z8 (zd (c:=.fro _ _) js Z ⟨_,.head⟩ Z)<|zh (du _ (by omega)) Z<|z8 (za jd Z jn (by decide) Z Z)<|y8 (l:=[_]) (new:=[_,_,_,_]) jn Z Z Z Z Z Z .head Z Z<|z6<|bj<|z8 (za j9 Z jw (by decide) Z Z)<|z8 (zd (c:=.own _ _) Zb Z ⟨_,.t2⟩ Z)<|z8 (Gv.loadWC Zr jv Z ⟨_,.head⟩ Z)<|yk (rows:=[[_,_,_,_]]) kT Z Z Z Z Z<|yt (k:=4) jm type67 Z Z Z Z Z (fun _=>.t1) (by rw[dC (k:=4) (fun _=>rfl),qw,Nat.min_eq_left hm]) (by decide) Z (by show (_+_)*48≤_;simp<;>omega) (by simp<;>omega)<|fun i67=>z8 (za j9 Z jw (by decide) Z Z)<|y8 (l:=[_]) (new:=[_,_,_,_,_,_,_]) jw Z Z Z Z Z Z .t2 Z Z<|z6<|bj<|aF Z Z<|aa Z<|z6 ?_
     exact ⟨(m+1,i67),oZ,aY,⟨_,(.drop (.refl _)),by rw[←ei (qp hm2)];rfl⟩,hm2,by dsimp only;omega⟩
    ·obtain rfl:m=f.blocks[k].insts.length:=by omega
     rw[qt]
     refine yc<|zy (aZ.knowC (off:=1) (rows:=f.blocks[k].phis.map bD) .t2 .t1 Z (by simp[bS,bU,bD,bf,bc]) (by decide) (by simp))<|zy (aZ.knowC (off:=2) (rows:=f.blocks[k].insts.map bf) .head .head Z (by simp[bS,bU,bD,bf,bc]) (by decide) (by simp))<|bj<|z8 (za jj Z Z6 (by decide) Z Z)<|z8 (zd (c:=.own _ _) Zk Z ⟨_,.t3⟩ Z)<|z8 (Gv.loadWC Y0 ju Z ⟨_,.head⟩ Z)<|yk (rows:=[[_,_,_,_,_,_,_]]) wi Z Z Z Z Z<|yt (k:=7) jp type62 Z Z Z Z Z (fun _=>.t2) (by rw[dC (k:=7) (fun _=>rfl),qw,Nat.min_eq_left hk]) (by decide) Z (by show (_+_)*96≤_;simp<;>omega) (by simp<;>omega)<|fun i74=>z8 (za jj Z Z6 (by decide) Z Z)<|y8 (l:=[_]) (new:=[_,_,_]) Z6 Z Z Z Z Z Z .t3 Z Z<|z6<|bj<|aF Z Z<|aa Z<|z6 ?_
     exact ⟨(k+1,i74),f0,aY,⟨_,(.drop (.drop (.refl _))),by rw[←ei (qp hk2)];rfl⟩,hk2,by dsimp only;omega⟩
  ·obtain rfl:k=f.blocks.length:=by omega
   rw[qt]
   refine yc<|ao<|z8 (Gv.loadWC jq jl Z ⟨_,.t1⟩ Z)<|zx jl Z Z Z Z Z Z .t2 Z<|z6<|ze<|bM.c1 Z ⟨_,.t2⟩ jq jl Z ?_
   exact ⟨ib,rfl,⟨_,.keep (.drop (.drop (.refl _))),rfl⟩,trivial⟩
end
section
open Go.Proofs.Tryz
open Go.Proofs Go.Lib Go.Shelf Go.RowKit
set_option maxRecDepth 20000
variable {E:World}
end
section
open Go.Proofs.Tryz
open Go.Proofs Go.Lib Go.Shelf Go.RowKit
set_option maxRecDepth 20000
variable {E:World}
def wV (l:List l3):Nat:=(l.map fun v=>v.name.size).sum
def wP (l:List cV):Nat:=(l.map fun p=>p.args.length+p.from_.length).sum
def wX (l:List aD):Nat:=(l.map fun x=>x.args.length).sum
def wB (b:aI):Nat:=b.name.size+10*(b.phis.length+b.insts.length)+wP b.phis+wX b.insts
def pd (l:List aI):Nat:=(l.map wB).sum
theorem yV {l:List l3} {k:Nat} (h:k<l.length):wV (l.take (k+1))=wV (l.take k)+l[k].name.size:=by
 unfold wV;rw[qp h,List.map_append,List.sum_append];simp only[List.map_cons,List.map_nil,List.sum_cons,List.sum_nil,Nat.add_zero]
theorem yW {l:List cV} {k:Nat} (h:k<l.length):wP (l.take (k+1))=wP (l.take k)+(l[k].args.length+l[k].from_.length):=by
 unfold wP;rw[qp h,List.map_append,List.sum_append];simp only[List.map_cons,List.map_nil,List.sum_cons,List.sum_nil,Nat.add_zero]
theorem yX {l:List aD} {k:Nat} (h:k<l.length):wX (l.take (k+1))=wX (l.take k)+l[k].args.length:=by
 unfold wX;rw[qp h,List.map_append,List.sum_append];simp only[List.map_cons,List.map_nil,List.sum_cons,List.sum_nil,Nat.add_zero]
theorem oe {l:List aI} {k:Nat} (h:k<l.length):pd (l.take (k+1))=pd (l.take k)+wB l[k]:=by
 unfold pd;rw[qp h,List.map_append,List.sum_append];simp only[List.map_cons,List.map_nil,List.sum_cons,List.sum_nil,Nat.add_zero]
def qL (b:aI):Prop:=b.name.size≤400∧b.phis.length≤400∧b.insts.length≤400∧(∀p∈b.phis,p.args.length≤400∧p.from_.length≤400)∧∀x∈b.insts,x.args.length≤400
def iE (f:ai):Prop:=f.vars.length≤100∧f.blocks.length≤40∧f.params.length≤20∧(∀v∈f.vars,v.name.size≤400)∧(∀b∈f.blocks,qL b)∧(f.blocks≠[]→wV f.vars+pd f.blocks≤4000)
theorem iE.small {f:ai} (h:iE f):small f:=by
 obtain ⟨h1,h2,h3,h4,h5,_⟩:=h
 refine ⟨by omega,by omega,by omega,fun v hv=>by have:=h4 v hv;omega,fun b hb=>?_⟩
 obtain ⟨g1,g2,g3,g4,g5⟩:=h5 b hb
 exact ⟨by omega,by omega,by omega,fun p hp=>by have:=g4 p hp;omega,fun x hx=>by have:=g5 x hx;omega⟩
def wL {α:Type} (l:List α):Prop:=l.length≤9223372036854775807
def Dq (p:cV):Prop:=wL p.args∧wL p.from_
def Dr (b:aI):Prop:=wL b.phis∧wL b.insts∧(∀p∈b.phis,Dq p)∧(∀x∈b.insts,wL x.args)
def og (f:ai):Prop:=wL f.vars∧wL f.params∧wL f.blocks∧∀b∈f.blocks,Dr b
theorem wL.lt {α:Type} {l:List α} (h:wL l):l.length≤9223372036854775807:=h
def uW (f:ai):Bool:=decide ((100:Int)<f.vars.length)||(decide ((40:Int)<f.blocks.length)||decide ((20:Int)<f.params.length))
def uX (b:aI):Bool:=decide ((400:Int)<b.name.size)||(decide ((400:Int)<b.phis.length)||decide ((400:Int)<b.insts.length))
end
section
open Go.Proofs.Tryz
open Go.Proofs Go.Lib Go.Shelf Go.RowKit
set_option maxRecDepth 20000
variable {E:World}
end
section
open Go.Proofs.Tryz
open Go.Proofs Go.Lib Go.Shelf Go.RowKit
set_option maxRecDepth 20000
variable {E:World}
theorem yY:∀r∈ec,r.1≠⟨#[]⟩:=by decide
theorem yZ {op:Int} (h:0≤op∧op≤26):(bm op).1≠⟨#[]⟩:=by
 have hm:bm op∈ec:=by
  unfold bm
  rw[if_pos h.1,qo (show _<27 by omega)]
  exact qs _
 exact yY _ hm
theorem wk:∀j:Nat,j<27→kJ (j:Int)=(decide ((bm (j:Int)).1=⟨#[99,111,110,115,116]⟩)||decide ((bm (j:Int)).1=⟨#[112,105]⟩)):=by decide
theorem my {x:aD} (h:0≤x.op∧x.op≤26):fI x=kJ x.op:=by
 have:=wk x.op.toNat (by omega)
 rw[w0 h.1] at this
 unfold fI;exact this.symm
theorem iF (op:Int):(bg op).length=(bm op).2.1.size:=by unfold bg;rw[List.length_map];exact Array.length_toList
theorem uY (b:ByteArray):b.data.toList.isEmpty=decide (b=⟨#[]⟩):=by
 obtain ⟨⟨l⟩⟩:=b
 cases l<;>simp
theorem gl (op:Int):cQ op=!decide ((bm op).2.2=⟨#[]⟩):=by unfold cQ;rw[uY]
theorem uZ {op:Int} (h:¬(0≤op∧op≤26)):bm op=(⟨#[]⟩,⟨#[]⟩,⟨#[]⟩):=ob (by unfold l1;simp;omega)
theorem kU (f:ai) (x:aD):bX f x=true↔kQ f x:=by
 by_cases h:0≤x.op∧x.op≤26
 ·have hw:=yZ h
  have hn:=my h
  unfold bX dY ed kQ iD
  rw[iF,gl,hn]
  by_cases h1:x.args.length=(bm x.op).2.1.size<;>by_cases h2:(bm x.op).2.2=⟨#[]⟩<;>by_cases h3:x.dst=-1<;>by_cases h4:x.num=0<;>by_cases h5:x.args.all (bn f)=true<;>simp_all[Int.ofNat_inj]<;>(try (unfold bn;simp))<;>(try grind)
 ·constructor
  ·intro h2
   have:=uZ h
   unfold bX dY at h2
   rw[this] at h2;simp at h2
  ·intro h2;exact absurd ⟨h2.1,h2.2.1⟩ h
def only (f:ai) (x:aD):ai:={ f with blocks:=[⟨⟨#[111,110,108,121]⟩,[],[x],⟨0,0,0,0⟩⟩] }
def ended (f:ai) (b0:aI) (bs:List aI) (t:fH):ai:={ f with blocks:={ b0 with term:=t }::bs }
end
section
open Go.Proofs.Tryz
open Go.ChangeShapes Go.WideShapes Go.ChangeAt Go.RowKit Go.Deep
def full (W:World):aJ:=fun b=>W.heap[b]?
theorem zA (W:World):SL (full W) [] W W:=⟨rfl,rfl,rfl,fun _ _ h=>h,by simp,by simp,by simp,fun _ _ h=>h,(fun _ _ h h2=>by rw[show W.heap[_]?=some _ from h] at h2;cases h2),by simp⟩
def I0 (W:World):G:=⟨full W,fun _=>none⟩
theorem kV {W:World} {p:Addr} {v:Value} (h:W.cell? p=some v):p=⟨p.block,p.off,none⟩∧uM (full W) p.block p.off v:=by
 unfold World.cell? at h
 split at h
 ·rename_i c t f hb
  split at h
  ·cases h
  ·rename_i hs
   have:p.spot=none:=by simpa using hs
   obtain ⟨b,o,s⟩:=p
   simp only at this
   subst this
   exact ⟨rfl,⟨c,t,f,hb,h⟩⟩
 ·cases h
def d9 (P:Program) (W:World) (T:TypeId) {α:Type} (enc:α→List AV) (ok:α→Prop):Prop:=
 ∀{H:Type} (e:TypeId × Value→H) (held:Bool) (fuel:Nat) (cs:List Value) (x:DataW H × List MemPlace),DataW.trod e P W 0 (fun _=>true) held fuel T cs=some x→∃a,ok a∧RepL (I0 W) (enc a) cs
section
variable {P:Program} {W:World} {T e:TypeId}
theorem d9.int {k:IntKind} (hu:P.underlying T=some (.int k)):d9 P W T (fun x:Int=>[.int k x]) (fun x=>(Lit.int k x).wf=true):=fun _ _ _ _ _ h=>by
 obtain ⟨n,rfl,_,hw⟩:=DataW.trod_int hu h
 exact ⟨n,hw,_,_,rfl,rfl,rfl⟩
theorem d9.bool (hu:P.underlying T=some .bool):d9 P W T (fun x:Bool=>[.bool x]) (fun _=>True):=fun _ _ _ _ _ h=>by
 obtain ⟨n,rfl,_⟩:=DataW.trod_bool hu h
 exact ⟨n,trivial,_,_,rfl,rfl,rfl⟩
theorem d9.str (hu:P.underlying T=some .string):d9 P W T (fun x:ByteArray=>[.str x]) (fun x=>x.size≤maxLen):=fun _ _ _ _ _ h=>by
 obtain ⟨n,rfl,_,hw⟩:=DataW.trod_string hu h
 exact ⟨n,hw,_,_,rfl,rfl,rfl⟩
theorem d9.slice {α:Type} {enc:α→List AV} {ok:α→Prop} {k:Nat} (ht:P.underlying T=some (.slice e)) (he:d9 P W e enc ok) (hk:P.cellsOf e=k) (hk0:0<k) :
  d9 P W T (fun xs:List α=>[.fro k (xs.map enc)]) (fun xs=>(∀x∈xs,ok x)∧xs.length≤maxLen):=fun en held fuel cs x h=>by
 rcases open_slice ht h with ⟨rfl,_⟩|⟨a,len,cap,m,n,D,Pl,rfl,_,hl,hc,hm,_,hr⟩
 ·exact ⟨[],⟨by simp,qr _⟩,_,_,rfl,⟨none,0,0,rfl,rfl,Nat.le_refl _,fun _=>rfl,trivial⟩,rfl⟩
 ·simp only[if_true] at hm
  have each:∀i,i<len→∃y:α,ok y∧∃vs:List Value,vs.length=k∧RepL (I0 W) (enc y) vs∧∀j (u:Value),vs[j]?=some u→W.cell? (a.add (i*k+j))=some u:=by
   intro i hi
   obtain ⟨cs,h1,h2⟩:=hr i (by omega)
   rw[hk] at h1
   obtain ⟨_,hcl,hat⟩:=World.cells?_some h1
   obtain ⟨y,hy,hrep⟩:=he en held n cs _ h2
   refine ⟨y,hy,cs,hcl,hrep,fun j u hu=>?_⟩
   have hj:j<k:=by have:=(List.getElem?_eq_some_iff.1 hu).1;omega
   have:=hat j hj
   rw[Go.Deep.add_add] at this
   rw[this,hu]
  by_cases h0:len=0
  ·subst h0
   exact ⟨[],⟨by simp,qr _⟩,_,_,rfl,⟨some a,0,cap,rfl,rfl,qr _,fun h=>by (cases h),trivial⟩,rfl⟩
  ·obtain ⟨y0,_⟩:=each 0 (by omega)
   have:Inhabited α:=⟨y0⟩
   obtain ⟨Y,hY⟩:=choose_lt each
   have ha:a=⟨a.block,a.off,none⟩:=by
    obtain ⟨_,vs,hvl,_,hat⟩:=hY 0 (by omega)
    have:=hat 0 _ (qo (show 0<vs.length by omega))
    rw[Nat.zero_mul] at this
    exact (kV (by simpa [Addr.add] using this)).1
   refine ⟨(List.range len).map Y,⟨?_,by simp;omega⟩,_,_,Z,⟨some a,len,cap,Z,by simp,hl,fun h=>by (cases h),RepR.intro fun j r hj=>?_⟩,Z⟩
   ·intro x hx
    obtain ⟨i,hi,rfl⟩:=List.mem_map.1 hx
    exact (hY i (by simpa using hi)).1
   ·rw[List.getElem?_map,List.getElem?_map] at hj
    have hjl:j<len:=by
     rcases Nat.lt_or_ge j len with h|h
     ·exact h
     ·rw[List.getElem?_eq_none (by simpa using h)] at hj;cases hj
    rw[List.getElem?_range hjl] at hj
    simp only[Option.map_some,Option.some.injEq] at hj
    subst hj
    obtain ⟨_,vs,hvl,hrep,hat⟩:=hY j hjl
    refine ⟨a.block,a.off,vs,by rw[←ha],hvl,hrep,fun i u hu=>?_⟩
    have:=hat i u hu
    rw[ha,bv] at this
    have:=(kV this).2
    rw[Nat.zero_add,Nat.add_assoc];exact this
theorem RepL.fld {I:G} {cs:List Value} {e es:List AV} {o k:Nat} (h1:RepL I e ((cs.drop o).take k)) (h2:RepL I es (cs.drop (o+k))):RepL I (e++es) (cs.drop o):=by
 have:=h1.append h2
 rwa [←List.drop_drop,List.take_append_drop] at this
theorem RepL.fin {I:G} {cs:List Value} {o:Nat} (h:cs.length=o):RepL I [] (cs.drop o):=List.drop_eq_nil_of_le (by omega)
theorem d9.at {α:Type} {enc:α→List AV} {ok:α→Prop} {f:Field} {H:Type} {en:TypeId × Value→H} {held:Bool} {n o k i:Nat} {cs:List Value} {xs:List (DataW H × List MemPlace)}
  (h1:DataW.trod en P W 0 (fun _=>true) held n f.type ((cs.drop f.offset).take (P.cellsOf f.type))=xs[i]?) (hd:d9 P W f.type enc ok) (h2:i<xs.length) (ho:f.offset=o) (hk:P.cellsOf f.type=k) :
  ∃a,ok a∧RepL (I0 W) (enc a) ((cs.drop o).take k):=by
 rw[qo h2,ho,hk] at h1
 exact hd en held n _ _ h1
theorem d9.pair {α:Type} {enc:α→List AV} {ok:α→Prop} {k:Nat} (ht:P.underlying T=some (.array 2 e)) (he:d9 P W e enc ok) (hk:P.cellsOf e=k) (hT:P.cellsOf T=k+k) :
  d9 P W T (fun x:α × α=>enc x.1++enc x.2) (fun x=>ok x.1∧ok x.2):=fun en held fuel cs x h=>by
 obtain ⟨xs,m,_,_,hl,hxl,hf⟩:=DataW.trod_array ht h
 have h0:=hf 0 (by omega)
 have h1:=hf 1 (by omega)
 rw[qo (by omega),hk] at h0 h1
 rw[Nat.zero_mul] at h0
 rw[Nat.one_mul] at h1
 obtain ⟨a,ha,ra⟩:=he en held m _ _ h0
 obtain ⟨b,hb,rb⟩:=he en held m _ _ h1
 refine ⟨(a,b),⟨ha,hb⟩,?_⟩
 have hcl:cs.length=k+k:=by rw[hl,hT]
 have h2:(cs.drop k).take k=cs.drop k:=List.take_of_length_le (by rw[List.length_drop];omega)
 rw[h2] at rb
 have:=ra.append rb
 rw[List.drop_zero,List.take_append_drop] at this
 exact this
end
theorem kW {P:Program} {W:World} {name:String} {k:IntKind} {zs:List Int} {g:Nat} {t e:TypeId} {n:Nat}
  (hg:P.globalNamed name=some g) (hty:(P.globals[g]?).map (·.type)=some t) (ht:P.underlying t=some (.array n e)) (he:P.underlying e=some (.int k)) (hce:P.cellsOf e=1) (hct:P.cellsOf t=n)
  (h:Lib.VarReads P W name (Lib.tabData k zs)):Lib.TabIs P W name k zs:=by
 obtain ⟨g',t',cs,fuel,p,hg',ht',hvar,hd⟩:=h
 obtain rfl:=Option.some.inj (hg.symm.trans hg')
 obtain rfl:=Option.some.inj (hty.symm.trans ht')
 unfold Lib.TabIs
 rw[hvar,←Lib.cells_of_tab ht he hce hct hd]
theorem aV.call {P:Program} {W:World} {f:FuncId} {us:List AV} {vs:List Value} {r:AV} (h:aV P W f us r) (hr:RepL (I0 W) us vs) (hp:r.plain=true):Calls P f vs.toArray W fun e w'=>∃v,e=.returned v∧bO (I0 W) r v∧Below W.heap.size W w':=by
 have:=(h (I0 W) [] W vs hr ⟨⟨0,fun _ _=>rfl⟩,[],rfl,zA W⟩).2
 refine this.mono fun e w' ⟨v,he,J,x,O',hle,hx,hS,hxr⟩=>⟨v,he,?_,?_⟩
 ·subst hxr;exact AV.plain_rep hp hx
 ·obtain ⟨_,L,_,hSL⟩:=hS
  exact hSL.belowE
end
section
open Go.Proofs.Tryz
section
variable {E:World} {P:Program} {n:Nat} {env:aH} {O O' O'':OL} {i k m:Nat} {T:TypeId} {rows rows':List (List AV)}
end
section
variable {E:World} {P:Program} {f:FuncId} {us bs:List AV} {r:AV}
end
section
variable {E:World} {P:Program} {n:Nat} {ops:Array Oper} {K:aH→OL→Prop} {env:aH} {O O':OL} {rest:List Oper}
variable {d ty:Nat} {pos:String} {af:Array Edge} {t e:TypeId} {x y:Operand} {L:List (Nat × Obj)}
end
end
section
open Go.Proofs.Tryz
section
variable {E:World} {P:Program} {n:Nat} {ops:Array Oper} {K:aH→OL→Prop} {env:aH} {O O':OL} {rest:List Oper}
variable {d ty:Nat} {pos:String} {af:Array Edge} {t e:TypeId} {x y:Operand}
end
end
section
open Go.Proofs.Tryz
def fQ (s:ByteArray):List (ByteArray × Int)→Option Int
 |[]=>none
 |(k,v)::es=>if s=k then some v else fQ s es
def jL (s:ByteArray) (v:Int):List (ByteArray × Int)→List (ByteArray × Int)
 |[]=>[(s,v)]
 |(k,u)::es=>if s=k then (k,v)::es else (k,u)::jL s v es
def iU (p:ByteArray × Int):Value × Value:=(.string p.1,.int .i64 p.2)
def Et (b:Nat) (es:List (ByteArray × Int)) (L:List (Nat × Obj)):Prop:=∃(arr:Array MapEntry) (clock:Nat),L=[(b,.map arr clock)]∧arr.toList.map (fun e=>(e.key,e.val))=es.map iU
def u0 (b:Nat) (es:List (ByteArray × Int)):aW:=.heap (Et b es)
def u4 (b:Nat):AV:=.raw (.map (some b))
theorem fv {s:ByteArray}:∀{l:List MapEntry} {es:List (ByteArray × Int)} {i:Nat},l.map (fun e=>(e.key,e.val))=es.map iU→fQ s es=none→Instr.findNow .string (.string s) l i=some none
 |[],[],_,_,_=>rfl
 |[],_::_,_,h,_=>by cases h
 |_::_,[],_,h,_=>by cases h
 |e::l,(k,v)::es,i,h,hg=>by
  simp only[List.map_cons,List.cons.injEq,iU,Prod.mk.injEq] at h
  obtain ⟨⟨h1,_⟩,h2⟩:=h
  simp only[fQ] at hg
  split at hg
  ·cases hg
  ·rename_i hne
   unfold Instr.findNow
   rw[h1]
   have:(s == k)=false:=Bool.eq_false_iff.2 fun h=>hne ((MapKept.bytes_beq s k).1 h)
   simp only[Instr.sameNow,this]
   exact fv h2 hg
theorem fw {s:ByteArray} {u:Int}:∀{l:List MapEntry} {es:List (ByteArray × Int)} {i:Nat},l.map (fun e=>(e.key,e.val))=es.map iU→fQ s es=some u →
  ∃j,Instr.findNow .string (.string s) l i=some (some (i+j,.int .i64 u))∧(∃e,l[j]?=some e∧e.key=.string s)∧∀v,es.set j (s,v)=jL s v es
 |[],[],_,_,hg=>by cases hg
 |[],_::_,_,h,_=>by cases h
 |_::_,[],_,h,_=>by cases h
 |e::l,(k,v)::es,i,h,hg=>by
  simp only[List.map_cons,List.cons.injEq,iU,Prod.mk.injEq] at h
  obtain ⟨⟨h1,h3⟩,h2⟩:=h
  simp only[fQ] at hg
  unfold Instr.findNow
  rw[h1]
  split at hg
  ·rename_i heq
   subst heq
   cases hg
   refine ⟨0,?_,⟨e,Z,h1⟩,fun v=>?_⟩
   ·have hss:(s == s)=true:=(MapKept.bytes_beq s s).2 rfl
    simp only[Instr.sameNow,hss]
    rw[h3];rfl
   ·simp[jL]
  ·rename_i hne
   have hb:(s == k)=false:=Bool.eq_false_iff.2 fun h=>hne ((MapKept.bytes_beq s k).1 h)
   obtain ⟨j,g1,g2,g3⟩:=fw (i:=i+1) h2 hg
   refine ⟨j+1,?_,by simpa using g2,fun v=>?_⟩
   ·simp only[Instr.sameNow,hb,g1]
    congr 3;omega
   ·simp[jL,hne,g3]
section
variable {E:World} {P:Program} {n:Nat} {ops:Array Oper} {K:aH→OL→Prop} {env:aH} {O O':OL} {rest:List Oper}
variable {d ty:Nat} {pos:String} {af:Array Edge} {t e kt:TypeId} {x y z:Operand} {b i:Nat} {es:List (ByteArray × Int)}
theorem ak.makeMap (k:∀b,ak P E ops K rest (bz env d (u4 b)) ((0,u0 b [])::O)):ak P E ops K (Oper.mk (some d) (.makeMap t none) ty pos af none::rest) env O:=fun I F ρ w h1 ⟨ht,L,hL,hS⟩=>by
 refine bx.step Z ?_
 unfold dy
 have:(execOp (Go.Proofs.YtbconpmnckokoaaGreatDoor.ev ρ) (Oper.mk (some d) (.makeMap t none) ty pos af none)).run P w=.ok (.value (.map (some w.heap.size))) (w.alloc (.map #[] 0)):=by
  simp only[execOp,Option.map_none]
  rw[Sem.run_bind,run_makeMap_plain];rfl
 rw[this]
 exact k w.heap.size I F _ _ (h1.upd d rfl) ⟨ht,(w.heap.size,.map #[] 0)::L,⟨[_],L,rfl,⟨#[],0,rfl,rfl⟩,hL⟩,hS.alloc _⟩
theorem Ch {I:G} {L:List (Nat × Obj)} (hO:mV O i (u0 b es)) (hL:bu I O L):∃(arr:Array MapEntry) (clock:Nat),(b,Obj.map arr clock)∈L∧arr.toList.map (fun e=>(e.key,e.val))=es.map iU:=by
 obtain ⟨O',hO⟩:=hO
 obtain ⟨A,B,hp,⟨arr,clock,rfl,h2⟩,_⟩:=hO.rep hL
 exact ⟨arr,clock,hp.mem_iff.2 (by simp),h2⟩
theorem ak.mapSet {s:ByteArray} {v:Int} (ht:P.underlying t=some (.map kt e)) (hk:P.underlying kt=some .string) (hx:aU env x=u4 b) (hy:aU env y=.str s) (hz:aU env z=.int .i64 v) (hO:eh O i (u0 b es) (u0 b (jL s v es)) O')
  (k:ak P E ops K rest env O'):ak P E ops K (Oper.mk none (.mapUpdate t x y z) ty pos af none::rest) env O:=fun I F ρ w h1 ⟨htop,L,hL,hS⟩=>by
 have hx:=v7 h1 hx
 have hy:=yL h1 hy
 have hz:=e7 h1 hz
 obtain ⟨A,B,hp,⟨arr,clock,rfl,he⟩,hback⟩:=hO.rep hL
 have hS2:SL I.k ((b,.map arr clock)::(B++F)) E w:=hS.perm ((hp.append_right F).symm)
 have hb:=hS2.own _ (.head _)
 simp only at hb
 have hc:(Instr.checkKey false 10000 kt (.string s)).run P w=.ok () w:=MapKept.run_checkKey (k:=.string s) hk (by simp[MapKept.IsKey]) false 9999
 have fin:∀(arr':Array MapEntry) (clock':Nat),arr'.toList.map (fun e=>(e.key,e.val))=(jL s v es).map iU →
   (execOp (Go.Proofs.YtbconpmnckokoaaGreatDoor.ev ρ) (Oper.mk none (.mapUpdate t x y z) ty pos af none)).run P w=.ok .skip { w with heap:=w.heap.setIfInBounds b (.map arr' clock') }→bx P ops (fW I F E K) (Oper.mk none (.mapUpdate t x y z) ty pos af none::rest) ρ w:=fun arr' clock' he' hrun=>by
  refine bx.step Z ?_
  unfold dy
  rw[hrun]
  obtain ⟨L',h7,h8⟩:=hback (G.le.refl I) (A':=[(b,.map arr' clock')]) ⟨arr',clock',rfl,he'⟩
  have hh:=MapKept.heap_set (o':=.map arr' clock') hb
  have hS3:SL I.k ((b,.map arr' clock')::(B++F)) E { w with heap:=w.heap.setIfInBounds b (.map arr' clock') }:=hS2.turn rfl rfl rfl hh.1 hh.2
  exact k I F ρ _ h1 ⟨htop,L',h7,hS3.perm (h8.append_right F)⟩
 cases hg:fQ s es with
 |none=>
  have hf:=fv (i:=0) he hg
  refine fin (arr.push { key:=.string s,val:=.int .i64 v,born:=clock }) (clock+1) ?_ ?_
  ·have hset:∀es:List (ByteArray × Int),fQ s es=none→jL s v es=es++[(s,v)]:=fun es=>by
    induction es with
    |nil=>intro _;rfl
    |cons x es ih=>
     obtain ⟨k,u⟩:=x
     intro hg
     simp only[fQ] at hg
     split at hg
     ·cases hg
     ·rename_i hne;simp[jL,hne,ih hg]
   rw[hset es hg]
   simp[he,iU]
  ·simp[execOp,hx,hy,hz,Instr.mapUpdate,run_underlying ht,MapKept.run_getObj_map hb,hc,MapKept.run_findKey hk hf,MapKept.run_setObj_map _ hb,Result.andThen]
 |some u=>
  obtain ⟨j,hf,⟨e0,hj,hkey⟩,hset⟩:=fw (i:=0) he hg
  rw[Nat.zero_add] at hf
  have hj':arr[j]?=some e0:=by rw[←Array.getElem?_toList];exact hj
  refine fin (arr.modify j fun e=>{ e with key:=.string s,val:=.int .i64 v }) clock ?_ ?_
  ·rw[←hset v,List.map_set]
   have hjl:j<arr.toList.length:=(List.getElem?_eq_some_iff.1 hj).1
   have:(arr.modify j fun e=>{ e with key:=.string s,val:=.int .i64 v }).toList=arr.toList.set j { e0 with key:=.string s,val:=.int .i64 v }:=by
    apply List.ext_getElem?
    intro q
    rw[Array.getElem?_toList,Array.getElem?_modify]
    by_cases hq:j=q
    ·subst hq
     rw[if_pos rfl,hj',List.getElem?_set_self hjl];rfl
    ·rw[if_neg hq,List.getElem?_set_ne hq,Array.getElem?_toList]
   rw[this,List.map_set,he];rfl
  ·have hkeep:(Instr.keyThatStays (.string s) (.string s)).run P w=.ok (.string s) w:=by
    have hss:(s == s)=true:=(MapKept.bytes_beq s s).2 rfl
    simp[Instr.keyThatStays,Instr.sameBits,hss]
   simp[execOp,hx,hy,hz,Instr.mapUpdate,run_underlying ht,MapKept.run_getObj_map hb,hc,MapKept.run_findKey hk hf,MapKept.run_setObj_map _ hb,Result.andThen,hj',hkey,hkeep]
end
end
section
open Go.Proofs.Tryz
section
variable {E:World} {P:Program} {n:Nat} {ops:Array Oper} {K:aH→OL→Prop} {env:aH} {O O':OL} {rest:List Oper} {R:AV→OL→Prop}
variable {d ty:Nat} {pos:String} {af:Array Edge} {t e:TypeId} {x y:Operand}
theorem bM.c1t {t u T i:Nat} {T':TypeId} {cs:List AV} {n:Nat} {y:AV} (hv:env t=.po i 0) (hu:env u=y) (hO:mV O i (.cells T' cs)) (ha:∀w,(isAgg T).run P w=.ok true w) (hs:∀w,(sizeOf T).run P w=.ok n w) (hn:cs.length=n) (h:R (.tup [.agg cs,y]) O) :
  bM P E #[.cell t T,.tmp u] R .ret env O:=bM.of (x:=.tup [.agg cs,y]) (fun I F ρ w h1 h2=>by
 obtain ⟨L,hL,hS⟩:=h2.2
 have h3:=h1 t
 rw[hv] at h3
 obtain ⟨b,c,e1,e⟩:=h3
 obtain ⟨b',c',vs,e2,h4,hm⟩:=hO.cells hL
 rw[e1] at e2;cases e2
 have hl:=d7 (P:=P) (w:=w) (b:=b) (off:=0) ha (cs:=vs) (by rw[h4.length,hn];exact hs) (fun j v hj=>by
  rw[Nat.zero_add]
  exact hS.at_ (.inr ⟨_,_,_,List.mem_append_left _ hm,by rw[List.getElem?_toArray];exact hj⟩))
 exact ⟨.tuple #[.agg vs.toArray,ρ u],by simp[jD,e,asAddr,hl],⟨[_,_],rfl,_,_,rfl,⟨vs,rfl,h4⟩,_,_,rfl,hu▸h1 u,rfl⟩⟩) h
theorem mZ {b off n:Nat} {vs:List Value} {T:TypeId} {old:List Value} {w:World} (hn:vs.length=n) (h1c:∀u∈vs,u.oneCell'=true) (hb:off+n≤old.length) (hown:w.heap[b]?=some (.cells old.toArray T (0,0))) :
  (storeCells (⟨b,off,none⟩:Addr) vs 0).run P w=.ok () (w.setRow b (old.take off++vs++old.drop (off+n)).toArray):=by
 rw[run_storeCells_at (P:=P) b off T vs 0 old.toArray w hown (by simp;omega) h1c]
 simp[hn]
end
end
section
open Go.Proofs.Tryz
open Go.Proofs Go.Lib Go.Shelf Go.RowKit
set_option maxRecDepth 20000
variable {E:World}
def cS (c:Int):Bool:=isLetterU c&&!decide (c=65533)
def kX (c:Int):Bool:=decide (48≤c)&&decide (c≤57)
def cY (c:Int):Bool:=cS c||(kX c||(decide (c=46)||decide (c=95)))
theorem gZ (c:Int) (h1:-2147483648≤c) (h2:c≤2147483647) (hL:ae E):aV prog E 114 [.int .i32 c] (.bool (cS c)):=by
 refine zr func114 Z (by decide) Z<|ao<|ab Z<|z6<|ao<|aa Z<|zh (f6 c h1 h2 hL) Z<|ah Z<|zm (s:=5) Z (fun c1=>?_) (fun c1=>?_)
 ·refine z7 Z Z c1<|aa Z<|z7 Z Z c1<|z8 (yl Z Z)<|ap Z c1 Z<|ab Z<|z6<|ze<|zi (x:=.bool _) Z ?_
  exact jb (by simp_all[cS])
 ·refine z2 Z Z c1<|z2 Z Z c1<|aq Z c1 Z<|ab Z<|z6<|ze<|zi (x:=.bool _) Z ?_
  exact jb (by simp_all[cS])
theorem oh (c:Int):aV prog E 143 [.int .i32 c] (.bool (kX c)):=by
 refine zr func143 Z (by decide) Z<|ao<|ab Z<|z6<|ao<|aa Z<|z8 (qg Z Z)<|ah Z<|zm (s:=5) Z (fun c2=>?_) (fun c2=>?_)
 ·refine z7 Z Z c2<|aa Z<|z7 Z Z c2<|z8 (Gv.leq Z Z)<|ap Z c2 Z<|ab Z<|z6<|ze<|zi (x:=.bool _) Z ?_
  exact jb (by simp_all[kX]<;>(intros;omega))
 ·refine z2 Z Z c2<|z2 Z Z c2<|aq Z c2 Z<|ab Z<|z6<|ze<|zi (x:=.bool _) Z ?_
  exact jb (by simp_all[kX]<;>(intros;omega))
theorem iV (c:Int) (h1:-2147483648≤c) (h2:c≤2147483647) (hL:ae E):aV prog E 115 [.int .i32 c] (.bool (cY c)):=by
 refine zr func115 Z (by decide) Z<|ao<|ab Z<|z6<|ao<|aa Z<|zh (gZ c h1 h2 hL) Z<|ah Z<|zm (s:=5) Z (fun c3=>?_) (fun c3=>?_)
 ·refine z2 Z Z c3<|z2 Z Z c3<|ap Z c3 Z<|ah Z<|z2 Z Z Z<|z2 Z Z Z<|ap Z Z Z<|ah Z<|z2 Z Z Z<|z2 Z Z Z<|ap Z Z Z<|ab Z<|z6<|ze<|zi (x:=.bool _) Z ?_
  exact jb (by simp_all[cY])
 ·refine z7 Z Z c3<|aa Z<|z7 Z Z c3<|zh (oh _) Z<|aq Z c3 Z<|ah Z<|zm (s:=9) Z (fun c4=>?_) (fun c4=>?_)
  ·refine z2 Z Z c4<|z2 Z Z c4<|ap Z c4 Z<|ah Z<|z2 Z Z Z<|z2 Z Z Z<|ap Z Z Z<|ab Z<|z6<|ze<|zi (x:=.bool _) Z ?_
   exact jb (by simp_all[cY])
  ·refine z7 Z Z c4<|aa Z<|z7 Z Z c4<|az Z Z<|aq Z c4 Z<|ah Z<|zm (s:=13) Z (fun c5=>?_) (fun c5=>?_)
   ·refine z2 Z Z c5<|z2 Z Z c5<|ap Z c5 Z<|ab Z<|z6<|ze<|zi (x:=.bool _) Z ?_
    exact jb (by simp_all[cY])
   ·refine z7 Z Z c5<|aa Z<|z7 Z Z c5<|az Z Z<|aq Z c5 Z<|ab Z<|z6<|ze<|zi (x:=.bool _) Z ?_
    exact jb (by simp_all[cY])
def bk (s:ByteArray) (p:Nat):List Int:=if h:p<s.size then ((Utf8.decode s p).1:Int)::bk s (p+(Utf8.decode s p).2) else[]
termination_by s.size - p
decreasing_by have:=(cO s p).1;omega
theorem de {s:ByteArray} {p:Nat} (h:p<s.size):bk s p=((Utf8.decode s p).1:Int)::bk s (p+(Utf8.decode s p).2):=by rw[bk,dif_pos h]
theorem bR {s:ByteArray} {p:Nat} (h:¬p<s.size):bk s p=[]:=by rw[bk,dif_neg h]
theorem l6 (s:ByteArray):∀k p,s.size - p≤k→(bk s p).length≤k:=by
 intro k
 induction k with
 |zero=>intro p h;rw[bR (by omega)];simp
 |succ k ih=>
  intro p h
  by_cases hp:p<s.size
  ·rw[de hp]
   have:=(cO s p).1
   have:=ih (p+(Utf8.decode s p).2) (by omega)
   simp;omega
  ·rw[bR hp];simp
theorem pe (s:ByteArray) (hs:s.size≤140737488355328):aV prog E 116 [.str s] (.int .i64 (bk s 0).length):=by
 have h0:=l6 s s.size 0 (by omega)
 refine zr func116 Z (by decide) Z<|ao<|ax Z<|z6<|ao<|ax Z<|z6<|zb<|ao<|z8 (yh (v:=.str _) Z)<|ak.rangeT Zd Z<|fun i5=>z6<|zk<|yd (γ:=Nat × Nat) [5] (fun g=>[(3,.int .i64 g.2)]) (fun g=>[(i5,.iter s g.1)]) (fun g=>g.2+(bk s g.1).length=(bk s 0).length) (fun g=>s.size - g.1) (0,0) aY aS (by simp) ?_
 rintro ⟨p,n⟩ hp
 try dsimp only at *
 by_cases hlt:p<s.size
 ·have hd:=(cO s p).1
  rw[de hlt] at hp
  simp only[List.length_cons] at hp
  refine ao<|ak.nextT Z .head hlt<|z8 (BU Z Z)<|z6<|zb<|yq Z Z<|zg<|zk<|bj<|aa Z<|aF Z Z<|ax Z<|z6 ?_
  exact ⟨(p+(Utf8.decode s p).2,n+1),aY,aY,aS,by dsimp only;omega,by dsimp only;omega⟩
 ·rw[bR hlt] at hp
  simp only[List.length_nil] at hp
  refine ao<|ak.nextTover Z .head hlt<|z8 (BU Z Z)<|z6<|zb<|yv Z Z<|yc<|ao<|aa Z<|ax Z<|z6<|ze<|zi (x:=.int _ _) Z ?_
  exact congrArg (AV.int .i64) (by omega)
def kY (s:ByteArray) (p:Nat):Bool:=if h:p<s.size then (if (decide (p=0)&&!cS ((Utf8.decode s p).1:Int))||!cY ((Utf8.decode s p).1:Int) then false else kY s (p+(Utf8.decode s p).2)) else (decide (¬s=⟨#[]⟩)&&decide (((bk s 0).length:Int)≤16))
termination_by s.size - p
decreasing_by have:=(cO s p).1;omega
def cZ (s:ByteArray):Bool:=kY s 0
theorem pg (s:ByteArray) (hs:s.size≤140737488355328) (hL:ae E):aV prog E 90 [.str s] (.bool (cZ s)):=by
 refine zr func90 Z (by decide) Z<|ao<|ab Z<|z6<|zb<|ao<|z8 (yh (v:=.str _) Z)<|ak.rangeT Zd Z<|fun i6=>z6<|zk<|yd (γ:=Nat) [0,6] (fun p=>[]) (fun p=>[(i6,.iter s p)]) (fun p=>kY s p=cZ s) (fun p=>s.size - p) 0 trivial aS (Z) ?_
 rintro p hp
 by_cases hlt:p<s.size
 ·obtain ⟨hd1,hd2⟩:=cO s p
  have hstep:=hp
  rw[kY,dif_pos hlt] at hstep
  refine ao<|ak.nextT Z .head hlt<|z8 (BU Z Z)<|z6<|zb<|yq Z Z<|zg<|zk<|ao<|z8 (BT Z Z)<|z8 (BT Z Z)<|ax Z<|ax Z<|z6<|ao<|aa Z<|az Z Z<|ah Z<|zm (s:=13) Z (fun c6=>?_) (fun c6=>?_)
  ·refine z7 Z Z c6<|aa Z<|z7 Z Z c6<|zh (gZ _ (by omega) (by omega) hL) Z<|z7 Z Z c6<|aE Z<|ap Z c6 Z<|ah Z<|zm (s:=18) Z (fun c7=>?_) (fun c7=>?_)
   ·refine z2 Z Z c7<|z2 Z Z c7<|z2 Z Z c7<|ap Z c7 Z<|z6<|yq Z Z<|ao<|ab Z<|z6<|ze<|zi (x:=.bool _) Z ?_
    rw[if_pos (by simp_all<;>omega)] at hstep;exact jb hstep
   ·refine z7 Z Z c7<|aa Z<|z7 Z Z c7<|zh (iV _ (by omega) (by omega) hL) Z<|z7 Z Z c7<|aE Z<|aq Z c7 Z<|z6<|zw Z (fun c8=>?_) (fun c8=>?_)
    ·refine ao<|ab Z<|z6<|ze<|zi (x:=.bool _) Z ?_
     rw[if_pos (by simp_all<;>omega)] at hstep;exact jb hstep
    ·refine zg ?_
     exact ⟨p+(Utf8.decode s p).2,dX,trivial,aS,by rw[if_neg (by simp_all<;>omega)] at hstep;exact hstep,by omega⟩
  ·refine z2 Z Z c6<|z2 Z Z c6<|z2 Z Z c6<|aq Z c6 Z<|ah Z<|z7 Z Z Z<|aa Z<|z7 Z Z Z<|zh (iV _ (by omega) (by omega) hL) Z<|z7 Z Z Z<|aE Z<|aq Z Z Z<|z6<|zw Z (fun c9=>?_) (fun c9=>?_)
   ·refine ao<|ab Z<|z6<|ze<|zi (x:=.bool _) Z ?_
    rw[if_pos (by simp_all<;>omega)] at hstep;exact jb hstep
   ·refine zg ?_
    exact ⟨p+(Utf8.decode s p).2,dX,trivial,aS,by rw[if_neg (by simp_all<;>omega)] at hstep;exact hstep,by omega⟩
 ·rw[kY,dif_neg hlt] at hp
  refine ao<|ak.nextTover Z .head hlt<|z8 (BU Z Z)<|z6<|zb<|yv Z Z<|yc<|ao<|z8 (yh (v:=.str _) Z)<|z8 (Gv.neqT Z Z)<|ah Z<|zm (s:=25) Z (fun c10=>?_) (fun c10=>?_)
  ·refine z7 Z Z c10<|z8 (yh (v:=.str _) Z)<|z7 Z Z c10<|zh (pe _ (by assumption)) Z<|z7 Z Z c10<|z8 (Gv.leq Z Z)<|ap Z c10 Z<|ab Z<|z6<|ze<|zi (x:=.bool _) Z ?_
   rw[←hp];exact jb (by simp_all<;>(try omega))
  ·refine z2 Z Z c10<|z2 Z Z c10<|z2 Z Z c10<|aq Z c10 Z<|ab Z<|z6<|ze<|zi (x:=.bool _) Z ?_
   rw[←hp];exact jb (by simp_all<;>(try omega))
end
section
open Go.Proofs.Tryz
section
variable {E:World} {P:Program} {env:aH} {O:OL} {d ty:Nat} {pos:String} {af:Array Edge} {x:Operand} {t u:TypeId}
end
end
section
open Go.Proofs.Tryz
section
variable {E:World} {P:Program} {ops:Array Oper} {K:aH→OL→Prop} {env:aH} {O O' O'':OL} {rest:List Oper} {n:Nat}
variable {d ty:Nat} {pos:String} {af:Array Edge} {x y z:Operand} {t u e:TypeId}
theorem Gv.idxOL {i n k j r:Nat} {a:Int} {T:TypeId} {cs:List AV} (ht:P.underlying t=some (.slice e)) (hs:∀w,(sizeOf e).run P w=.ok k w) (hx:aU env x=.own i n) (hy:aU env y=.int .i64 a) (hi:a=(j:Int)) (hO:mV O i (.grow k T cs)) (hne:cs≠[]) (hj:j<n) (hr:j*k=r) :
  Gv P env O (Oper.mk (some d) (.indexAddr t x y) ty pos af none) (.po i r):=hr▸Gv.idxO ht hs hx hy hi hO hne hj
theorem aZ.eq (h:O=O'):aZ E env O env O':=fun I F ρ w h1 h2=>⟨I,.refl _,h1,h▸h2⟩
end
section
variable {P:Program} {E:World} {l:List Oper} {W:Nat→Bool} {fuel:Nat} {listed:Array Bool} {d ty:Nat} {op:Op} {pos:String} {af:Array Edge}
end
theorem aZ.knowP {E:World} {env:aH} {O O':OL} {t i:Nat} {T:TypeId} {cs:List AV} (hv:env t=.po i 0) (hO:cU O i (.cells T cs) O'):aZ E env O (bz env t (.pf cs)) O':=fun I F ρ w h1 ⟨ht,L,hL,hS⟩=>by
 obtain ⟨A,B,hp,⟨b,c,vs,e1,hvs,hvc,rfl⟩,hB⟩:=hO.rep hL
 simp only at e1
 have hS2:SL I.k ((b,.cells vs.toArray T (0,0))::(B++F)) E w:=hS.perm ((hp.append_right F).symm)
 obtain ⟨hl,hS3⟩:=SL.freeze hS2
 let J:G:=⟨I.k.put b (.cells vs.toArray T (0,0)),I.h⟩
 have hle:I.le J:=⟨hl,fun _ _ h=>h⟩
 refine ⟨J,hle,fun s=>?_,ht,B,hB.mono hle,hS3⟩
 unfold bz
 cases hb:Nat.beq s t with
 |false=>exact bO.mono hle _ _ (h1 s)
 |true=>
  have:s=t:=Nat.eq_of_beq_eq_true hb
  subst this
  have h2:=h1 s
  rw[hv] at h2
  obtain ⟨b2,c2,e2,e3⟩:=h2
  rw[e1] at e2
  simp only[Option.some.injEq,Prod.mk.injEq] at e2
  obtain ⟨rfl,rfl⟩:=e2
  exact ⟨b,0,vs,e3,RepL.mono hle _ _ hvs,fun j u hj=>⟨_,_,_,aJ.put_same _ _ _,by rw[Nat.zero_add,List.getElem?_toArray];exact hj⟩⟩
end
section
open Go.Proofs.Tryz
section
variable {E:World} {P:Program} {ops:Array Oper} {K:aH→OL→Prop} {env:aH} {O O':OL} {rest:List Oper}
variable {d ty:Nat} {pos:String} {af:Array Edge} {x y z:Operand} {t u e:TypeId}
end
end
section
open Go.Proofs.Tryz
section
variable {P:Program} {env:aH} {O:OL}
variable {d ty:Nat} {pos:String} {af:Array Edge} {x y:Operand}
theorem Gv.minI {ts:Array TypeId} {k:IntKind} {a b:Int} (hx:aU env x=.int k a) (hy:aU env y=.int k b):Gv P env O (Oper.mk (some d) (.call { callee:=.builtin .min,args:=#[x,y],argTypes:=ts }) ty pos af none) (.int k (if b<a then b else a)):=Gv.ofEv fun I ρ h=>⟨_,rfl,fun w=>by
 simp[execOp,resolve,e7 h hx,e7 h hy,invoke,builtin,Builtin.min_,Builtin.min2,Result.andThen]⟩
end
end
section
open Go.Proofs.Tryz
open Go.Lib
section
variable {P:Program} {ops:Array Oper} {K:bF→World→Prop} {ρ:bF} {w:World} {rest:List Oper}
variable {d ty:Nat} {pos:String} {af:Array Edge} {x y z:Operand} {t u e:TypeId}
variable {I:aJ} {O A:List (Nat × Obj)} {E:World}
end
section
variable {E:World} {P:Program} {ops:Array Oper} {K:aH→OL→Prop} {env:aH} {O O':OL} {rest:List Oper}
variable {d ty:Nat} {pos:String} {af:Array Edge} {x y z:Operand} {t u e:TypeId}
end
section
variable {E:World} {P:Program} {env:aH} {O:OL} {d ty:Nat} {pos:String} {af:Array Edge} {t e kt:TypeId} {x y:Operand} {b i:Nat} {es:List (ByteArray × Int)}
theorem Gv.lookup1S {s:ByteArray} (ht:P.underlying t=some (.map kt e)) (hk:P.underlying kt=some .string) (hz:∀w,(zeroValue e).run P w=.ok (.int .i64 0) w) (hx:aU env x=u4 b) (hy:aU env y=.str s) (hO:mV O i (u0 b es)) :
  Gv P env O (Oper.mk (some d) (.lookup t x y false) ty pos af none) (.int .i64 ((fQ s es).getD 0)):=fun I L E ρ h1 hL=>by
 obtain ⟨arr,clock,hm,he⟩:=Ch hO hL
 have hx:=v7 h1 hx
 have hy:=yL h1 hy
 refine ⟨.int .i64 ((fQ s es).getD 0),Z,fun w J L' hl hS hin=>?_⟩
 have hb:=hS.own _ (hin _ hm)
 simp only at hb
 have hc:(Instr.checkKey arr.isEmpty 10000 kt (.string s)).run P w=.ok () w:=MapKept.run_checkKey (k:=.string s) hk (by simp[MapKept.IsKey]) _ 9999
 cases hg:fQ s es with
 |none=>
  have hf:=fv (i:=0) he hg
  simp[execOp,Instr.lookup,run_underlying ht,hx,hy,MapKept.run_getObj_map hb,hc,MapKept.run_findKey hk hf,hz,Result.andThen]
 |some u=>
  obtain ⟨j,hf,_⟩:=fw (i:=0) he hg
  simp[execOp,Instr.lookup,run_underlying ht,hx,hy,MapKept.run_getObj_map hb,hc,MapKept.run_findKey hk hf,Result.andThen]
end
theorem ol (s v:ByteArray) (n:Int):∀es:List (ByteArray × Int),fQ s (jL v n es)=if s=v then some n else fQ s es
 |[]=>by simp only[jL,fQ]
 |(k,u)::es=>by
  simp only[jL]
  split
  ·rename_i h;subst h;simp only[fQ];split<;>rfl
  ·rename_i h
   simp only[fQ,ol s v n es]
   split
   ·rename_i h2;subst h2;rw[if_neg (fun e=>h e.symm)]
   ·rfl
end
section
open Go.Proofs.Tryz
open Go.Proofs Go.Lib Go.Shelf Go.RowKit
set_option maxRecDepth 20000
variable {E:World}
def fx (t:Int):ByteArray:=if t=0 then ⟨#[105,110,116]⟩ else if t=1 then ⟨#[98,111,111,108]⟩ else if t=2 then ⟨#[97,114,114]⟩ else ⟨#[]⟩
theorem zB (s:ByteArray):Dp s.data.toList=s:=by unfold Dp;simp
def qM:List Int→Bool
 |[]=>false
 |c::rs=>cS c&&(rs.all cY&&decide (rs.length+1≤16))
theorem m1 {c:Int} (h:cS c=true):cY c=true:=by unfold cY;rw[h];rfl
theorem wl (s:ByteArray):∀(n p:Nat),s.size - p≤n→0<p→p≤s.size→kY s p=((bk s p).all cY&&decide ((bk s 0).length≤16)):=by
 intro n
 induction n with
 |zero=>
  intro p h hp hps
  have hne:¬s=⟨#[]⟩:=fun e=>by subst e;have:p≤0:=hps;omega
  rw[kY,dif_neg (by omega),bR (p:=p) (by omega)]
  simp[hne];omega
 |succ n ih=>
  intro p h hp hps
  by_cases hlt:p<s.size
  ·have hd:=(cO s p).1
   have hw:p+(Utf8.decode s p).2≤s.size:=by
    have:=decodeL_le (s.data.toList.drop p) (by intro e;have:=congrArg List.length e;rw[List.length_drop] at this;have h2:s.data.toList.length=s.size:=Array.length_toList;simp only[List.length_nil] at this;omega)
    rw[decodeL_drop,List.length_drop] at this
    have h2:s.data.toList.length=s.size:=Array.length_toList
    omega
   rw[kY,dif_pos hlt,de hlt,List.all_cons]
   have hp0:decide (p=0)=false:=qy (by omega)
   rw[hp0,Bool.false_and,Bool.false_or]
   cases hi:cY ((Utf8.decode s p).1:Int) with
   |false=>simp
   |true=>rw[if_neg (by simp),ih _ (by omega) (by omega) hw];simp
  ·have hne:¬s=⟨#[]⟩:=fun e=>by subst e;have:p≤0:=hps;omega
   rw[kY,dif_neg hlt,bR (p:=p) hlt]
   simp[hne];omega
theorem zC {s:ByteArray} {p:Nat} (hlt:p<s.size):p+(Utf8.decode s p).2≤s.size:=by
 have h2:s.data.toList.length=s.size:=Array.length_toList
 have:=decodeL_le (s.data.toList.drop p) (by intro e;have:=congrArg List.length e;rw[List.length_drop] at this;simp only[List.length_nil] at this;omega)
 rw[decodeL_drop,List.length_drop] at this
 omega
theorem ph (s:ByteArray):cZ s=qM (bk s 0):=by
 unfold cZ
 by_cases hlt:0<s.size
 ·have hd:=(cO s 0).1
  have hw:=zC hlt
  have hr:=de hlt
  have hl:=congrArg List.length hr
  rw[List.length_cons] at hl
  rw[kY,dif_pos hlt]
  have h2:qM (bk s 0)=(cS ((Utf8.decode s 0).1:Int)&&((bk s (0+(Utf8.decode s 0).2)).all cY&&decide ((bk s (0+(Utf8.decode s 0).2)).length+1≤16))):=by rw[hr];rfl
  rw[h2]
  cases hc:cS ((Utf8.decode s 0).1:Int) with
  |false=>simp
  |true=>
   rw[m1 hc,if_neg (by simp),wl s _ _ (Nat.le_refl _) (by omega) hw,hl];rfl
 ·rw[kY,dif_neg hlt,bR hlt]
  have:s=⟨#[]⟩:=by
   have h2:s.data.toList.length=s.size:=Array.length_toList
   have h3:s.data.toList=[]:=List.eq_nil_of_length_eq_zero (by omega)
   rw[←zB s,h3];rfl
  simp[this,qM]
theorem qN (k:Nat):(decide ((1:Int)≤((k+1:Nat):Int))&&decide (((k+1:Nat):Int)≤16))=(([]:List Int).all cY&&decide (k+1+([]:List Int).length≤16)):=by
 rw[qx (by omega),Bool.true_and]
 show _=(true&&_)
 rw[Bool.true_and,decide_eq_decide]
 show ((k+1:Nat):Int)≤16↔k+1+0≤16
 omega
theorem m2 (s:ByteArray):∀(n p k:Nat),s.size - p≤n→cW s p (k+1)=((bk s p).all cY&&decide (k+1+(bk s p).length≤16)):=by
 intro n
 induction n with
 |zero=>
  intro p k h
  rw[cW,dif_neg (by omega),bR (by omega)]
  exact qN k
 |succ n ih=>
  intro p k h
  by_cases hlt:p<s.size
  ·have hd:=(cO s p).1
   rw[cW,dif_pos hlt,de hlt,List.all_cons]
   have ho:bY ((Utf8.decode s p).1:Int) (k+1)=cY ((Utf8.decode s p).1:Int):=by
    unfold bY cY cS kX
    have:decide (((k+1:Nat):Int)=0)=false:=qy (by omega)
    rw[this];simp[Bool.or_assoc]
   rw[ho]
   cases hi:cY ((Utf8.decode s p).1:Int) with
   |false=>simp
   |true=>rw[if_pos rfl,ih _ _ (by omega),Bool.true_and,List.length_cons];congr 2;simp;omega
  ·rw[cW,dif_neg hlt,bR hlt]
   exact qN k
theorem zD (s:ByteArray):gX s=qM (bk s 0):=by
 unfold gX
 by_cases hlt:0<s.size
 ·rw[cW,dif_pos hlt,de hlt]
  have ho:bY ((Utf8.decode s 0).1:Int) 0=cS ((Utf8.decode s 0).1:Int):=by unfold bY cS;simp
  rw[ho]
  show _=(cS ((Utf8.decode s 0).1:Int)&&_)
  cases hc:cS ((Utf8.decode s 0).1:Int) with
  |false=>simp
  |true=>rw[if_pos rfl,m2 s _ _ _ (Nat.le_refl _),Bool.true_and];congr 2;simp;omega
 ·rw[cW,dif_neg hlt,bR hlt];rfl
theorem ka (s:ByteArray):gX s=cZ s:=by rw[zD,ph]
structure dZ (f:ai) (x:aD):Prop where
 op:0≤x.op∧x.op≤26
 len:x.args.length=(bg x.op).length
 dst:(cQ x.op=false∧x.dst=-1)∨(cQ x.op=true∧x.dst≠-1∧bn f x.dst=true)
 num:kJ x.op=false→x.num=0
 args:∀a∈x.args,bn f a=true
theorem m3 {f:ai} {x:aD} (h:kQ f x):dZ f x:=by
 obtain ⟨h1,h2,h3,h4⟩:=h
 have hw:=my ⟨h1,h2⟩
 unfold iD at h3
 simp only[Bool.or_eq_false_iff,Bool.not_eq_false',decide_eq_true_eq,Bool.and_eq_false_iff,beq_iff_eq] at h3
 obtain ⟨g1,g2,g3,g4⟩:=h3
 refine ⟨⟨h1,h2⟩,by rw[iF];omega,?_,fun hn=>?_,List.all_eq_true.1 h4⟩
 ·rw[gl]
  by_cases hd:x.dst=-1
  ·left
   rw[qx hd] at g2
   exact ⟨by rw[g2];rfl,hd⟩
  ·right
   rw[qy hd] at g2
   refine ⟨by rw[g2];rfl,hd,?_⟩
   rcases g3 with g|g
   ·exact absurd g hd
   ·exact g
 ·rcases g4 with g|g
  ·exact g
  ·rw[hw,hn] at g;cases g
theorem om (t:Int):aV prog E 69 [.int .i64 t] (.str (fx t)):=by
 refine zr func69 Z (by decide) Z<|ao<|z8 (yb (v:=.str _) Z)<|z6<|zb<|ao<|aa Z<|z6<|zk<|ao<|az Z Z<|ab Z<|z6<|zw Z (fun c1=>?_) (fun c1=>?_)
 ·refine ao<|z8 (yb (v:=.str _) Z)<|z6<|ze<|zi (x:=.str _) Z ?_
  exact congrArg AV.str (by simp_all[fx])
 ·refine ao<|az Z Z<|ab Z<|z6<|zw Z (fun c2=>?_) (fun c2=>?_)
  ·refine ao<|z8 (yb (v:=.str _) Z)<|z6<|ze<|zi (x:=.str _) Z ?_
   exact congrArg AV.str (by simp_all[fx])
  ·refine ao<|az Z Z<|ab Z<|z6<|zw Z (fun c3=>?_) (fun c3=>?_)
   ·refine ao<|z8 (yb (v:=.str _) Z)<|z6<|ze<|zi (x:=.str _) Z ?_
    exact congrArg AV.str (by simp_all[fx])
   ·refine zg<|ao<|z8 (yb (v:=.str _) Z)<|z6<|ze<|zi (x:=.str _) Z ?_
    exact congrArg AV.str (by simp_all[fx])
end
section
open Go.Proofs.Tryz
section
variable {S:Int→List Int}
end
section
variable {S:Int→List Int} {at_:Int→Int} {V:List Int} {N:Int→Int}
variable {b m:Int}
end
end
section
open Go.Proofs.Tryz
section
variable {S:Int→List Int} {at_:Int→Int} {V:List Int} {N:Int→Int} {b m:Int}
end
end
section
open Go.Proofs.Tryz
section
variable {S:Int→List Int} {at_ V:List Int} {preds:Int→List Int} {n:Nat}
end
end
section
open Go.Proofs.Tryz
def gb (l:List Bool) (x:Int):Bool:=(l[x.toNat]?).getD false
structure EOk (E:Int→List Int) (n:Nat):Prop where
 npos:0<n
 rng:∀b:Int,0≤b→b<n→∀c∈E b,0≤c∧c<n
 len:∀b,(E b).length≤2
section
variable {E:Int→List Int} {n:Nat} (hE:EOk E n)
include hE
end
end
section
open Go.Proofs.Tryz
structure wm (E:Int→List Int) (n:Nat):Prop extends EOk E n where
 out:∀x:Int,¬(0≤x∧x<n)→E x=[]
section
variable {E:Int→List Int} {n:Nat} (hE:wm E n)
include hE
end
section
variable {E:Int→List Int} {n:Nat} (hE:wm E n)
include hE
end
section
variable {E:Int→List Int} {n:Nat} (hE:wm E n)
include hE
end
end
section
open Go.Proofs.Tryz
end
section
open Go.Proofs.Tryz
end
section
open Go.Proofs.Tryz
end
section
open Go.Proofs.Tryz
def EJ (a:Int) (out:List Bool) (shut x:Int):Prop:=x≠shut∧(x=a∨gb out x=true)
instance (a:Int) (out:List Bool) (shut x:Int):Decidable (EJ a out shut x):=by unfold EJ;infer_instance
end
section
open Go.Proofs.Tryz
noncomputable section
end
end
section
open Go.Proofs.Tryz
abbrev gQ:=Int × Int
def bT (x:Int):Prop:=-9223372036854775808≤x∧x≤9223372036854775807
instance (x:Int):Decidable (bT x):=by unfold bT;infer_instance
def wn (r:gQ):Prop:=bT r.1∧bT r.2
def Eu:gQ:=(1,0)
def Ds (lo hi:Int):gQ:=if hi<lo then Eu else (lo,hi)
def Ev (a b:Int):Int:=if b<a then b else a
def Ew (a b:Int):Int:=if a<b then b else a
def Dt (a b:gQ):gQ:=if a.2<a.1 then Ds b.1 b.2 else if b.2<b.1 then a else (Ev a.1 b.1,Ew a.2 b.2)
def nT (k:Nat) (x y:Int):Int:=if k=0 then x+y else if k=1 then x - y else x*y
def d5 (k:Nat) (x y:Int):Prop:=bT (nT k x y)
instance (k:Nat) (x y:Int):Decidable (d5 k x y):=by unfold d5;infer_instance
def EL (n:Int):gQ:=(n,n)
def qO (k:Nat) (a b:gQ):Prop:=d5 k a.1 b.1∧d5 k a.1 b.2∧d5 k a.2 b.1∧d5 k a.2 b.2
instance (k:Nat) (a b:gQ):Decidable (qO k a b):=by unfold qO;infer_instance
theorem zE {x y:Nat} (hy:0<y) (l:Nat):x≤l / y↔x*y≤l:=Nat.le_div_iff_mul_le hy
theorem l7 (a b:Int) (l:Nat):a.natAbs≤l / b.natAbs↔(b=0∧a=0)∨(b≠0∧(a*b).natAbs≤l):=by
 by_cases hb:b=0
 ·subst hb;simp
 ·rw[zE (by omega),Int.natAbs_mul];simp[hb]
theorem wo {a b:Int} (ha:a≠0) (hb:b≠0):(0<a*b↔((a<0)↔(b<0)))∧a*b≠0:=by
 refine ⟨?_,Int.mul_ne_zero ha hb⟩
 rcases Int.lt_or_gt_of_ne ha with h1|h1<;>rcases Int.lt_or_gt_of_ne hb with h2|h2
 ·have:=Int.mul_pos_of_neg_of_neg h1 h2;simp[this,h1,h2]
 ·have:=Int.mul_neg_of_neg_of_pos h1 h2
  constructor
  ·intro h;omega
  ·intro h;have:=h.1 h1;omega
 ·have:=Int.mul_neg_of_pos_of_neg h1 h2
  constructor
  ·intro h;omega
  ·intro h;have:=h.2 h2;omega
 ·have:=Int.mul_pos h1 h2
  constructor
  ·intro _;constructor<;>intro h<;>omega
  ·intro _;exact this
theorem Ci (a b:Int) (ha:a≠0) (hb:b≠0):(a.natAbs≤(if decide (a<0)=decide (b<0) then 9223372036854775807 else 9223372036854775808) / b.natAbs)↔d5 2 a b:=by
 have hs:=wo ha hb
 rw[l7]
 unfold d5 bT
 have e:nT 2 a b=a*b:=rfl
 rw[e]
 simp only[hb,false_and,false_or,ne_eq,not_false_eq_true,true_and]
 by_cases h:decide (a<0)=decide (b<0)
 ·rw[if_pos h]
  have:(a<0)↔(b<0):=by simpa using h
  have h1:=hs.1.2 this
  omega
 ·rw[if_neg h]
  have:¬((a<0)↔(b<0)):=by simpa using h
  have h1:¬0<a*b:=fun h2=>this (hs.1.1 h2)
  omega
end
section
open Go.Proofs.Tryz
def Du (r s:gQ):Prop:=r.2<r.1∨(s.1≤r.1∧r.2≤s.2)
end
section
open Go.Proofs.Tryz
end
section
open Go.Proofs.Tryz
end
section
open Go.Proofs.Tryz
def ra (rs:List gQ) (i:Nat):gQ:=(rs[i]?).getD (0,0)
end
section
open Go.Proofs.Tryz
def lv (l:List gQ) (v:Int):gQ:=(l[v.toNat]?).getD Eu
def nrm (r:gQ):Prop:=r.2<r.1→r=Eu
structure Dv (n:Nat) (rule:List gQ→Int→gQ) (vs:List Int):Prop where
 mono:∀l l' v,l.length=n→l'.length=n→(∀u:Int,0≤u→Du (lv l u) (lv l' u))→(∀u:Int,0≤u→wn (lv l u))→(∀u:Int,0≤u→wn (lv l' u))→v∈vs→Du (rule l v) (rule l' v)
 ok:∀l v,l.length=n→(∀u:Int,0≤u→wn (lv l u))→v∈vs→wn (rule l v)
 rng:∀v∈vs,0≤v∧v<n
end
section
open Go.Proofs.Tryz
section
variable {n:Nat} {rule:List gQ→Int→gQ} {widn:Nat→Int→Option gQ} {vs:List Int} (hR:Dv n rule vs) (hw:∀i v t,widn i v=some t→wn t)
include hR hw
end
end
section
open Go.Proofs.Tryz
end
section
open Go.Proofs.Tryz
end
section
open Go.Proofs.Tryz
end
section
open Go.Proofs.Tryz
def BV (q:Int):Prop:=21≤q∧q≤23
instance (q:Int):Decidable (BV q):=by unfold BV;infer_instance
end
section
open Go.Proofs.Tryz
end
section
open Go.Proofs.Tryz
section
variable {n:Nat} {rule:List gQ→Int→gQ} {vs:List Int} {phi:Int→Prop} {rank:Int→Nat}
end
section
variable {n:Nat} {rule:List gQ→Int→gQ} {vs:List Int} {phi:Int→Prop} {t:Int→gQ}
end
end
section
open Go.Proofs.Tryz
def zF (h:gQ × Bool) (n:Int) (fits:Bool) (e:Int):gQ × Bool:=(Dt h.1 (EL (if fits then n else e)),h.2||!fits)
def h4 (h:gQ × Bool) (a b:gQ) (n:Int→Int→Int) (fit:Int→Int→Bool) (e:Int→Int→Int):gQ × Bool:=
 zF (zF (zF (zF h (n a.1 b.1) (fit a.1 b.1) (e a.1 b.1)) (n a.1 b.2) (fit a.1 b.2) (e a.1 b.2)) (n a.2 b.1) (fit a.2 b.1) (e a.2 b.1)) (n a.2 b.2) (fit a.2 b.2) (e a.2 b.2)
instance (k:Nat) (x y:Int):Decidable (d5 k x y):=by unfold d5 bT;infer_instance
instance (k:Nat) (a b:gQ):Decidable (qO k a b):=by unfold qO;infer_instance
end
section
open Go.Proofs.Tryz
open Go.Proofs
theorem g6 {x:Int} (h:bT x):(if x<0 then IntKind.u64.wrap (0 - IntKind.u64.wrap x) else IntKind.u64.wrap x)=((x.natAbs:Nat):Int):=by
 unfold bT at h
 unfold IntKind.wrap;simp[IntKind.bits,IntKind.signed];split<;>omega
end
section
open Go.Proofs.Tryz
open Go.Proofs
theorem kZ (z:Int):IntKind.i64.wrap z=(z+9223372036854775808) % 18446744073709551616 - 9223372036854775808:=by
 unfold IntKind.wrap;simp[IntKind.bits,IntKind.signed];(try split)<;>omega
theorem k6 (z:Int):IntKind.u64.wrap z=z % 18446744073709551616:=by
 unfold IntKind.wrap;simp[IntKind.bits,IntKind.signed]
theorem u5 (x y:Int):IntKind.i64.wrap (IntKind.u64.wrap (IntKind.u64.wrap x+IntKind.u64.wrap y))=IntKind.i64.wrap (x+y):=by
 simp only[kZ,k6];omega
theorem u6 (x y:Int):IntKind.i64.wrap (IntKind.u64.wrap (IntKind.u64.wrap x - IntKind.u64.wrap y))=IntKind.i64.wrap (x - y):=by
 simp only[kZ,k6];omega
theorem u7 (x y:Int):IntKind.i64.wrap (IntKind.u64.wrap (IntKind.u64.wrap x*IntKind.u64.wrap y))=IntKind.i64.wrap (x*y):=by
 simp only[kZ,k6]
 rw[←Int.mul_emod];omega
theorem u9 (x:Int):IntKind.i64.wrap (IntKind.u64.wrap (0 - IntKind.u64.wrap x))=IntKind.i64.wrap (x.tdiv (-1)):=by
 rw[show x.tdiv (-1)=-x by rw[Int.tdiv_neg,Int.tdiv_one]]
 simp only[kZ,k6];omega
theorem Ey {x y:Int} (hx:bT x) (hx0:x≠0) (hy0:y≠0):decide ((x.natAbs:Int)≤IntKind.u64.wrap ((if (decide (x<0) == decide (y<0))=true then 9223372036854775807 else 9223372036854775808:Int).tdiv (y.natAbs:Int)))=decide (d5 2 x y):=by
 rw[decide_eq_decide,←Ci x y hx0 hy0]
 obtain ⟨l,hl⟩:∃l:Nat,(if decide (x<0)=decide (y<0) then 9223372036854775807 else 9223372036854775808)=l:=⟨_,rfl⟩
 have hl2:(if (decide (x<0) == decide (y<0))=true then 9223372036854775807 else 9223372036854775808:Int)=(l:Int):=by
  rw[←hl]
  by_cases h:decide (x<0)=decide (y<0)
  ·rw[if_pos h,if_pos (by simpa using h)];rfl
  ·rw[if_neg h,if_neg (by simpa using h)];rfl
 have hll:l≤9223372036854775808:=by rw[←hl];split<;>omega
 rw[hl,hl2,show ((l:Int)).tdiv (y.natAbs:Int)=((l / y.natAbs:Nat):Int) from rfl,k6]
 have h3:=Nat.div_le_self l y.natAbs
 generalize l / y.natAbs=q at h3 ⊢
 omega
end
section
open Go.Proofs.Tryz
structure GS where
 ints:List Int
 bools:List Bool
 arrs:List Int
 arrays:List (List Int)
 blk:Int
 pc:Nat
 en:Int
 val:Int
 tr:Int
 trace:List Int
 st:Nat
 ck:Nat→Nat
 ended:Bool
structure pi where
 int:Int
 b:Bool
 arr:Int
structure pj where
 args:List pi
 arrays:List (List Int)
def vi (l:List Int) (v:Int):Int:=(l[v.toNat]?).getD 0
def vW (x:aD):Int:=(x.args[0]?).getD 0
def zG (x:aD):Int:=(x.args[1]?).getD 0
def zH (x:aD):Int:=(x.args[2]?).getD 0
def gA (s:GS) (a:Int):List Int:=(s.arrays[a.toNat]?).getD []
def dE (s:GS) (a i:Int):Bool:=decide (0≤a∧a<s.arrays.length∧0≤i∧i<(gA s a).length)
def BW (l:List Int) (ints:List Int):Int:=if 1<l.length then vi ints ((l[1]?).getD 0) else 0
def eu (s:GS) (op:Int) (l:List Int):Bool:=
 if op=18 then dE s (vi s.arrs ((l[0]?).getD 0)) (BW l s.ints)
 else if op=19 then decide (0≤vi s.arrs ((l[0]?).getD 0))
 else if op=20 then decide (vi s.ints ((l[0]?).getD 0)≠0)
 else if op=21 then decide (d5 0 (vi s.ints ((l[0]?).getD 0)) (BW l s.ints))
 else if op=22 then decide (d5 1 (vi s.ints ((l[0]?).getD 0)) (BW l s.ints))
 else if op=23 then decide (d5 2 (vi s.ints ((l[0]?).getD 0)) (BW l s.ints))
 else decide (0≤vi s.ints ((l[0]?).getD 0)∧vi s.ints ((l[0]?).getD 0)≤64)
def fc (s:GS) (t:Nat):GS:={ s with ck:=fun i=>if i=t then s.ck i+1 else s.ck i }
def cu (s:GS) (e:Int):GS:={ s with en:=e,ended:=true }
def qP (s:GS) (t:Int):GS:={ s with en:=1,tr:=t,ended:=true }
def stI (s:GS) (d v:Int):GS:={ s with ints:=s.ints.set d.toNat v }
def stB (s:GS) (d:Int) (v:Bool):GS:={ s with bools:=s.bools.set d.toNat v }
def stA (s:GS) (d v:Int):GS:={ s with arrs:=s.arrs.set d.toNat v }
def zI (a b:Int):Int:=IntKind.i64.wrap (a.tdiv b)
def va (a b:Int):Int:=if b=-1 then 0 else IntKind.i64.wrap (a - IntKind.i64.wrap (IntKind.i64.wrap (a.tdiv b)*b))
def aG (s:GS) (x:aD):Int:=vi s.ints (vW x)
def bG (s:GS) (x:aD):Int:=vi s.ints (zG x)
def pG (s:GS) (x:aD):Bool:=gb s.bools (vW x)
def qG (s:GS) (x:aD):Bool:=gb s.bools (zG x)
def rG (s:GS) (x:aD):Int:=vi s.arrs (vW x)
def doG (s:GS) (x:aD):GS:=
 if x.op=0 then stI s x.dst x.num
 else if x.op=1∨x.op=25∨x.op=26 then stA (stB (stI s x.dst (aG s x)) x.dst (pG s x)) x.dst (rG s x)
 else if x.op=2 then stI s x.dst (IntKind.i64.wrap (nT 0 (aG s x) (bG s x)))
 else if x.op=3 then stI s x.dst (IntKind.i64.wrap (nT 1 (aG s x) (bG s x)))
 else if x.op=4 then stI s x.dst (IntKind.i64.wrap (nT 2 (aG s x) (bG s x)))
 else if x.op=5 then (if bG s x=0 then cu s 2 else stI s x.dst (zI (aG s x) (bG s x)))
 else if x.op=6 then (if bG s x=0 then cu s 2 else stI s x.dst (va (aG s x) (bG s x)))
 else if x.op=7 then stB s x.dst (decide (aG s x=bG s x))
 else if x.op=8 then stB s x.dst (decide (aG s x<bG s x))
 else if x.op=9 then stB s x.dst (decide (aG s x≤bG s x))
 else if x.op=10 then stB s x.dst (!pG s x)
 else if x.op=11 then stB s x.dst (pG s x&&qG s x)
 else if x.op=12 then (if rG s x<0 then cu s 2 else stI s x.dst ((gA s (rG s x)).length))
 else if x.op=13 then (if dE s (rG s x) (bG s x)=true then stI s x.dst (vi (gA s (rG s x)) (bG s x)) else cu s 2)
 else if x.op=14 then (if dE s (rG s x) (bG s x)=true then { s with arrays:=s.arrays.set (rG s x).toNat ((gA s (rG s x)).set (bG s x).toNat (vi s.ints (zH x))) } else cu s 2)
 else if x.op=15 then (if aG s x<0∨64<aG s x then cu s 2 else if 32≤s.arrays.length then cu s 3 else stA { s with arrays:=s.arrays++[List.replicate (aG s x).toNat 0] } x.dst s.arrays.length)
 else if x.op=16 then stA s x.dst (-1)
 else (if 4096≤s.trace.length then cu s 3 else { s with trace:=s.trace++[aG s x] })
def bi (s:GS) (x:aD):GS:=
 if 18≤x.op∧x.op≤24 then (if eu s x.op x.args=true then fc s (x.op - 17).toNat else qP (fc s (x.op - 17).toNat) (x.op - 17))
 else doG s x
def bP (f:ai) (b:Int):aI:=(f.blocks[b.toNat]?).getD ⟨⟨#[]⟩,[],[],⟨2,0,0,0⟩⟩
def cT (p:cV) (b:Int):Int:=((p.from_.zip p.args).find? fun q=>decide (q.1=b)).elim (-1) (·.2)
def assign (s t:GS) (p:cV):GS:=stA (stB (stI t p.dst (vi s.ints (cT p s.blk))) p.dst (gb s.bools (cT p s.blk))) p.dst (vi s.arrs (cT p s.blk))
def goG (s:GS) (dst_:Int):GS:={ s with blk:=dst_,pc:=0 }
def cC (f:ai) (s:GS) (dst_:Int):GS:=
 if (bP f dst_).phis.all (fun p=>decide (0≤cT p s.blk))=true then goG ((bP f dst_).phis.foldl (assign s) s) dst_ else cu (goG s dst_) 2
def fJ (f:ai) (s:GS):Int:=if (bP f s.blk).term.kind=0∨gb s.bools (bP f s.blk).term.var=true then (bP f s.blk).term.to0 else (bP f s.blk).term.to1
def bI (f:ai) (s:GS):GS:=
 match (bP f s.blk).insts[s.pc]? with
 |some x=>bi { s with pc:=s.pc+1,st:=s.st+1 } x
 |none=>if (bP f s.blk).term.kind=2 then cu { s with st:=s.st+1,val:=vi s.ints (bP f s.blk).term.var } 0 else cC f { s with st:=s.st+1 } (fJ f s)
def fR (f:ai):Nat→GS→GS
 |0,s=>s
 |k+1,s=>if s.ended=true then s else fR f k (bI f s)
def lW (f:ai) (i:Nat):Int:=((f.vars[i]?).map (·.ty)).getD 0
def l8 (f:ai) (i:Nat) (a:pi):Int:=if lW f i=0 then a.int else 0
def l9 (f:ai) (i:Nat) (a:pi):Bool:=if lW f i=0 then false else if lW f i=1 then a.b else false
def k7 (f:ai) (i:Nat) (a:pi):Int:=if lW f i=0 then -1 else if lW f i=1 then -1 else a.arr
def cD {α β:Type} (g:Nat→α→β) (d:β) (n:Nat) (l:List α):List β:=l.zipIdx.map (fun q=>g q.2 q.1)++List.replicate (n - l.length) d
def g9 (f:ai) (i:pj):GS:=⟨cD (l8 f) 0 f.vars.length i.args,cD (l9 f) false f.vars.length i.args,cD (k7 f) (-1) f.vars.length i.args,i.arrays,0,0,3,0,0,[],0,fun _=>0,false⟩
structure bq (f:ai) (s:GS):Prop where
 li:s.ints.length=f.vars.length
 lb:s.bools.length=f.vars.length
 la:s.arrs.length=f.vars.length
 i64:∀x∈s.ints,bT x
 arr:∀x∈s.arrs,-1≤x∧x<s.arrays.length
 ls:s.arrays.length≤40
 lr:∀r∈s.arrays,r.length≤100
 r64:∀r∈s.arrays,∀x∈r,bT x
 lt:s.trace.length≤4096
 b0:0≤s.blk
 b1:s.blk<f.blocks.length
 pc:s.pc≤(bP f s.blk).insts.length
theorem dO {l:List Int} {v:Int} (h1:v<l.length) (h0:0≤v):l[v.toNat]?=some (vi l v):=by
 unfold vi;rw[qo (by omega)];rfl
theorem Cj {l:List Int} {v:Int} (h1:v<l.length) (h0:0≤v):vi l v∈l:=qv (dO h1 h0)
theorem mz {l:List Int} {v:Int} (h:∀x∈l,bT x):bT (vi l v):=by
 unfold vi
 cases e:l[v.toNat]? with
 |none=>exact ⟨by decide,by decide⟩
 |some x=>exact h x (qv e)
theorem eT {s:GS} {a:Int} (h0:0≤a) (h1:a<s.arrays.length):s.arrays[a.toNat]?=some (gA s a):=by
 unfold gA;rw[qo (by omega)];rfl
theorem kc {s:GS} {a:Int} (h0:0≤a) (h1:a<s.arrays.length):gA s a∈s.arrays:=qv (eT h0 h1)
theorem ez {α:Type} {l:List α} {n:Nat} {a x:α} (h:x∈l.set n a):x∈l∨x=a:=List.mem_or_eq_of_mem_set h
theorem bq.stI {f:ai} {s:GS} (h:bq f s) {d v:Int} (hv:bT v):bq f (stI s d v):=
 ⟨by simp[Go.Proofs.YtbconpmnckokoaaGreatDoor.stI,h.li],h.lb,h.la,fun x hx=>(ez hx).elim (h.i64 x) (fun e=>e▸hv),h.arr,h.ls,h.lr,h.r64,h.lt,h.b0,h.b1,h.pc⟩
theorem bq.stB {f:ai} {s:GS} (h:bq f s) {d:Int} {v:Bool}:bq f (stB s d v):=
 ⟨h.li,by simp[Go.Proofs.YtbconpmnckokoaaGreatDoor.stB,h.lb],h.la,h.i64,h.arr,h.ls,h.lr,h.r64,h.lt,h.b0,h.b1,h.pc⟩
theorem bq.stA {f:ai} {s:GS} (h:bq f s) {d v:Int} (hv:-1≤v∧v<s.arrays.length):bq f (stA s d v):=
 ⟨h.li,h.lb,by simp[Go.Proofs.YtbconpmnckokoaaGreatDoor.stA,h.la],h.i64,fun x hx=>(ez hx).elim (h.arr x) (fun e=>e▸hv),h.ls,h.lr,h.r64,h.lt,h.b0,h.b1,h.pc⟩
theorem bq.stop {f:ai} {s:GS} (h:bq f s) (e:Int):bq f (cu s e):=⟨h.li,h.lb,h.la,h.i64,h.arr,h.ls,h.lr,h.r64,h.lt,h.b0,h.b1,h.pc⟩
theorem bq.trap {f:ai} {s:GS} (h:bq f s) (t:Int):bq f (qP s t):=⟨h.li,h.lb,h.la,h.i64,h.arr,h.ls,h.lr,h.r64,h.lt,h.b0,h.b1,h.pc⟩
theorem bq.bump {f:ai} {s:GS} (h:bq f s) (t:Nat):bq f (fc s t):=⟨h.li,h.lb,h.la,h.i64,h.arr,h.ls,h.lr,h.r64,h.lt,h.b0,h.b1,h.pc⟩
theorem Ck {f:ai} {s:GS} (h:bq f s) {v:Int} (h1:v<f.vars.length) (h0:0≤v):-1≤vi s.arrs v∧vi s.arrs v<s.arrays.length:=
 h.arr _ (Cj (by rw[h.la];exact h1) h0)
theorem ke {f:ai} {s:GS} (h:bq f s) {v:Int} (hn:v<f.vars.length∧0≤v):-1≤vi s.arrs v∧vi s.arrs v<s.arrays.length:=Ck h hn.1 hn.2
theorem gm {s:GS} {a i:Int}:dE s a i=true↔0≤a∧a<s.arrays.length∧0≤i∧i<(gA s a).length:=by unfold dE;rw[decide_eq_true_eq]
theorem qQ (x:Int):bT (IntKind.i64.wrap x):=by
 rw[kZ];unfold bT;omega
theorem Cl (a b:Int):bT (va a b):=by
 unfold va;split
 ·exact ⟨by decide,by decide⟩
 ·exact qQ _
theorem fy {f:ai} {v:Int} (h:bn f v=true):v<f.vars.length∧0≤v:=by
 unfold bn at h;simp at h;exact ⟨h.2,h.1⟩
theorem dZ.a0 {f:ai} {x:aD} (h:dZ f x) (hl:0<x.args.length):vW x<f.vars.length∧0≤vW x:=by
 unfold vW;rw[qo hl];exact fy (h.args _ (qs hl))
theorem dZ.a1 {f:ai} {x:aD} (h:dZ f x) (hl:1<x.args.length):zG x<f.vars.length∧0≤zG x:=by
 unfold zG;rw[qo hl];exact fy (h.args _ (qs hl))
theorem dZ.a2 {f:ai} {x:aD} (h:dZ f x) (hl:2<x.args.length):zH x<f.vars.length∧0≤zH x:=by
 unfold zH;rw[qo hl];exact fy (h.args _ (qs hl))
theorem Cm:∀j:Nat,j<27→(bg (j:Int)).length=([0,1,2,2,2,2,2,2,2,2,1,2,1,2,3,1,0,1,2,1,1,2,2,2,1,2,2][j]?).getD 0:=by decide
theorem dZ.argc {f:ai} {x:aD} (h:dZ f x):x.args.length=([0,1,2,2,2,2,2,2,2,2,1,2,1,2,3,1,0,1,2,1,1,2,2,2,1,2,2][x.op.toNat]?).getD 0:=by
 have h1:=h.op
 obtain ⟨j,e⟩:∃j:Nat,x.op=(j:Int):=⟨x.op.toNat,by omega⟩
 rw[h.len,e,Cm j (by omega),Int.toNat_natCast]
theorem Cn:∀j:Nat,j<27→cQ (j:Int)=([true,true,true,true,true,true,true,true,true,true,true,true,true,true,false,true,true,false,false,false,false,false,false,false,false,true,true][j]?).getD false:=by decide
theorem dZ.made {f:ai} {x:aD} (h:dZ f x) (hm:([true,true,true,true,true,true,true,true,true,true,true,true,true,true,false,true,true,false,false,false,false,false,false,false,false,true,true][x.op.toNat]?).getD false=true):x.dst<f.vars.length∧0≤x.dst:=by
 have h1:=h.op
 obtain ⟨j,e⟩:∃j:Nat,x.op=(j:Int):=⟨x.op.toNat,by omega⟩
 rw[e,Int.toNat_natCast,←Cn j (by omega),←e] at hm
 rcases h.dst with g|g
 ·rw[g.1] at hm;cases hm
 ·exact fy g.2.2
theorem bq.doG {f:ai} {s:GS} (h:bq f s) {x:aD} (hx:dZ f x) (h64:bT x.num):bq f (doG s x):=by
 have hc:=hx.argc
 have st:∀e,bq f (cu s e):=h.stop
 have wr:∀d v,bq f (Go.Proofs.YtbconpmnckokoaaGreatDoor.stI s d (IntKind.i64.wrap v)):=fun _ _=>h.stI (qQ _)
 have bo:∀d v,bq f (Go.Proofs.YtbconpmnckokoaaGreatDoor.stB s d v):=fun _ _=>h.stB
 unfold Go.Proofs.YtbconpmnckokoaaGreatDoor.doG
 by_cases e:x.op=0
 ·rw[if_pos e];exact h.stI h64
 rw[if_neg e];clear e
 by_cases e:x.op=1∨x.op=25∨x.op=26
 ·rw[if_pos e]
  refine bq.stA (s:=Go.Proofs.YtbconpmnckokoaaGreatDoor.stB (Go.Proofs.YtbconpmnckokoaaGreatDoor.stI s x.dst (aG s x)) x.dst (pG s x)) (h.stI (mz h.i64)).stB ?_
  exact ke h (hx.a0 (by rcases e with e|e|e<;>(rw[e] at hc;rw[hc];decide)))
 rw[if_neg e];clear e
 by_cases e:x.op=2
 ·rw[if_pos e];exact wr _ _
 rw[if_neg e];clear e
 by_cases e:x.op=3
 ·rw[if_pos e];exact wr _ _
 rw[if_neg e];clear e
 by_cases e:x.op=4
 ·rw[if_pos e];exact wr _ _
 rw[if_neg e];clear e
 by_cases e:x.op=5
 ·rw[if_pos e]
  split
  ·exact st 2
  ·exact wr _ _
 rw[if_neg e];clear e
 by_cases e:x.op=6
 ·rw[if_pos e]
  split
  ·exact st 2
  ·exact h.stI (Cl _ _)
 rw[if_neg e];clear e
 by_cases e:x.op=7
 ·rw[if_pos e];exact bo _ _
 rw[if_neg e];clear e
 by_cases e:x.op=8
 ·rw[if_pos e];exact bo _ _
 rw[if_neg e];clear e
 by_cases e:x.op=9
 ·rw[if_pos e];exact bo _ _
 rw[if_neg e];clear e
 by_cases e:x.op=10
 ·rw[if_pos e];exact bo _ _
 rw[if_neg e];clear e
 by_cases e:x.op=11
 ·rw[if_pos e];exact bo _ _
 rw[if_neg e];clear e
 by_cases e:x.op=12
 ·rw[if_pos e]
  split
  ·exact st 2
  ·rename_i hr
   have hl:=h.lr _ (kc (by omega) (ke h (hx.a0 (by rw[e] at hc;rw[hc];decide))).2:gA s (rG s x)∈s.arrays)
   exact h.stI ⟨by omega,by omega⟩
 rw[if_neg e];clear e
 by_cases e:x.op=13
 ·rw[if_pos e]
  split
  ·rename_i hp
   obtain ⟨h1,h2,_⟩:=gm.1 hp
   exact h.stI (mz (h.r64 _ (kc h1 h2)))
  ·exact st 2
 rw[if_neg e];clear e
 by_cases e:x.op=14
 ·rw[if_pos e]
  split
  ·rename_i hp
   obtain ⟨h1,h2,_⟩:=gm.1 hp
   refine ⟨h.li,h.lb,h.la,h.i64,fun y hy=>by simpa using h.arr y hy,by simpa using h.ls,fun r hr=>?_,fun r hr=>?_,h.lt,h.b0,h.b1,h.pc⟩
   ·rcases ez hr with hr|hr
    ·exact h.lr r hr
    ·rw[hr,List.length_set];exact h.lr _ (kc h1 h2)
   ·rcases ez hr with hr|hr
    ·exact h.r64 r hr
    ·intro y hy
     rw[hr] at hy
     rcases ez hy with hy|hy
     ·exact h.r64 _ (kc h1 h2) y hy
     ·rw[hy];exact mz h.i64
  ·exact st 2
 rw[if_neg e];clear e
 by_cases e:x.op=15
 ·rw[if_pos e]
  split
  ·exact st 2
  ·rename_i ha
   split
   ·exact st 3
   ·rename_i hs
    refine bq.stA (s:={ s with arrays:=s.arrays++[List.replicate (aG s x).toNat 0] }) ⟨h.li,h.lb,h.la,h.i64,fun y hy=>?_,?_,fun r hr=>?_,fun r hr=>?_,h.lt,h.b0,h.b1,h.pc⟩ ?_
    ·have:=h.arr y hy
     simp only[qu,List.length_singleton];omega
    ·simp only[qu,List.length_singleton];omega
    ·rcases List.mem_append.1 hr with hr|hr
     ·exact h.lr r hr
     ·rw[List.mem_singleton.1 hr,List.length_replicate];omega
    ·rcases List.mem_append.1 hr with hr|hr
     ·exact h.r64 r hr
     ·intro y hy
      rw[List.mem_singleton.1 hr] at hy
      rw[(List.mem_replicate.1 hy).2];exact ⟨by decide,by decide⟩
    ·simp only[qu,List.length_singleton];omega
 rw[if_neg e];clear e
 by_cases e:x.op=16
 ·rw[if_pos e];exact h.stA ⟨by omega,by omega⟩
 rw[if_neg e];clear e
 split
 ·exact st 3
 ·rename_i ht
  exact ⟨h.li,h.lb,h.la,h.i64,h.arr,h.ls,h.lr,h.r64,by simp only[qu,List.length_singleton];omega,h.b0,h.b1,h.pc⟩
theorem bq.inst {f:ai} {s:GS} (h:bq f s) {x:aD} (hx:dZ f x) (h64:bT x.num):bq f (bi s x):=by
 unfold bi
 split
 ·split
  ·exact h.bump _
  ·exact (h.bump _).trap _
 ·exact h.doG hx h64
structure ma (f:ai):Prop where
 pos:0<f.blocks.length
 phis:∀b∈f.blocks,∀p∈b.phis,l5 f p
 insts:∀b∈f.blocks,∀x∈b.insts,dZ f x∧bT x.num
 term:∀b∈f.blocks,bh f b.term=true
theorem m4 {f:ai} {b:Int} (h0:0≤b) (h1:b<f.blocks.length):f.blocks[b.toNat]?=some (bP f b):=by
 unfold bP;rw[qo (by omega)];rfl
theorem m5 {f:ai} {b:Int} (h0:0≤b) (h1:b<f.blocks.length):bP f b∈f.blocks:=qv (m4 h0 h1)
theorem mA {p:cV} {b:Int} (h:0≤cT p b):cT p b∈p.args:=by
 unfold cT at h ⊢
 cases e:(p.from_.zip p.args).find? fun q=>decide (q.1=b) with
 |none=>rw[e] at h;simp at h
 |some q=>exact (List.of_mem_zip (List.mem_of_find?_eq_some e)).2
theorem bq.assign {f:ai} {s t:GS} (h:bq f s) (ht:bq f t) (ha:t.arrays=s.arrays) {p:cV} (hp:l5 f p) (h0:0≤cT p s.blk):bq f (assign s t p)∧(assign s t p).arrays=s.arrays:=by
 have hv:=fy (List.all_eq_true.1 hp.2.2.2.1 _ (mA h0))
 refine ⟨bq.stA (s:=Go.Proofs.YtbconpmnckokoaaGreatDoor.stB (Go.Proofs.YtbconpmnckokoaaGreatDoor.stI t p.dst _) p.dst _) (ht.stI (mz h.i64)).stB ?_,ha⟩
 show _∧_<(t.arrays.length:Int)
 rw[ha];exact ke h hv
theorem bq.assigns {f:ai} {s:GS} (h:bq f s):∀(l:List cV) (t:GS),bq f t→t.arrays=s.arrays→(∀p∈l,l5 f p∧0≤cT p s.blk)→bq f (l.foldl (Go.Proofs.YtbconpmnckokoaaGreatDoor.assign s) t)
 |[],t,ht,_,_=>ht
 |p::l,t,ht,ha,hl=>by
  obtain ⟨h1,h2⟩:=h.assign ht ha (hl p (.head _)).1 (hl p (.head _)).2
  exact h.assigns l _ h1 h2 fun q hq=>hl q (.tail _ hq)
theorem bq.goG {f:ai} {s:GS} (h:bq f s) {dst_:Int} (h0:0≤dst_) (h1:dst_<f.blocks.length):bq f (goG s dst_):=⟨h.li,h.lb,h.la,h.i64,h.arr,h.ls,h.lr,h.r64,h.lt,h0,h1,qr _⟩
theorem bq.enter {f:ai} {s:GS} (hR:ma f) (h:bq f s) {dst_:Int} (h0:0≤dst_) (h1:dst_<f.blocks.length):bq f (cC f s dst_):=by
 unfold cC
 split
 ·rename_i ha
  exact (h.assigns _ s h rfl fun p hp=>⟨hR.phis _ (m5 h0 h1) p hp,of_decide_eq_true (List.all_eq_true.1 ha p hp)⟩).goG h0 h1
 ·exact (h.goG h0 h1).stop 2
theorem zJ {f:ai} {t:fH} (h:bh f t=true) (hk:¬t.kind=2):(0≤t.to0∧t.to0<f.blocks.length)∧(¬t.kind=0→t.kind=1∧(0≤t.to1∧t.to1<f.blocks.length)):=by
 unfold bh at h
 split at h
 ·rename_i e
  simp only[qz,dk,decide_eq_true_eq] at h
  exact ⟨h.1.1,fun g=>absurd e g⟩
 ·split at h
  ·rename_i e
   simp only[qz,dk,decide_eq_true_eq] at h
   exact ⟨h.1.2,fun _=>⟨e,h.2⟩⟩
  ·simp[hk] at h
theorem qR {f:ai} (hR:ma f) {s:GS} (h:bq f s) (hk:¬(bP f s.blk).term.kind=2):0≤fJ f s∧fJ f s<f.blocks.length:=by
 have ht:=zJ (hR.term _ (m5 h.b0 h.b1)) hk
 unfold fJ
 split
 ·exact ht.1
 ·rename_i e
  exact (ht.2 fun g=>e (.inl g)).2
theorem bq.up {f:ai} {s:GS} (h:bq f s) (n:Nat) (v:Int):bq f { s with st:=n,val:=v }:=⟨h.li,h.lb,h.la,h.i64,h.arr,h.ls,h.lr,h.r64,h.lt,h.b0,h.b1,h.pc⟩
theorem bq.step {f:ai} (hR:ma f) {s:GS} (h:bq f s):bq f (bI f s):=by
 unfold bI
 split
 ·rename_i x hx
  obtain ⟨hi,h64⟩:=hR.insts _ (m5 h.b0 h.b1) x (qv hx)
  obtain ⟨hp,_⟩:=List.getElem?_eq_some_iff.1 hx
  exact bq.inst (s:={ s with pc:=s.pc+1,st:=s.st+1 }) ⟨h.li,h.lb,h.la,h.i64,h.arr,h.ls,h.lr,h.r64,h.lt,h.b0,h.b1,hp⟩ hi h64
 ·split
  ·exact (h.up _ _).stop 0
  ·rename_i hk
   obtain ⟨h0,h1⟩:=qR hR h hk
   exact bq.enter hR (s:={ s with st:=s.st+1 }) (h.up _ s.val) h0 h1
set_option linter.defProp false
def yo:=@aZ.knowP
def q6:=@RepL.fld
def qc:=@d9.at
end
end Go.Proofs.YtbconpmnckokoaaGreatDoor
