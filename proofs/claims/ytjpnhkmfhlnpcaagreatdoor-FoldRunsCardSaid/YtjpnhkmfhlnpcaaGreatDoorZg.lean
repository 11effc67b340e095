/- What the printer holds for shaped. No conditions but bounds. -/
import Derived.Test.YtjpnhkmfhlnpcaaGreatDoorZf
import Derived.Test.YtjpnhkmfhlnpcaaGreatDoorZd
import Derived.Test.YtjpnhkmfhlnpcaaGreatDoorZe
import Derived.Lib.MapLaws
set_option linter.unusedVariables false
set_option linter.unusedSimpArgs false
set_option linter.unusedSectionVars false
namespace Go.Proofs.YtjpnhkmfhlnpcaaGreatDoor
section
open Go.Proofs.Tryz
open Go.Proofs Go.Lib Go.Shelf Go.RowKit
theorem Co:iJ prog 26 #[(0,1),(1,1),(2,1)] [.raw (.slice none 0 0),.raw (.slice none 0 0),.raw (.slice none 0 0)]:=⟨_,_,ji,Zq,fun w=>by kernel_rfl,rfl⟩
theorem Kb:iJ prog 60 #[(0,1),(1,1),(2,1),(3,4)] [.str ⟨#[]⟩,.raw (.slice none 0 0),.raw (.slice none 0 0),.int .i64 0,.int .i64 0,.int .i64 0,.int .i64 0]:=⟨_,_,jh,Zc,fun w=>by kernel_rfl,rfl⟩
theorem I4:iJ prog 73 #[(0,1),(1,1),(2,1)] [.int .i64 0,.raw (.slice none 0 0),.raw (.slice none 0 0)]:=⟨_,_,jq,Ze,fun w=>by kernel_rfl,rfl⟩
theorem D0:dw prog 53 73 1 3 [.int .i64 0,.raw (.slice none 0 0),.raw (.slice none 0 0)]:=⟨_,jx,Z1,Ze,by decide,by decide,by kernel_rfl⟩
theorem D1:dw prog 54 69 1 4 [.int .i64 0,.int .i64 0,.raw (.slice none 0 0),.int .i64 0]:=⟨_,jz,Z5,Y3,by decide,by decide,by kernel_rfl⟩
theorem oS:dw prog 24 60 1 7 [.str ⟨#[]⟩,.raw (.slice none 0 0),.raw (.slice none 0 0),.int .i64 0,.int .i64 0,.int .i64 0,.int .i64 0]:=⟨_,jl,jv,Zc,by decide,by decide,by kernel_rfl⟩
set_option maxRecDepth 20000
variable {E:World}
def D2 (b:aB):Prop:=b.name.size≤1000∧b.phis.length≤1000∧b.insts.length≤1000∧(∀p∈b.phis,p.args.length≤1000∧p.from_.length≤1000)∧∀x∈b.insts,x.args.length≤1000
def small (f:ab):Prop:=f.vars.length≤1000∧f.params.length≤1000∧f.blocks.length≤1000∧(∀v∈f.vars,v.name.size≤1000)∧∀b∈f.blocks,D2 b
theorem small.ok {f:ab} (h:small f):sj f:=by
 obtain ⟨h1,h2,h3,h4,h5⟩:=h
 refine ⟨by unfold p6;omega,by unfold p6;omega,by unfold p6;omega,fun b hb=>?_⟩
 obtain ⟨g1,g2,g3,g4,g5⟩:=h5 b hb
 exact ⟨by unfold p6;omega,by unfold p6;omega,fun p hp=>⟨by have:=g4 p hp;unfold p6;omega,by have:=g4 p hp;unfold p6;omega⟩,fun x hx=>by have:=g5 x hx;unfold p6;omega⟩
theorem small.names {f:ab} (h:small f):lO f:=⟨fun v hv=>by have:=h.2.2.2.1 v hv;omega,fun b hb=>by have:=(h.2.2.2.2 b hb).1;omega⟩
theorem oT {α:Type} {enc:α→List AV} (h:∀x,(enc x).all AV.cell=true) (xs:List α):(xs.map enc).flatten.all AV.cell=true:=by
 induction xs with
 |nil=>rfl
 |cons x xs ih=>simp only[List.map_cons,List.flatten_cons,List.all_append,h,ih,Bool.and_self]
theorem vD (xs:List Int) (hl:xs.length≤1000):bY prog E 39 [.fro 1 (xs.map b5)] [] (fun x O'=>∃i:Nat,x=.own i xs.length∧Left O' [(i,.grow 1 3 (xs.map b5).flatten)]∧True):=by
 refine zo func39 Z (by decide) Z<|ah<|za (rv Z)<|z7<|zb<|ah<|bC Z<|ao.isNil jd Z Z (fun hnil=>?_) ?_
 ·have hx:xs=[]:=by simpa using hnil
  subst hx
  refine z7<|yt Z Z<|ah<|za (rv Z)<|z7<|zf ?_
  repeat (first|refine bg ?_|refine aQ ?_)
  refine mu (s:=2) (k:=1) (T:=3) Z (fun i=>?_)
  refine zh (x:=.own _ _) Z ?_
  exact ⟨i,rfl,.refl _,trivial⟩
 ·refine z7<|yp Z Z<|ze<|ah<|ye (k:=1) jd Zo<|fun i5=>bC Z<|ym (k:=1) jd Zo Z Z Z Z Z (fun _=>.head) (by simp) (by decide) (oT (fun _=>Z) xs) (by show (_+_)*8≤_;simp<;>omega) (by simp<;>omega)<|fun i7=>za (ef Z)<|z7<|zf<|zh (x:=.own _ _) Z ?_
  exact ⟨i7,(by simp),⟨_,.refl _,rfl⟩,trivial⟩
theorem vE (xs:List qH) (hl:xs.length≤1000):bY prog E 38 [.fro 2 (xs.map b7)] [] (fun x O'=>∃i:Nat,x=.own i xs.length∧Left O' [(i,.grow 2 66 (xs.map b7).flatten)]∧True):=by
 refine zo func38 Z (by decide) Z<|ah<|za (rv Z)<|z7<|zb<|ah<|bC Z<|ao.isNil Zb Z Z (fun hnil=>?_) ?_
 ·have hx:xs=[]:=by simpa using hnil
  subst hx
  refine z7<|yt Z Z<|ah<|za (rv Z)<|z7<|zf ?_
  repeat (first|refine bg ?_|refine aQ ?_)
  refine mu (s:=2) (k:=2) (T:=66) Z (fun i=>?_)
  refine zh (x:=.own _ _) Z ?_
  exact ⟨i,rfl,.refl _,trivial⟩
 ·refine z7<|yp Z Z<|ze<|ah<|ye (k:=2) Zb type66<|fun i5=>bC Z<|ym (k:=2) Zb type66 Z Z Z Z Z (fun _=>.head) (by simp) (by decide) (oT (fun _=>Z) xs) (by show (_+_)*24≤_;simp<;>omega) (by simp<;>omega)<|fun i7=>za (ef Z)<|z7<|zf<|zh (x:=.own _ _) Z ?_
  exact ⟨i7,(by simp),⟨_,.refl _,rfl⟩,trivial⟩
theorem bZ (xs:List Int) (hl:xs.length≤1000):aZ prog E 39 [.fro 1 (xs.map b5)] (.fro 1 (xs.map b5)):=(vD xs hl).frozen (by simp[b5]) (by decide) (by simp)
theorem gI (xs:List qH) (hl:xs.length≤1000):aZ prog E 38 [.fro 2 (xs.map b7)] (.fro 2 (xs.map b7)):=(vE xs hl).frozen (by simp[b7]) (by decide) (by simp)
theorem ry (f:ab) (hf:small f):bY prog E 21 [.agg (bQ f)] [] (fun x O'=>∃i:Nat,x=.agg [.fro 2 (f.vars.map b7),.fro 1 (f.params.map b5),.own i f.blocks.length]∧Left O' [(i,.grow 7 60 (f.blocks.map bk).flatten)]∧True):=by
 obtain ⟨hf1,hf2,hf3,hf4,hf5⟩:=hf
 refine zo func21 Z (by decide) Z<|ah<|yb (cs:=_) Z Z Z<|zy (cs:=[.raw (.slice none 0 0),.raw (.slice none 0 0),.raw (.slice none 0 0)]) Zq Z Z<|fun i2=>z7<|zb<|yq (γ:=Nat) [1,2] (fun i=>[(3,.po i 0)]) (fun i=>[(i,.cells 26 [.fro 2 (f.vars.map b7),.fro 1 (f.params.map b5),.raw (.slice none 0 0)]),(i2,.cells 26 [.raw (.slice none 0 0),.raw (.slice none 0 0),.raw (.slice none 0 0)])]) (fun i=>True) ?_ (fun _ _ h=>h) ?_
 ·refine zq (fun j=>Nat.beq j 8) (by kernel_rfl) Z (zu (.rest _))<|ak 0 Z (eK ji Z Y6 Z Z)<|ak 1 Z (lL Yg Z)<|ak 3 Z (eK ji Z jm Z Z)<|ak 4 Z (lL jw Z)<|qc (i:=2) (j:=7) Z Z (by kernel_rfl) ?_ ?_
  ·refine zi (gI _ (by omega)) Z<|z7<|qc (i:=5) (j:=7) Z Z (by kernel_rfl) ?_ ?_
   ·refine zi (bZ _ (by omega)) Z<|z7<|ak 6 Z (ya (cps:=[(0,[_]),(1,[_])]) (rs:=[_,_,.raw (.slice none 0 0)]) Co Z Z Z)<|bO 7 Z<|zy (cs:=[.raw (.slice none 0 0),.raw (.slice none 0 0),.raw (.slice none 0 0)]) Zq Z Z<|fun i3=>z7<|yi<|yk (i:=8) Z (by kernel_rfl) (by kernel_rfl)<|zt jk Z Z Z Z Z Z .head Z<|z7<|yl (by kernel_rfl) ?_
    exact ⟨i3,eE,aW,aN,trivial⟩
   ·refine zy (cs:=[.raw (.slice none 0 0),.raw (.slice none 0 0),.raw (.slice none 0 0)]) Zq Z Z<|fun i3=>z7<|bO 5 Z<|zi (bZ _ (by omega)) Z<|z7<|ak 6 Z (ya (cps:=[(0,[_]),(1,[_])]) (rs:=[_,_,.raw (.slice none 0 0)]) Co Z Z Z)<|yi<|yk (i:=8) Z (by kernel_rfl) (by kernel_rfl)<|zt jk Z Z Z Z Z Z .head Z<|z7<|yl (by kernel_rfl) ?_
    exact ⟨i3,eE,aW,aN,trivial⟩
  ·refine zy (cs:=[.raw (.slice none 0 0),.raw (.slice none 0 0),.raw (.slice none 0 0)]) Zq Z Z<|fun i3=>z7<|bO 2 Z<|zi (gI _ (by omega)) Z<|z7<|bO 5 Z<|zi (bZ _ (by omega)) Z<|z7<|ak 6 Z (ya (cps:=[(0,[_]),(1,[_])]) (rs:=[_,_,.raw (.slice none 0 0)]) Co Z Z Z)<|yi<|yk (i:=8) Z (by kernel_rfl) (by kernel_rfl)<|zt jk Z Z Z Z Z Z .head Z<|z7<|yl (by kernel_rfl) ?_
   exact ⟨i3,eE,aW,aN,trivial⟩
 ·rintro i3 _
  refine zb<|ah<|aq ji Z Z0 Z Z<|aM Z6 Z<|ae jl Z<|aa Z<|z7<|di (off:=2) (k:=7) (T:=60) (fun _=>.head) Z<|fun ib=>zg<|y7 (γ:=Nat × Nat) [2,3,19,20] (fun g=>[(21,.int .i64 g.1)]) (fun g=>[(g.2,.grow 7 60 ((f.blocks.take g.1).map bk).flatten),(i3,.cells 26 [.fro 2 (f.vars.map b7),.fro 1 (f.params.map b5),.own g.2 g.1]),(i2,.cells 26 [.raw (.slice none 0 0),.raw (.slice none 0 0),.raw (.slice none 0 0)])]) (fun g=>g.1≤f.blocks.length) (fun g=>f.blocks.length - g.1) (0,ib) aW aN (qt _) ?_
  rintro ⟨k,ib⟩ hk
  try dsimp only at *
  refine ah<|ay Z Z<|z7<|zb<|zm Z (fun ck=>?_) (fun ck=>?_)
  ·have hk2:k<f.blocks.length:=by omega
   obtain ⟨hb0,hb1,hb2,hb3,hb4⟩:=hf5 _ (qu hk2)
   refine ze<|zb<|zg<|ah<|za (q9 jl jv Z Z Z (qq (by omega)))<|ac Zu jv Z Z<|zy (cs:=[.str ⟨#[]⟩,.raw (.slice none 0 0),.raw (.slice none 0 0),.int .i64 0,.int .i64 0,.int .i64 0,.int .i64 0]) Zc Z Z<|fun i5=>zt jv Z Z Z Z Z Z .head Z<|z7<|ah<|za (zc jh Z Zh (by decide) Z Z)<|za (zj (c:=.str _) Zr Z ⟨_,.head⟩ Z)<|za (zc jh Z Z4 (by decide) Z Z)<|za (Gv.loadAC (l:=[_,_,_,_]) Yo Z4 Z ⟨_,.head⟩ Z Z)<|za (ya (cps:=[(0,[_]),(3,[_,_,_,_])]) (rs:=[_,.raw (.slice none 0 0),.raw (.slice none 0 0),_,_,_,_]) Kb Z Z Z)<|zy (cs:=[.str ⟨#[]⟩,.raw (.slice none 0 0),.raw (.slice none 0 0),.int .i64 0,.int .i64 0,.int .i64 0,.int .i64 0]) Zc Z Z<|fun i6=>zt jv Z Z Z Z Z Z .head Z<|z7<|zb<|ah<|za (zc jh Z Zf (by decide) Z Z)<|za (zj (c:=.fro _ _) Zv Z ⟨_,.t1⟩ Z)<|ae jx Z<|aa Z<|z7<|di (off:=1) (k:=3) (T:=73) (fun _=>.head) Z<|fun ip=>yc (zn (zp .t1))<|zg<|y7 (γ:=Nat × Nat) [2,3,5,6,19,20,21,31,32] (fun g=>[(33,.int .i64 g.1)]) (fun g=>[(i6,.cells 60 [.str f.blocks[k].name,.own g.2 g.1,.raw (.slice none 0 0),.int .i64 f.blocks[k].term.kind,.int .i64 f.blocks[k].term.var,.int .i64 f.blocks[k].term.to0,.int .i64 f.blocks[k].term.to1]),(g.2,.grow 3 73 ((f.blocks[k].phis.take g.1).map bd).flatten),(i5,.cells 60 (bk f.blocks[k])),(ib,.grow 7 60 ((f.blocks.take k).map bk).flatten),(i3,.cells 26 [.fro 2 (f.vars.map b7),.fro 1 (f.params.map b5),.own ib k]),(i2,.cells 26 [.raw (.slice none 0 0),.raw (.slice none 0 0),.raw (.slice none 0 0)])]) (fun g=>g.1≤f.blocks[k].phis.length) (fun g=>f.blocks[k].phis.length - g.1) (0,ip) aW aN (qt _) ?_
   rintro ⟨m,ip⟩ hm
   try dsimp only at *
   refine ah<|ay Z Z<|z7<|zb<|zm Z (fun cm=>?_) (fun cm=>?_)
   ·have hm2:m<f.blocks[k].phis.length:=by omega
    obtain ⟨hp1,hp2⟩:=hb3 _ (qu hm2)
    refine ze<|zb<|zg<|ah<|za (q9 jx Z1 Z Z Z (qq (by omega)))<|ac Y0 Z1 Z Z<|zy (cs:=[.int .i64 0,.raw (.slice none 0 0),.raw (.slice none 0 0)]) Ze Z Z<|fun i8=>zt Z1 Z Z Z Z Z Z .head Z<|z7<|zq (fun j=>Nat.beq j 14) (by kernel_rfl) Z (zu (.r (.r (.rest _))))<|ak 0 Z (zc jh Z Zf (by decide) Z Z)<|ak 1 Z (zj (c:=.own _ _) Zv Z ⟨_,.t1⟩ Z)<|ak 2 Z (zc jq Z je (by decide) Z Z)<|ak 3 Z (zj (c:=.int _ _) jj Z ⟨_,.head⟩ Z)<|ak 4 Z (zc jq Z jm (by decide) Z Z)<|ak 5 Z (zj (c:=.fro _ _) jw Z ⟨_,.head⟩ Z)<|ak 7 Z (zc jq Z jm (by decide) Z Z)<|ak 8 Z (zj (c:=.fro _ _) jw Z ⟨_,.head⟩ Z)<|bO 6 Z<|zi (bZ _ (by omega)) Z<|z7<|bO 9 Z<|zi (bZ _ (by omega)) Z<|z7<|ak 10 Z (ya (cps:=[(0,[_]),(1,[_]),(2,[_])]) (rs:=[_,_,_]) I4 Z Z Z)<|bO 11 Z<|yf (rows:=[[_,_,_]]) D0 Z Z Z Z Z<|z7<|bO 12 Z<|ym (k:=3) jx type73 Z Z Z Z Z (fun _=>.head) (by rw[dE (k:=3) (fun _=>rfl),w3,Nat.min_eq_left hm]) (by decide) Z (by show (_+_)*56≤_;simp<;>omega) (by simp<;>omega)<|fun i49=>z7<|ak 13 Z (zc jh Z Zf (by decide) Z Z)<|yi<|yk (i:=14) Z (by kernel_rfl) (by kernel_rfl)<|yg (l:=[_]) (new:=[_,_,_,_,_,_,_]) Zf Z Z Z Z Z Z .t1 Z Z<|z7<|yl (by kernel_rfl)<|bi<|aC Z Z ?_
    refine aa Z<|z7 ?_
    exact ⟨(m+1,i49),tF,aW,⟨_,(.drop (.refl _)),by rw[←em (qr hm2)];rfl⟩,hm2,by dsimp only;omega⟩
   ·obtain rfl:m=f.blocks[k].phis.length:=by omega
    refine zz<|zb<|ah<|za (zc jh Z Zi (by decide) Z Z)<|za (zj (c:=.fro _ _) Zy Z ⟨_,.t2⟩ Z)<|ae jz Z<|aa Z<|z7<|di (off:=2) (k:=4) (T:=69) (fun _=>.head) Z<|fun ii=>zg<|y7 (γ:=Nat × Nat) [2,3,6,19,20,21,53,54] (fun g=>[(55,.int .i64 g.1)]) (fun g=>[(g.2,.grow 4 69 ((f.blocks[k].insts.take g.1).map bz).flatten),(i6,.cells 60 [.str f.blocks[k].name,.own ip f.blocks[k].phis.length,.own g.2 g.1,.int .i64 f.blocks[k].term.kind,.int .i64 f.blocks[k].term.var,.int .i64 f.blocks[k].term.to0,.int .i64 f.blocks[k].term.to1]),(ip,.grow 3 73 (f.blocks[k].phis.map bd).flatten),(i5,.cells 60 (bk f.blocks[k])),(ib,.grow 7 60 ((f.blocks.take k).map bk).flatten),(i3,.cells 26 [.fro 2 (f.vars.map b7),.fro 1 (f.params.map b5),.own ib k]),(i2,.cells 26 [.raw (.slice none 0 0),.raw (.slice none 0 0),.raw (.slice none 0 0)])]) (fun g=>g.1≤f.blocks[k].insts.length) (fun g=>f.blocks[k].insts.length - g.1) (0,ii) aW ⟨_,(.refl _),by rw[qv];rfl⟩ (qt _) ?_
    rintro ⟨m,ii⟩ hm
    try dsimp only at *
    refine ah<|ay Z Z<|z7<|zb<|zm Z (fun cm=>?_) (fun cm=>?_)
    ·have hm2:m<f.blocks[k].insts.length:=by omega
     have hp1:=hb4 _ (qu hm2)
     refine ze<|zb<|zg<|ah<|za (q9 jz Z5 Z Z Z (qq (by omega)))<|ac Yd Z5 Z Z<|zy (cs:=[.int .i64 0,.int .i64 0,.raw (.slice none 0 0),.int .i64 0]) Y3 Z Z<|fun i10=>zt Z5 Z Z Z Z Z Z .head Z<|z7<|ah<|za (zc jp Z jm (by decide) Z Z)<|za (zj (c:=.fro _ _) jw Z ⟨_,.head⟩ Z)<|zi (bZ _ (by omega)) Z<|za (zc jp Z jm (by decide) Z Z)<|yg (l:=[_]) (new:=[_,_,_,_]) jm Z Z Z Z Z Z .head Z Z<|z7<|bi<|za (zc jh Z Zi (by decide) Z Z)<|za (zj (c:=.own _ _) Zy Z ⟨_,.t2⟩ Z)<|za (qj Yd Z5 Z ⟨_,.head⟩ Z)<|yf (rows:=[[_,_,_,_]]) D1 Z Z Z Z Z<|ym (k:=4) jz type69 Z Z Z Z Z (fun _=>.t1) (by rw[dE (k:=4) (fun _=>rfl),w3,Nat.min_eq_left hm]) (by decide) Z (by show (_+_)*48≤_;simp<;>omega) (by simp<;>omega)<|fun i67=>za (zc jh Z Zi (by decide) Z Z)<|yg (l:=[_]) (new:=[_,_,_,_,_,_,_]) Zi Z Z Z Z Z Z .t2 Z Z<|z7<|bi<|aC Z Z<|aa Z<|z7 ?_
     exact ⟨(m+1,i67),vw,aW,⟨_,(.drop (.refl _)),by rw[←em (qr hm2)];rfl⟩,hm2,by dsimp only;omega⟩
    ·obtain rfl:m=f.blocks[k].insts.length:=by omega
     rw[qv]
     refine zz<|yc (aX.knowC (off:=1) (rows:=f.blocks[k].phis.map bd) .t2 .t1 Z (by simp[b5,b7,bd,bz,bk]) (by decide) (by simp))<|yc (aX.knowC (off:=2) (rows:=f.blocks[k].insts.map bz) .head .head Z (by simp[b5,b7,bd,bz,bk]) (by decide) (by simp))<|bi<|za (zc ji Z Z0 (by decide) Z Z)<|za (zj (c:=.own _ _) Z6 Z ⟨_,.t3⟩ Z)<|za (qj Zu jv Z ⟨_,.head⟩ Z)<|yf (rows:=[[_,_,_,_,_,_,_]]) oS Z Z Z Z Z<|ym (k:=7) jl type60 Z Z Z Z Z (fun _=>.t2) (by rw[dE (k:=7) (fun _=>rfl),w3,Nat.min_eq_left hk]) (by decide) Z (by show (_+_)*96≤_;simp<;>omega) (by simp<;>omega)<|fun i74=>za (zc ji Z Z0 (by decide) Z Z)<|yg (l:=[_]) (new:=[_,_,_]) Z0 Z Z Z Z Z Z .t3 Z Z<|z7<|bi<|aC Z Z<|aa Z<|z7 ?_
     exact ⟨(k+1,i74),gY,aW,⟨_,(.drop (.drop (.refl _))),by rw[←em (qr hk2)];rfl⟩,hk2,by dsimp only;omega⟩
  ·obtain rfl:k=f.blocks.length:=by omega
   rw[qv]
   refine zz<|ah<|za (qj js jk Z ⟨_,.t1⟩ Z)<|zt jk Z Z Z Z Z Z .t2 Z<|z7<|zf<|dh.c1 Z ⟨_,.t2⟩ js jk Z ?_
   exact ⟨ib,rfl,⟨_,.keep (.drop (.drop (.refl _))),rfl⟩,trivial⟩
end
section
open Go.Proofs.Tryz
open Go.Proofs Go.Lib Go.Shelf Go.RowKit
set_option maxRecDepth 20000
variable {E:World}
theorem vF (f:ab) (hf:small f):aZ prog E 21 [.agg (bQ f)] (.agg (bQ f)):=
 (ry f hf).know fun I F w v y O' ⟨i,e,hl,_⟩ h1 h2=>by
  subst e
  obtain ⟨J,h3,h4,h5⟩:=Go.Proofs.YtjpnhkmfhlnpcaaGreatDoor.know (m:=f.blocks.length) .head (by simp[bk]) (by decide) (by simp) (hl.sla h2)
  obtain ⟨vs,ev,v1,us1,e1,r1,v2,us2,e2,r2,v3,us3,e3,r3,r4⟩:=h1
  exact ⟨J,.agg (bQ f),[],h3,⟨vs,ev,v1,us1,e1,cf.mono h3 _ _ r1,v2,us2,e2,cf.mono h3 _ _ r2,v3,us3,e3,h5 _ r3,r4⟩,h4,rfl⟩
end
section
open Go.Proofs.Tryz
open Go.Proofs Go.Lib Go.Shelf Go.RowKit
set_option maxRecDepth 20000
variable {E:World}
def wV (l:List qH):Nat:=(l.map fun v=>v.name.size).sum
def wP (l:List bu):Nat:=(l.map fun p=>p.args.length+p.from_.length).sum
def wX (l:List bc):Nat:=(l.map fun x=>x.args.length).sum
def wB (b:aB):Nat:=b.name.size+10*(b.phis.length+b.insts.length)+wP b.phis+wX b.insts
def vG (l:List aB):Nat:=(l.map wB).sum
theorem Ge {l:List qH} {k:Nat} (h:k<l.length):wV (l.take (k+1))=wV (l.take k)+l[k].name.size:=by
 unfold wV;rw[qr h,List.map_append,List.sum_append];simp only[List.map_cons,List.map_nil,List.sum_cons,List.sum_nil,Nat.add_zero]
theorem Gf {l:List bu} {k:Nat} (h:k<l.length):wP (l.take (k+1))=wP (l.take k)+(l[k].args.length+l[k].from_.length):=by
 unfold wP;rw[qr h,List.map_append,List.sum_append];simp only[List.map_cons,List.map_nil,List.sum_cons,List.sum_nil,Nat.add_zero]
theorem Gg {l:List bc} {k:Nat} (h:k<l.length):wX (l.take (k+1))=wX (l.take k)+l[k].args.length:=by
 unfold wX;rw[qr h,List.map_append,List.sum_append];simp only[List.map_cons,List.map_nil,List.sum_cons,List.sum_nil,Nat.add_zero]
theorem tP {l:List aB} {k:Nat} (h:k<l.length):vG (l.take (k+1))=vG (l.take k)+wB l[k]:=by
 unfold vG;rw[qr h,List.map_append,List.sum_append];simp only[List.map_cons,List.map_nil,List.sum_cons,List.sum_nil,Nat.add_zero]
def xj (b:aB):Prop:=b.name.size≤400∧b.phis.length≤400∧b.insts.length≤400∧(∀p∈b.phis,p.args.length≤400∧p.from_.length≤400)∧∀x∈b.insts,x.args.length≤400
def iP (f:ab):Prop:=f.vars.length≤100∧f.blocks.length≤40∧f.params.length≤20∧(∀v∈f.vars,v.name.size≤400)∧(∀b∈f.blocks,xj b)∧(f.blocks≠[]→wV f.vars+vG f.blocks≤4000)
theorem iP.small {f:ab} (h:iP f):small f:=by
 obtain ⟨h1,h2,h3,h4,h5,_⟩:=h
 refine ⟨by omega,by omega,by omega,fun v hv=>by have:=h4 v hv;omega,fun b hb=>?_⟩
 obtain ⟨g1,g2,g3,g4,g5⟩:=h5 b hb
 exact ⟨by omega,by omega,by omega,fun p hp=>by have:=g4 p hp;omega,fun x hx=>by have:=g5 x hx;omega⟩
def wL {α:Type} (l:List α):Prop:=l.length≤9223372036854775807
def Kc (p:bu):Prop:=wL p.args∧wL p.from_
def Kd (b:aB):Prop:=wL b.phis∧wL b.insts∧(∀p∈b.phis,Kc p)∧(∀x∈b.insts,wL x.args)
def m1 (f:ab):Prop:=wL f.vars∧wL f.params∧wL f.blocks∧∀b∈f.blocks,Kd b
theorem wL.lt {α:Type} {l:List α} (h:wL l):l.length≤9223372036854775807:=h
def Cq (f:ab):Bool:=decide ((100:Int)<f.vars.length)||(decide ((40:Int)<f.blocks.length)||decide ((20:Int)<f.params.length))
def Cr (b:aB):Bool:=decide ((400:Int)<b.name.size)||(decide ((400:Int)<b.phis.length)||decide ((400:Int)<b.insts.length))
end
section
open Go.Proofs.Tryz
open Go.Proofs Go.Lib Go.Shelf Go.RowKit
set_option maxRecDepth 20000
variable {E:World}
end
section
open Go.Proofs.Tryz
open Go.Proofs Go.Lib Go.Shelf Go.RowKit
set_option maxRecDepth 20000
variable {E:World}
theorem Gh:∀r∈fI,r.1≠⟨#[]⟩:=by decide
theorem Gi {op:Int} (h:0≤op∧op≤26):(bM op).1≠⟨#[]⟩:=by
 have hm:bM op∈fI:=by
  unfold bM
  rw[if_pos h.1,qq (show _<27 by omega)]
  exact qu _
 exact Gh _ hm
theorem D3:∀j:Nat,j<27→oB (j:Int)=(decide ((bM (j:Int)).1=⟨#[99,111,110,115,116]⟩)||decide ((bM (j:Int)).1=⟨#[112,105]⟩)):=by decide
theorem rz {x:bc} (h:0≤x.op∧x.op≤26):jA x=oB x.op:=by
 have:=D3 x.op.toNat (by omega)
 rw[w8 h.1] at this
 unfold jA;exact this.symm
theorem mB (op:Int):(bw op).length=(bM op).2.1.size:=by unfold bw;rw[qx];exact Array.length_toList
theorem Cs (b:ByteArray):b.data.toList.isEmpty=decide (b=⟨#[]⟩):=by
 obtain ⟨⟨l⟩⟩:=b
 cases l<;>simp
theorem kw (op:Int):cQ op=!decide ((bM op).2.2=⟨#[]⟩):=by unfold cQ;rw[Cs]
theorem Ct {op:Int} (h:¬(0≤op∧op≤26)):bM op=(⟨#[]⟩,⟨#[]⟩,⟨#[]⟩):=tz (by unfold qE;simp;omega)
theorem oU (f:ab) (x:bc):cR f x=true↔oP f x:=by
 by_cases h:0≤x.op∧x.op≤26
 ·have hw:=Gi h
  have hn:=rz h
  unfold cR fv fK oP lh
  rw[mB,kw,hn]
  by_cases h1:x.args.length=(bM x.op).2.1.size<;>by_cases h2:(bM x.op).2.2=⟨#[]⟩<;>by_cases h3:x.dst=-1<;>by_cases h4:x.num=0<;>by_cases h5:x.args.all (bl f)=true<;>simp_all[Int.ofNat_inj]<;>(try (unfold bl;simp))<;>(try grind)
 ·constructor
  ·intro h2
   have:=Ct h
   unfold cR fv at h2
   rw[this] at h2;simp at h2
  ·intro h2;exact absurd ⟨h2.1,h2.2.1⟩ h
def only (f:ab) (x:bc):ab:={ f with blocks:=[⟨⟨#[111,110,108,121]⟩,[],[x],⟨0,0,0,0⟩⟩] }
def ended (f:ab) (b0:aB) (bs:List aB) (t:cC):ab:={ f with blocks:={ b0 with term:=t }::bs }
end
section
open Go.Proofs.Tryz
open Go.Proofs Go.Lib Go.Shelf Go.RowKit
set_option maxRecDepth 20000
variable {E:World}
def dN (c:Int):Bool:=isLetterU c&&!decide (c=65533)
def oV (c:Int):Bool:=decide (48≤c)&&decide (c≤57)
def dQ (c:Int):Bool:=dN c||(oV c||(decide (c=46)||decide (c=95)))
theorem lP (c:Int) (h1:-2147483648≤c) (h2:c≤2147483647) (hL:aj E):aZ prog E 189 [.int .i32 c] (.bool (dN c)):=by
 refine zo func189 Z (by decide) Z<|ah<|ad Z<|z7<|ah<|aa Z<|zi (jX c h1 h2 hL) Z<|ai Z<|zk (s:=5) Z (fun c1=>?_) (fun c1=>?_)
 ·refine z8 Z Z c1<|aa Z<|z8 Z Z c1<|za (yn Z Z)<|ap Z c1 Z<|ad Z<|z7<|zf<|zh (x:=.bool _) Z ?_
  exact jb (by simp_all[dN])
 ·refine z6 Z Z c1<|z6 Z Z c1<|al Z c1 Z<|ad Z<|z7<|zf<|zh (x:=.bool _) Z ?_
  exact jb (by simp_all[dN])
theorem tQ (c:Int):aZ prog E 198 [.int .i32 c] (.bool (oV c)):=by
 refine zo func198 Z (by decide) Z<|ah<|ad Z<|z7<|ah<|aa Z<|za (ql Z Z)<|ai Z<|zk (s:=5) Z (fun c2=>?_) (fun c2=>?_)
 ·refine z8 Z Z c2<|aa Z<|z8 Z Z c2<|za (Gv.leq Z Z)<|ap Z c2 Z<|ad Z<|z7<|zf<|zh (x:=.bool _) Z ?_
  exact jb (by simp_all[oV]<;>(intros;omega))
 ·refine z6 Z Z c2<|z6 Z Z c2<|al Z c2 Z<|ad Z<|z7<|zf<|zh (x:=.bool _) Z ?_
  exact jb (by simp_all[oV]<;>(intros;omega))
theorem m2 (c:Int) (h1:-2147483648≤c) (h2:c≤2147483647) (hL:aj E):aZ prog E 190 [.int .i32 c] (.bool (dQ c)):=by
 refine zo func190 Z (by decide) Z<|ah<|ad Z<|z7<|ah<|aa Z<|zi (lP c h1 h2 hL) Z<|ai Z<|zk (s:=5) Z (fun c3=>?_) (fun c3=>?_)
 ·refine z6 Z Z c3<|z6 Z Z c3<|ap Z c3 Z<|ai Z<|z6 Z Z Z<|z6 Z Z Z<|ap Z Z Z<|ai Z<|z6 Z Z Z<|z6 Z Z Z<|ap Z Z Z<|ad Z<|z7<|zf<|zh (x:=.bool _) Z ?_
  exact jb (by simp_all[dQ])
 ·refine z8 Z Z c3<|aa Z<|z8 Z Z c3<|zi (tQ _) Z<|al Z c3 Z<|ai Z<|zk (s:=9) Z (fun c4=>?_) (fun c4=>?_)
  ·refine z6 Z Z c4<|z6 Z Z c4<|ap Z c4 Z<|ai Z<|z6 Z Z Z<|z6 Z Z Z<|ap Z Z Z<|ad Z<|z7<|zf<|zh (x:=.bool _) Z ?_
   exact jb (by simp_all[dQ])
  ·refine z8 Z Z c4<|aa Z<|z8 Z Z c4<|ax Z Z<|al Z c4 Z<|ai Z<|zk (s:=13) Z (fun c5=>?_) (fun c5=>?_)
   ·refine z6 Z Z c5<|z6 Z Z c5<|ap Z c5 Z<|ad Z<|z7<|zf<|zh (x:=.bool _) Z ?_
    exact jb (by simp_all[dQ])
   ·refine z8 Z Z c5<|aa Z<|z8 Z Z c5<|ax Z Z<|al Z c5 Z<|ad Z<|z7<|zf<|zh (x:=.bool _) Z ?_
    exact jb (by simp_all[dQ])
def bH (s:ByteArray) (p:Nat):List Int:=if h:p<s.size then ((Utf8.decode s p).1:Int)::bH s (p+(Utf8.decode s p).2) else[]
termination_by s.size - p
decreasing_by have:=(dH s p).1;omega
theorem dY {s:ByteArray} {p:Nat} (h:p<s.size):bH s p=((Utf8.decode s p).1:Int)::bH s (p+(Utf8.decode s p).2):=by rw[bH,dif_pos h]
theorem cE {s:ByteArray} {p:Nat} (h:¬p<s.size):bH s p=[]:=by rw[bH,dif_neg h]
theorem qL (s:ByteArray):∀k p,s.size - p≤k→(bH s p).length≤k:=by
 intro k
 induction k with
 |zero=>intro p h;rw[cE (by omega)];simp
 |succ k ih=>
  intro p h
  by_cases hp:p<s.size
  ·rw[dY hp]
   have:=(dH s p).1
   have:=ih (p+(Utf8.decode s p).2) (by omega)
   simp;omega
  ·rw[cE hp];simp
theorem vH (s:ByteArray) (hs:s.size≤140737488355328):aZ prog E 191 [.str s] (.int .i64 (bH s 0).length):=by
 have h0:=qL s s.size 0 (by omega)
 refine zo func191 Z (by decide) Z<|ah<|aw Z<|z7<|ah<|aw Z<|z7<|zb<|ah<|za (yh (v:=.str _) Z)<|ao.rangeT Zg Z<|fun i5=>z7<|zg<|y7 (γ:=Nat × Nat) [5] (fun g=>[(3,.int .i64 g.2)]) (fun g=>[(i5,.iter s g.1)]) (fun g=>g.2+(bH s g.1).length=(bH s 0).length) (fun g=>s.size - g.1) (0,0) aW aN (by simp) ?_
 rintro ⟨p,n⟩ hp
 try dsimp only at *
 by_cases hlt:p<s.size
 ·have hd:=(dH s p).1
  rw[dY hlt] at hp
  simp only[List.length_cons] at hp
  refine ah<|ao.nextT Z .head hlt<|za (Im Z Z)<|z7<|zb<|yt Z Z<|ze<|zg<|bi<|aa Z<|aC Z Z<|aw Z<|z7 ?_
  exact ⟨(p+(Utf8.decode s p).2,n+1),aW,aW,aN,by dsimp only;omega,by dsimp only;omega⟩
 ·rw[cE hlt] at hp
  simp only[List.length_nil] at hp
  refine ah<|ao.nextTover Z .head hlt<|za (Im Z Z)<|z7<|zb<|yp Z Z<|zz<|ah<|aa Z<|aw Z<|z7<|zf<|zh (x:=.int _ _) Z ?_
  exact congrArg (AV.int .i64) (by omega)
def oW (s:ByteArray) (p:Nat):Bool:=if h:p<s.size then (if (decide (p=0)&&!dN ((Utf8.decode s p).1:Int))||!dQ ((Utf8.decode s p).1:Int) then false else oW s (p+(Utf8.decode s p).2)) else (decide (¬s=⟨#[]⟩)&&decide (((bH s 0).length:Int)≤16))
termination_by s.size - p
decreasing_by have:=(dH s p).1;omega
def dR (s:ByteArray):Bool:=oW s 0
theorem vI (s:ByteArray) (hs:s.size≤140737488355328) (hL:aj E):aZ prog E 177 [.str s] (.bool (dR s)):=by
 refine zo func177 Z (by decide) Z<|ah<|ad Z<|z7<|zb<|ah<|za (yh (v:=.str _) Z)<|ao.rangeT Zg Z<|fun i6=>z7<|zg<|y7 (γ:=Nat) [0,6] (fun p=>[]) (fun p=>[(i6,.iter s p)]) (fun p=>oW s p=dR s) (fun p=>s.size - p) 0 trivial aN (Z) ?_
 rintro p hp
 by_cases hlt:p<s.size
 ·obtain ⟨hd1,hd2⟩:=dH s p
  have hstep:=hp
  rw[oW,dif_pos hlt] at hstep
  refine ah<|ao.nextT Z .head hlt<|za (Im Z Z)<|z7<|zb<|yt Z Z<|ze<|zg<|ah<|za (DT Z Z)<|za (DT Z Z)<|aw Z<|aw Z<|z7<|ah<|aa Z<|ax Z Z<|ai Z<|zk (s:=13) Z (fun c6=>?_) (fun c6=>?_)
  ·refine z8 Z Z c6<|aa Z<|z8 Z Z c6<|zi (lP _ (by omega) (by omega) hL) Z<|z8 Z Z c6<|aD Z<|ap Z c6 Z<|ai Z<|zk (s:=18) Z (fun c7=>?_) (fun c7=>?_)
   ·refine z6 Z Z c7<|z6 Z Z c7<|z6 Z Z c7<|ap Z c7 Z<|z7<|yt Z Z<|ah<|ad Z<|z7<|zf<|zh (x:=.bool _) Z ?_
    rw[if_pos (by simp_all<;>omega)] at hstep;exact jb hstep
   ·refine z8 Z Z c7<|aa Z<|z8 Z Z c7<|zi (m2 _ (by omega) (by omega) hL) Z<|z8 Z Z c7<|aD Z<|al Z c7 Z<|z7<|zr Z (fun c8=>?_) (fun c8=>?_)
    ·refine ah<|ad Z<|z7<|zf<|zh (x:=.bool _) Z ?_
     rw[if_pos (by simp_all<;>omega)] at hstep;exact jb hstep
    ·refine ze ?_
     exact ⟨p+(Utf8.decode s p).2,eE,trivial,aN,by rw[if_neg (by simp_all<;>omega)] at hstep;exact hstep,by omega⟩
  ·refine z6 Z Z c6<|z6 Z Z c6<|z6 Z Z c6<|al Z c6 Z<|ai Z<|z8 Z Z Z<|aa Z<|z8 Z Z Z<|zi (m2 _ (by omega) (by omega) hL) Z<|z8 Z Z Z<|aD Z<|al Z Z Z<|z7<|zr Z (fun c9=>?_) (fun c9=>?_)
   ·refine ah<|ad Z<|z7<|zf<|zh (x:=.bool _) Z ?_
    rw[if_pos (by simp_all<;>omega)] at hstep;exact jb hstep
   ·refine ze ?_
    exact ⟨p+(Utf8.decode s p).2,eE,trivial,aN,by rw[if_neg (by simp_all<;>omega)] at hstep;exact hstep,by omega⟩
 ·rw[oW,dif_neg hlt] at hp
  refine ah<|ao.nextTover Z .head hlt<|za (Im Z Z)<|z7<|zb<|yp Z Z<|zz<|ah<|za (yh (v:=.str _) Z)<|za (Gv.neqT Z Z)<|ai Z<|zk (s:=25) Z (fun c10=>?_) (fun c10=>?_)
  ·refine z8 Z Z c10<|za (yh (v:=.str _) Z)<|z8 Z Z c10<|zi (vH _ (by assumption)) Z<|z8 Z Z c10<|za (Gv.leq Z Z)<|ap Z c10 Z<|ad Z<|z7<|zf<|zh (x:=.bool _) Z ?_
   rw[←hp];exact jb (by simp_all<;>(try omega))
  ·refine z6 Z Z c10<|z6 Z Z c10<|z6 Z Z c10<|al Z c10 Z<|ad Z<|z7<|zf<|zh (x:=.bool _) Z ?_
   rw[←hp];exact jb (by simp_all<;>(try omega))
end
section
open Go.Proofs.Tryz
open Go.Proofs Go.Lib Go.Shelf Go.RowKit
set_option maxRecDepth 20000
variable {E:World}
def iQ (t:Int):ByteArray:=if t=0 then ⟨#[105,110,116]⟩ else if t=1 then ⟨#[98,111,111,108]⟩ else if t=2 then ⟨#[97,114,114]⟩ else ⟨#[]⟩
theorem Gj (s:ByteArray):Ka s.data.toList=s:=by unfold Ka;simp
def xk:List Int→Bool
 |[]=>false
 |c::rs=>dN c&&(rs.all dQ&&decide (rs.length+1≤16))
theorem so {c:Int} (h:dN c=true):dQ c=true:=by unfold dQ;rw[h];rfl
theorem D4 (s:ByteArray):∀(n p:Nat),s.size - p≤n→0<p→p≤s.size→oW s p=((bH s p).all dQ&&decide ((bH s 0).length≤16)):=by
 intro n
 induction n with
 |zero=>
  intro p h hp hps
  have hne:¬s=⟨#[]⟩:=fun e=>by subst e;have:p≤0:=hps;omega
  rw[oW,dif_neg (by omega),cE (p:=p) (by omega)]
  simp[hne];omega
 |succ n ih=>
  intro p h hp hps
  by_cases hlt:p<s.size
  ·have hd:=(dH s p).1
   have hw:p+(Utf8.decode s p).2≤s.size:=by
    have:=decodeL_le (s.data.toList.drop p) (by intro e;have:=congrArg List.length e;rw[List.length_drop] at this;have h2:s.data.toList.length=s.size:=Array.length_toList;simp only[List.length_nil] at this;omega)
    rw[decodeL_drop,List.length_drop] at this
    have h2:s.data.toList.length=s.size:=Array.length_toList
    omega
   rw[oW,dif_pos hlt,dY hlt,List.all_cons]
   have hp0:decide (p=0)=false:=w5 (by omega)
   rw[hp0,Bool.false_and,Bool.false_or]
   cases hi:dQ ((Utf8.decode s p).1:Int) with
   |false=>simp
   |true=>rw[if_neg (by simp),ih _ (by omega) (by omega) hw];simp
  ·have hne:¬s=⟨#[]⟩:=fun e=>by subst e;have:p≤0:=hps;omega
   rw[oW,dif_neg hlt,cE (p:=p) hlt]
   simp[hne];omega
theorem Gk {s:ByteArray} {p:Nat} (hlt:p<s.size):p+(Utf8.decode s p).2≤s.size:=by
 have h2:s.data.toList.length=s.size:=Array.length_toList
 have:=decodeL_le (s.data.toList.drop p) (by intro e;have:=congrArg List.length e;rw[List.length_drop] at this;simp only[List.length_nil] at this;omega)
 rw[decodeL_drop,List.length_drop] at this
 omega
theorem vJ (s:ByteArray):dR s=xk (bH s 0):=by
 unfold dR
 by_cases hlt:0<s.size
 ·have hd:=(dH s 0).1
  have hw:=Gk hlt
  have hr:=dY hlt
  have hl:=congrArg List.length hr
  rw[List.length_cons] at hl
  rw[oW,dif_pos hlt]
  have h2:xk (bH s 0)=(dN ((Utf8.decode s 0).1:Int)&&((bH s (0+(Utf8.decode s 0).2)).all dQ&&decide ((bH s (0+(Utf8.decode s 0).2)).length+1≤16))):=by rw[hr];rfl
  rw[h2]
  cases hc:dN ((Utf8.decode s 0).1:Int) with
  |false=>simp
  |true=>
   rw[so hc,if_neg (by simp),D4 s _ _ (Nat.le_refl _) (by omega) hw,hl];rfl
 ·rw[oW,dif_neg hlt,cE hlt]
  have:s=⟨#[]⟩:=by
   have h2:s.data.toList.length=s.size:=Array.length_toList
   have h3:s.data.toList=[]:=List.eq_nil_of_length_eq_zero (by omega)
   rw[←Gj s,h3];rfl
  simp[this,xk]
theorem xl (k:Nat):(decide ((1:Int)≤((k+1:Nat):Int))&&decide (((k+1:Nat):Int)≤16))=(([]:List Int).all dQ&&decide (k+1+([]:List Int).length≤16)):=by
 rw[w4 (by omega),Bool.true_and]
 show _=(true&&_)
 rw[Bool.true_and,decide_eq_decide]
 show ((k+1:Nat):Int)≤16↔k+1+0≤16
 omega
theorem sq (s:ByteArray):∀(n p k:Nat),s.size - p≤n→dO s p (k+1)=((bH s p).all dQ&&decide (k+1+(bH s p).length≤16)):=by
 intro n
 induction n with
 |zero=>
  intro p k h
  rw[dO,dif_neg (by omega),cE (by omega)]
  exact xl k
 |succ n ih=>
  intro p k h
  by_cases hlt:p<s.size
  ·have hd:=(dH s p).1
   rw[dO,dif_pos hlt,dY hlt,List.all_cons]
   have ho:cS ((Utf8.decode s p).1:Int) (k+1)=dQ ((Utf8.decode s p).1:Int):=by
    unfold cS dQ dN oV
    have:decide (((k+1:Nat):Int)=0)=false:=w5 (by omega)
    rw[this];simp[Bool.or_assoc]
   rw[ho]
   cases hi:dQ ((Utf8.decode s p).1:Int) with
   |false=>simp
   |true=>rw[if_pos rfl,ih _ _ (by omega),Bool.true_and,List.length_cons];congr 2;simp;omega
  ·rw[dO,dif_neg hlt,cE hlt]
   exact xl k
theorem Gl (s:ByteArray):lN s=xk (bH s 0):=by
 unfold lN
 by_cases hlt:0<s.size
 ·rw[dO,dif_pos hlt,dY hlt]
  have ho:cS ((Utf8.decode s 0).1:Int) 0=dN ((Utf8.decode s 0).1:Int):=by unfold cS dN;simp
  rw[ho]
  show _=(dN ((Utf8.decode s 0).1:Int)&&_)
  cases hc:dN ((Utf8.decode s 0).1:Int) with
  |false=>simp
  |true=>rw[if_pos rfl,sq s _ _ _ (Nat.le_refl _),Bool.true_and];congr 2;simp;omega
 ·rw[dO,dif_neg hlt,cE hlt];rfl
theorem nS (s:ByteArray):lN s=dR s:=by rw[Gl,vJ]
structure eu (f:ab) (x:bc):Prop where
 op:0≤x.op∧x.op≤26
 len:x.args.length=(bw x.op).length
 dst:(cQ x.op=false∧x.dst=-1)∨(cQ x.op=true∧x.dst≠-1∧bl f x.dst=true)
 num:oB x.op=false→x.num=0
 args:∀a∈x.args,bl f a=true
theorem lQ {f:ab} {x:bc} (h:oP f x):eu f x:=by
 obtain ⟨h1,h2,h3,h4⟩:=h
 have hw:=rz ⟨h1,h2⟩
 unfold lh at h3
 simp only[Bool.or_eq_false_iff,Bool.not_eq_false',wa,Bool.and_eq_false_iff,beq_iff_eq] at h3
 obtain ⟨g1,g2,g3,g4⟩:=h3
 refine ⟨⟨h1,h2⟩,by rw[mB];omega,?_,fun hn=>?_,List.all_eq_true.1 h4⟩
 ·rw[kw]
  by_cases hd:x.dst=-1
  ·left
   rw[w4 hd] at g2
   exact ⟨by rw[g2];rfl,hd⟩
  ·right
   rw[w5 hd] at g2
   refine ⟨by rw[g2];rfl,hd,?_⟩
   rcases g3 with g|g
   ·exact absurd g hd
   ·exact g
 ·rcases g4 with g|g
  ·exact g
  ·rw[hw,hn] at g;cases g
theorem tR (t:Int):aZ prog E 143 [.int .i64 t] (.str (iQ t)):=by
 refine zo func143 Z (by decide) Z<|ah<|za (yd (v:=.str _) Z)<|z7<|zb<|ah<|aa Z<|z7<|zg<|ah<|ax Z Z<|ad Z<|z7<|zr Z (fun c1=>?_) (fun c1=>?_)
 ·refine ah<|za (yd (v:=.str _) Z)<|z7<|zf<|zh (x:=.str _) Z ?_
  exact congrArg AV.str (by simp_all[iQ])
 ·refine ah<|ax Z Z<|ad Z<|z7<|zr Z (fun c2=>?_) (fun c2=>?_)
  ·refine ah<|za (yd (v:=.str _) Z)<|z7<|zf<|zh (x:=.str _) Z ?_
   exact congrArg AV.str (by simp_all[iQ])
  ·refine ah<|ax Z Z<|ad Z<|z7<|zr Z (fun c3=>?_) (fun c3=>?_)
   ·refine ah<|za (yd (v:=.str _) Z)<|z7<|zf<|zh (x:=.str _) Z ?_
    exact congrArg AV.str (by simp_all[iQ])
   ·refine ze<|ah<|za (yd (v:=.str _) Z)<|z7<|zf<|zh (x:=.str _) Z ?_
    exact congrArg AV.str (by simp_all[iQ])
end
section
open Go.Proofs.Tryz
open Go.Proofs Go.Lib Go.Shelf Go.RowKit
theorem xm:dw prog 213 9 1 1 [.str ⟨#[]⟩]:=⟨_,Y1,Zh,zeroValue9,by decide,by decide,by kernel_rfl⟩
set_option maxRecDepth 20000
variable {E:World}
def tS (s:ByteArray) (l:List ByteArray):Bool:=l.any fun t=>decide (t=s)
theorem xn {s:ByteArray} {l:List ByteArray}:tS s l=true↔s∈l:=by
 unfold tS;rw[List.any_eq_true]
 constructor
 ·rintro ⟨x,hx,h⟩;have h:x=s:=by simpa using h
  exact h▸hx
 ·intro h;exact ⟨s,h,by simp⟩
theorem D5 {s t:ByteArray} {l:List ByteArray}:tS s (l++[t])=(tS s l||decide (t=s)):=by unfold tS;rw[List.any_append];simp
def vK (l:List ByteArray):Prop:=∀i (h:i<l.length),dR l[i]=true∧tS l[i] (l.take i)=false
instance (l:List ByteArray):Decidable (vK l):=by unfold vK;infer_instance
theorem xo {t:ByteArray} {l:List ByteArray} {mt:Int} (ht:mt=if tS t l=true then 1 else 0) (hc:decide (0<mt)=false):tS t l=false:=by
 have hc:=of_decide_eq_false hc
 cases h:tS t l with
 |true=>rw[h] at ht;simp at ht;omega
 |false=>rfl
theorem D6 {s t:ByteArray} {l:List ByteArray} {m:Option Int} {mt:Int} (hs:m.getD 0=if tS s l=true then 1 else 0) (ht:mt=if tS t l=true then 1 else 0) (hc:decide (0<mt)=false) :
  (if s=t then some (mt+1) else m).getD 0=if (tS s l||decide (t=s))=true then 1 else 0:=by
 have h:=xo ht hc
 rw[h] at ht
 have ht:mt=0:=by simpa using ht
 by_cases e:s=t
 ·subst e;simp[ht]
 ·rw[if_neg e,hs]
  have e2:¬t=s:=fun h=>e h.symm
  simp[e2]
theorem D7 {l:List ByteArray} {k:Nat} (hn:∀i (h:i<l.length),i<k→dR l[i]=true∧tS l[i] (l.take i)=false) (hk:k<l.length) (h1:dR l[k]=true) (h2:tS l[k] (l.take k)=false) :
  ∀i (h:i<l.length),i<k+1→dR l[i]=true∧tS l[i] (l.take i)=false:=fun i h hi=>by
 by_cases e:i=k
 ·subst e;exact ⟨h1,h2⟩
 ·exact hn i h (by omega)
theorem m3 (l:List ByteArray) (hl:l.length≤100000000) (hs:∀s∈l,s.size≤140737488355328) (hL:aj E):aZ prog E 144 [.fro 1 (l.map qK)] (.bool (decide (vK l))):=by
 refine zo func144 Z (by decide) Z<|ah<|ad Z<|z7<|ah<|ao.makeMap<|fun b6=>za (yd (v:=Cd _) Z)<|z7<|zb<|ah<|bC Z<|ae Y1 Z<|aa Z<|z7<|zg<|y7 (γ:=Nat × List (ByteArray × Int)) [3,7,8] (fun g=>[(9,.int .i64 g.1)]) (fun g=>[(0,Cc b6 g.2)]) (fun g=>g.1≤l.length∧(∀i (h:i<l.length),i<g.1→dR l[i]=true∧tS l[i] (l.take i)=false)∧∀s,(jF s g.2).getD 0=if tS s (l.take g.1)=true then 1 else 0) (fun g=>l.length - g.1) (0,[]) aW aN (⟨qt _,fun i h h2=>absurd h2 (Nat.not_lt_zero _),fun s=>Z⟩) ?_
 rintro ⟨k,es⟩ ⟨hk,hn,hm⟩
 try dsimp only at *
 refine ah<|ay Z Z<|z7<|zb<|zm Z (fun ck=>?_) (fun ck=>?_)
 ·have hk2:k<l.length:=by omega
  have hmk:=hm l[k]
  have hz:=hs _ (qu hk2)
  refine ze<|zb<|zg<|ah<|za (cH k Y1 Zh Z Z Z (qq hk2))<|za (qg (c:=.str _) Zr Z)<|za (yd (v:=.str _) Z)<|z7<|zb<|ah<|za (yh (v:=.str _) Z)<|zi (vI _ hz hL) Z<|aD Z<|ai Z<|zk (s:=16) Z (fun c1=>?_) (fun c1=>?_)
  ·refine z6 Z Z c1<|z6 Z Z c1<|z6 Z Z c1<|z6 Z Z c1<|ap Z c1 Z<|z7<|yt Z Z<|ah<|ad Z<|z7<|zf<|zh (x:=.bool _) Z ?_
   exact jb (w5 fun h=>by have h:=h k hk2;simp_all).symm
  ·refine z8 Z Z c1<|za (yh (v:=Cd _) Z)<|z8 Z Z c1<|za (yh (v:=.str _) Z)<|z8 Z Z c1<|za (Gv.lookup1S underlying258 Zg Yj Z Z ⟨_,.head⟩)<|z8 Z Z c1<|za (yy Z Z)<|al Z c1 Z<|z7<|zr Z (fun c2=>?_) (fun c2=>?_)
   ·refine ah<|ad Z<|z7<|zf<|zh (x:=.bool _) Z ?_
    exact jb (w5 fun h=>by have h:=h k hk2;simp_all).symm
   ·refine ze<|bi<|za (yh (v:=Cd _) Z)<|za (yh (v:=.str _) Z)<|za (Gv.lookup1S underlying258 Zg Yj Z Z ⟨_,.head⟩)<|za (Gv.add Z Z (by first|(unfold ko;omega)|(unfold ko;rw[hmk];split<;>omega)))<|ao.mapSet underlying258 Zg Z Z Z .head<|z7<|bi<|za (Gv.add Z Z (by first|(unfold ko;omega)|(unfold ko;rw[hmk];split<;>omega)))<|aa Z<|z7 ?_
    exact ⟨(k+1,nq l[k] ((jF l[k] es).getD 0+1) es),hZ,aW,aN,⟨hk2,D7 hn hk2 (by simpa using c1) (xo hmk (by assumption)),fun s=>by dsimp only;rw[tG,qr hk2,D5];exact D6 (hm s) hmk (by assumption)⟩,by dsimp only;omega⟩
 ·have hkn:k=l.length:=by omega
  refine zz<|ah<|ad Z<|z7<|zf<|zh (x:=.bool _) Z ?_
  exact jb (w4 fun i h=>hn i h (by omega)).symm
theorem map_take {α:Type} {g:α→ByteArray} {l:List α} {k:Nat} (h:k<l.length):(l.map g).take (k+1)=(l.map g).take k++[g l[k]]:=by
 rw[qr (by simpa using h)];simp
def cZ (f:ab):List ByteArray:=f.vars.map qH.name
def dn (f:ab):List ByteArray:=f.blocks.map aB.name
@[simp] theorem Lo (f:ab):(cZ f).length=f.vars.length:=by unfold cZ;simp
@[simp] theorem Lp (f:ab):(dn f).length=f.blocks.length:=by unfold dn;simp
theorem Gm {f:ab} {k:Nat} (h:k<f.vars.length):(cZ f).take (k+1)=(cZ f).take k++[f.vars[k].name]:=map_take h
theorem Gn {f:ab} {k:Nat} (h:k<f.blocks.length):(dn f).take (k+1)=(dn f).take k++[f.blocks[k].name]:=map_take h
def Gp (f:ab):Prop:=∀i (h:i<f.params.length),f.params[i]=(i:Int)
instance (f:ab):Decidable (Gp f):=by unfold Gp;infer_instance
def Gq (f:ab):Prop:=∀i (h:i<f.vars.length),¬iQ f.vars[i].ty=⟨#[]⟩
instance (f:ab):Decidable (Gq f):=by unfold Gq;infer_instance
def kS (f:ab):Prop:=f.vars.length≤512∧f.params.length≤8∧f.params.length≤f.vars.length∧1≤f.blocks.length∧f.blocks.length≤64
instance (f:ab):Decidable (kS f):=by unfold kS;infer_instance
def e9 (f:ab):Prop:=Gq f∧Gp f∧kS f∧vK (cZ f)∧vK (dn f)
instance (f:ab):Decidable (e9 f):=by unfold e9;infer_instance
theorem tT (f:ab) (h1:f.vars.length≤100000000) (h2:f.blocks.length≤100000000) (hp:f.params.length≤100000000) (hn:lO f) (hL:aj E):aZ prog E 105 [.agg (bQ f)] (.bool (decide (e9 f))):=by
 have hnv:(cZ f).length=f.vars.length:=by unfold cZ;simp
 have hnb:(dn f).length=f.blocks.length:=by unfold dn;simp
 refine zo func105 Z (by decide) Z<|ah<|yb (cs:=_) Z Z Z<|ad Z<|z7<|ah<|za (rv Z)<|za (rv Z)<|z7<|jR (t:=3) (k:=1) (T:=9) Z<|fun i3=>jR (t:=4) (k:=1) (T:=9) Z<|fun i4=>zb<|ah<|aq ji Z Y6 Z Z<|aM Yg Z<|ae Zb Z<|aa Z<|z7<|zg<|y7 (γ:=Nat × Nat) [1,4,12,13] (fun g=>[(3,.own g.2 g.1),(14,.int .i64 g.1)]) (fun g=>[(i4,.grow 1 9 []),(g.2,.grow 1 9 ((((cZ f).take g.1).map qK).flatten))]) (fun g=>g.1≤f.vars.length∧∀i (h:i<f.vars.length),i<g.1→¬iQ f.vars[i].ty=⟨#[]⟩) (fun g=>f.vars.length - g.1) (0,i3) eE aN (⟨qt _,fun i h h2=>absurd h2 (Nat.not_lt_zero _)⟩) ?_
 rintro ⟨k,i⟩ ⟨hk,hT⟩
 try dsimp only at *
 refine ah<|ay Z Z<|z7<|zb<|zm Z (fun ck=>?_) (fun ck=>?_)
 ·have hk2:k<f.vars.length:=by simp at ck;omega
  refine ze<|zb<|zg<|ah<|za (cH k Zb Y7 Z Z Z (qq hk2))<|ac isAgg66 Y7 Z Z<|zy (cs:=[.str ⟨#[]⟩,.int .i64 0]) zeroValue66 Z Z<|fun i6=>zt Y7 Z Z Z Z Z Z .head Z<|z7<|ah<|za (kP Z)<|za (zc Zm Z Zh (by decide) Z Z)<|za (zj (c:=.str _) Zr Z ⟨_,.head⟩ Z)<|yf (rows:=[[_]]) xm Z Z Z Z Z<|ym (k:=1) Y1 type9 Z Z Z Z Z (fun _=>.t2) (by rw[dE (k:=1) (fun _=>rfl),w3];omega) (by decide) Z (by show (_+1)*16≤_;omega) (by show _+1≤_;omega)<|fun i22=>za (ef Z)<|z7<|ah<|za (zc Zm Z sizeOf64 (by decide) Z Z)<|za (zj (c:=.int _ _) isAgg64 Z ⟨_,.head⟩ Z)<|zi (tR _) Z<|za (yz Z Z)<|z7<|zm Z (fun ct=>?_) (fun ct=>?_)
  ·refine ah<|ad Z<|z7<|zf<|zh (x:=.bool _) Z ?_
   exact jb (w5 fun h=>h.1 k hk2 (by simpa using ct)).symm
  ·refine ze<|bi<|aC Z Z<|aa Z<|z7 ?_
   exact ⟨(k+1,i22),gY,eE,⟨_,(.drop (.refl _)),by dsimp only;rw[←em (enc:=qK) (Gm hk2)];rfl⟩,⟨hk2,fun i h h2=>by by_cases e:i=k;(subst e;simpa using ct);exact hT i h (by dsimp only at h2;omega)⟩,by dsimp only;omega⟩
 ·have hkn:k=f.vars.length:=by simp at ck;omega
  subst hkn
  rw[List.take_of_length_le (by omega:(cZ f).length≤f.vars.length)]
  have hTys:Gq f:=fun i h=>hT i h h
  refine zz<|zb<|ah<|aq ji Z Z0 Z Z<|aM Z6 Z<|ae jl Z<|aa Z<|z7<|zg<|y7 (γ:=Nat × Nat) [1,3,29,30] (fun g=>[(4,.own g.2 g.1),(31,.int .i64 g.1)]) (fun g=>[(g.2,.grow 1 9 ((((dn f).take g.1).map qK).flatten)),(i,.grow 1 9 (((cZ f).map qK).flatten))]) (fun g=>g.1≤f.blocks.length) (fun g=>f.blocks.length - g.1) (0,i4) eE aN (qt _) ?_
  rintro ⟨k,j⟩ hk
  try dsimp only at *
  refine ah<|ay Z Z<|z7<|zb<|zm Z (fun ck=>?_) (fun ck=>?_)
  ·have hk2:k<f.blocks.length:=by simp at ck;omega
   refine ze<|zb<|zg<|ah<|za (cH k jl jv Z Z Z (qq hk2))<|ac Zu jv Z Z<|zy (cs:=[.str ⟨#[]⟩,.raw (.slice none 0 0),.raw (.slice none 0 0),.int .i64 0,.int .i64 0,.int .i64 0,.int .i64 0]) Zc Z Z<|fun i8=>zt jv Z Z Z Z Z Z .head Z<|z7<|bi<|za (kP Z)<|za (zc jh Z Zh (by decide) Z Z)<|za (zj (c:=.str _) Zr Z ⟨_,.head⟩ Z)<|yf (rows:=[[_]]) xm Z Z Z Z Z<|ym (k:=1) Y1 type9 Z Z Z Z Z (fun _=>.t1) (by rw[dE (k:=1) (fun _=>rfl),w3];omega) (by decide) Z (by show (_+1)*16≤_;omega) (by show _+1≤_;omega)<|fun i39=>za (ef Z)<|z7<|bi<|aC Z Z<|aa Z<|z7 ?_
   exact ⟨(k+1,i39),gY,eE,⟨_,(.drop (.refl _)),by dsimp only;rw[←em (enc:=qK) (Gn hk2)];rfl⟩,hk2,by dsimp only;omega⟩
  ·have hkn:k=f.blocks.length:=by simp at ck;omega
   subst hkn
   rw[List.take_of_length_le (by omega:(dn f).length≤f.blocks.length)]
   refine zz<|zb<|ah<|aq ji Z jm Z Z<|aM jw Z<|ae jd Z<|aa Z<|z7<|zg<|y7 (γ:=Nat) [1,3,4,42,43] (fun k=>[(44,.int .i64 k)]) (fun k=>[(j,.grow 1 9 (((dn f).map qK).flatten)),(i,.grow 1 9 (((cZ f).map qK).flatten))]) (fun k=>k≤f.params.length∧∀i (h:i<f.params.length),i<k→f.params[i]=(i:Int)) (fun k=>f.params.length - k) 0 aW aN (⟨qt _,fun i h h2=>absurd h2 (Nat.not_lt_zero _)⟩) ?_
   rintro k ⟨hk,hP⟩
   refine ah<|ay Z Z<|z7<|zb<|zm Z (fun ck=>?_) (fun ck=>?_)
   ·have hk2:k<f.params.length:=by simp at ck;omega
    refine ze<|zb<|zg<|ah<|aa Z<|za (cH k jd je Z Z Z (qq hk2))<|aE jj Z<|aw Z<|aw Z<|z7<|ah<|aa Z<|aa Z<|za (yn Z Z)<|z7<|zr Z (fun cp=>?_) (fun cp=>?_)
    ·refine ah<|ad Z<|z7<|zf<|zh (x:=.bool _) Z ?_
     exact jb (w5 fun h=>by have:=h.2.1 k hk2;simp[this] at cp).symm
    ·refine ze<|bi<|aC Z Z<|aa Z<|z7 ?_
     exact ⟨k+1,vv,aW,aN,⟨hk2,fun i h h2=>by by_cases e:i=k;(subst e;simpa using cp);exact hP i h (by omega)⟩,by omega⟩
   ·have hkn:k=f.params.length:=by simp at ck;omega
    subst hkn
    have hPar:Gp f:=fun i h=>hP i h h
    refine yc (aX.know (t:=3) (rows:=(cZ f).map qK) Z .t1 (by intro r hr;obtain ⟨x,_,rfl⟩:=List.mem_map.1 hr;rfl) (by decide) (by simp))<|yc (aX.know (t:=4) (rows:=(dn f).map qK) Z .head (by intro r hr;obtain ⟨x,_,rfl⟩:=List.mem_map.1 hr;rfl) (by decide) (by simp))<|zz<|ah<|bC Z<|ae Y1 Z<|za (Gv.leq Z Z)<|ai Z<|zk (s:=56) Z (fun c3=>?_) (fun c3=>?_)
    ·refine z8 Z Z c3<|aq ji Z jm Z Z<|z8 Z Z c3<|aM jw Z<|z8 Z Z c3<|ae jd Z<|z8 Z Z c3<|bC Z<|z8 Z Z c3<|ae Y1 Z<|z8 Z Z c3<|za (Gv.minI Z Z)<|z8 Z Z c3<|za (Gv.leq Z Z)<|ap Z c3 Z<|ai Z<|zk (s:=65) Z (fun c4=>?_) (fun c4=>?_)
     ·refine z8 Z Z c4<|bC Z<|z8 Z Z c4<|ae Y1 Z<|z8 Z Z c4<|za (ql Z Z)<|ap Z c4 Z<|ai Z<|zk (s:=70) Z (fun c5=>?_) (fun c5=>?_)
      ·refine z8 Z Z c5<|bC Z<|z8 Z Z c5<|ae Y1 Z<|z8 Z Z c5<|za (Gv.leq Z Z)<|ap Z c5 Z<|ai Z<|zk (s:=75) Z (fun c6=>?_) (fun c6=>?_)
       ·refine z8 Z Z c6<|bC Z<|z8 Z Z c6<|zi (m3 (cZ f) (by omega) (fun s hs=>by obtain ⟨v,hv,rfl⟩:=List.mem_map.1 hs;exact hn.1 v hv) hL) Z<|ap Z c6 Z<|ai Z<|zk (s:=79) Z (fun c7=>?_) (fun c7=>?_)
        ·refine z8 Z Z c7<|bC Z<|z8 Z Z c7<|zi (m3 (dn f) (by omega) (fun s hs=>by obtain ⟨v,hv,rfl⟩:=List.mem_map.1 hs;exact hn.2 v hv) hL) Z<|ap Z c7 Z<|ad Z<|z7<|zf<|zh (x:=.bool _) Z ?_
         exact jb (by unfold e9 kS;simp_all<;>grind)
        ·refine z6 Z Z c7<|z6 Z Z c7<|al Z c7 Z<|ad Z<|z7<|zf<|zh (x:=.bool _) Z ?_
         exact jb (by unfold e9 kS;simp_all<;>grind)
       ·refine z6 Z Z c6<|z6 Z Z c6<|al Z c6 Z<|ai Z<|z6 Z Z Z<|z6 Z Z Z<|al Z Z Z<|ad Z<|z7<|zf<|zh (x:=.bool _) Z ?_
        exact jb (by unfold e9 kS;simp_all<;>grind)
      ·refine z6 Z Z c5<|z6 Z Z c5<|z6 Z Z c5<|al Z c5 Z<|ai Z<|z6 Z Z Z<|z6 Z Z Z<|al Z Z Z<|ai Z<|z6 Z Z Z<|z6 Z Z Z<|al Z Z Z<|ad Z<|z7<|zf<|zh (x:=.bool _) Z ?_
       exact jb (by unfold e9 kS;simp_all<;>grind)
     ·refine z6 Z Z c4<|z6 Z Z c4<|z6 Z Z c4<|al Z c4 Z<|ai Z<|z6 Z Z Z<|z6 Z Z Z<|z6 Z Z Z<|al Z Z Z<|ai Z<|z6 Z Z Z<|z6 Z Z Z<|al Z Z Z<|ai Z<|z6 Z Z Z<|z6 Z Z Z<|al Z Z Z<|ad Z<|z7<|zf<|zh (x:=.bool _) Z ?_
      exact jb (by unfold e9 kS;simp_all<;>grind)
    ·refine z6 Z Z c3<|z6 Z Z c3<|z6 Z Z c3<|z6 Z Z c3<|z6 Z Z c3<|z6 Z Z c3<|z6 Z Z c3<|al Z c3 Z<|ai Z<|z6 Z Z Z<|z6 Z Z Z<|z6 Z Z Z<|al Z Z Z<|ai Z<|z6 Z Z Z<|z6 Z Z Z<|z6 Z Z Z<|al Z Z Z<|ai Z<|z6 Z Z Z<|z6 Z Z Z<|al Z Z Z<|ai Z<|z6 Z Z Z<|z6 Z Z Z<|al Z Z Z<|ad Z<|z7<|zf<|zh (x:=.bool _) Z ?_
     exact jb (by unfold e9 kS;simp_all<;>grind)
def jB (f:ab) (p:bu):Bool:=!decide (p.args.length=0)&&decide (p.args.length=p.from_.length)&&bl f p.dst&&p.args.all (bl f)&&p.from_.all (du f)
theorem Cu (f:ab) (v:Int):aZ prog E 148 ([.int .i64 v]++[.pf (bQ f)]) (.bool (!du f v)):=by
 refine zo func148 Z (by decide) Z<|ah<|ad Z<|z7<|ah<|ac js jk Z Z<|aa Z<|zi (nP _ _) Z<|aD Z<|ad Z<|z7<|zf<|zh (x:=.bool _) Z ?_
 rfl
theorem D8 (f:ab) (p:bu) (hp:xf p):aZ prog E 108 [.agg (bQ f),.agg (bd p)] (.bool (jB f p)):=by
 have hl1:=hp.1.lt
 have hl2:=hp.2.lt
 refine zo func108 Z (by decide) Z<|ah<|yb (cs:=_) Z Z Z<|yb (cs:=_) Z Z Z<|ad Z<|z7<|zb<|ah<|aq jq Z jm Z Z<|aM jw Z<|ae jd Z<|ax Z Z<|ai Z<|zk (s:=9) Z (fun c8=>?_) (fun c8=>?_)
 ·refine z6 Z Z c8<|z6 Z Z c8<|z6 Z Z c8<|z6 Z Z c8<|z6 Z Z c8<|z6 Z Z c8<|z6 Z Z c8<|ap Z c8 Z<|ai Z<|z6 Z Z Z<|z6 Z Z Z<|z6 Z Z Z<|z6 Z Z Z<|z6 Z Z Z<|ap Z Z Z<|ai Z<|z6 Z Z Z<|z6 Z Z Z<|z6 Z Z Z<|z6 Z Z Z<|z6 Z Z Z<|ap Z Z Z<|z7<|yt Z Z<|ah<|ad Z<|z7<|zf<|zh (x:=.bool _) Z ?_
  exact jb (by have:=List.any_eq_not_all_not (l:=p.from_) (p:=fun x=>!du f x);simp_all[jB,Int.ofNat_inj]<;>grind)
 ·refine z8 Z Z c8<|aq jq Z jm Z Z<|z8 Z Z c8<|aM jw Z<|z8 Z Z c8<|ae jd Z<|z8 Z Z c8<|aq jq Z jm Z Z<|z8 Z Z c8<|aM jw Z<|z8 Z Z c8<|ae jd Z<|z8 Z Z c8<|za (yn Z Z)<|al Z c8 Z<|ai Z<|zk (s:=18) Z (fun c9=>?_) (fun c9=>?_)
  ·refine z6 Z Z c9<|z6 Z Z c9<|z6 Z Z c9<|z6 Z Z c9<|z6 Z Z c9<|ap Z c9 Z<|ai Z<|z6 Z Z Z<|z6 Z Z Z<|z6 Z Z Z<|z6 Z Z Z<|z6 Z Z Z<|ap Z Z Z<|z7<|yt Z Z<|ah<|ad Z<|z7<|zf<|zh (x:=.bool _) Z ?_
   exact jb (by have:=List.any_eq_not_all_not (l:=p.from_) (p:=fun x=>!du f x);simp_all[jB,Int.ofNat_inj]<;>grind)
  ·refine z8 Z Z c9<|ac js jk Z Z<|z8 Z Z c9<|aq jq Z je Z Z<|z8 Z Z c9<|aE jj Z<|z8 Z Z c9<|zi (jT _ _) Z<|z8 Z Z c9<|aD Z<|al Z c9 Z<|ai Z<|zk (s:=25) Z (fun c10=>?_) (fun c10=>?_)
   ·refine z6 Z Z c10<|z6 Z Z c10<|z6 Z Z c10<|z6 Z Z c10<|z6 Z Z c10<|ap Z c10 Z<|z7<|yt Z Z<|ah<|ad Z<|z7<|zf<|zh (x:=.bool _) Z ?_
    exact jb (by have:=List.any_eq_not_all_not (l:=p.from_) (p:=fun x=>!du f x);simp_all[jB,Int.ofNat_inj]<;>grind)
   ·refine z8 Z Z c10<|ac js jk Z Z<|z8 Z Z c10<|aq jq Z jm Z Z<|z8 Z Z c10<|aM jw Z<|z8 Z Z c10<|zi (rl f p.args (by omega)) Z<|z8 Z Z c10<|aD Z<|al Z c10 Z<|z7<|zr Z (fun c11=>?_) (fun c11=>?_)
    ·refine ah<|ad Z<|z7<|zf<|zh (x:=.bool _) Z ?_
     exact jb (by have:=List.any_eq_not_all_not (l:=p.from_) (p:=fun x=>!du f x);simp_all[jB,Int.ofNat_inj]<;>grind)
    ·refine ze<|ah<|aq jq Z jm Z Z<|aM jw Z<|za (Gv.func Z Z)<|zi (fW p.from_ (by omega) (Cu f)) Z<|aD Z<|ad Z<|z7<|zf<|zh (x:=.bool _) Z ?_
     exact jb (by have:=List.any_eq_not_all_not (l:=p.from_) (p:=fun x=>!du f x);simp_all[jB,Int.ofNat_inj]<;>grind)
end
end Go.Proofs.YtjpnhkmfhlnpcaaGreatDoor
