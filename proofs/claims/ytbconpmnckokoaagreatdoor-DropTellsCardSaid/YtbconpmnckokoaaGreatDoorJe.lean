/- Appending zeros to nothing; the capacity of nothing. No conditions. -/
import Derived.Test.YtbconpmnckokoaaGreatDoorJd
import Derived.ProofKit
import Derived.OpenShut
import Derived.Deep.Matrix
import Derived.Lib.LaidU8
import Derived.Lib.LaidTab
import Derived.MapKept
import Derived.WideMake
import Derived.Laws.Cover4
import Derived.Test.YtbconpmnckokoaaGreatDoorJc
import Derived.WideLaws
import Derived.Lib.AppendZeros
set_option linter.unusedVariables false
set_option linter.unusedSimpArgs false
set_option linter.unusedSectionVars false
namespace Go.Proofs.YtbconpmnckokoaaGreatDoor
section
open Go.Proofs.Tryz
open Go.Proofs Go.Lib Go.Shelf Go.RowKit
theorem sj:fV prog 26 #[(0,1),(1,1),(2,1)] [.raw (.slice none 0 0),.raw (.slice none 0 0),.raw (.slice none 0 0)]:=⟨_,_,j4,jv,fun w=>by kernel_rfl,rfl⟩
theorem zU:fV prog 62 #[(0,1),(1,1),(2,1),(3,4)] [.str ⟨#[]⟩,.raw (.slice none 0 0),.raw (.slice none 0 0),.int .i64 0,.int .i64 0,.int .i64 0,.int .i64 0]:=⟨_,_,wy,jt,fun w=>by kernel_rfl,rfl⟩
theorem zV:fV prog 77 #[(0,1),(1,1),(2,1)] [.int .i64 0,.raw (.slice none 0 0),.raw (.slice none 0 0)]:=⟨_,_,jd,Z9,fun w=>by kernel_rfl,rfl⟩
theorem wZ:dg prog 56 77 1 3 [.int .i64 0,.raw (.slice none 0 0),.raw (.slice none 0 0)]:=⟨_,ji,jq,Z9,by decide,by decide,by kernel_rfl⟩
theorem iB:dg prog 57 67 1 4 [.int .i64 0,.int .i64 0,.raw (.slice none 0 0),.int .i64 0]:=⟨_,ja,jh,Z1,by decide,by decide,by kernel_rfl⟩
theorem sk:dg prog 24 62 1 7 [.str ⟨#[]⟩,.raw (.slice none 0 0),.raw (.slice none 0 0),.int .i64 0,.int .i64 0,.int .i64 0,.int .i64 0]:=⟨_,j8,jg,jt,by decide,by decide,by kernel_rfl⟩
set_option maxRecDepth 20000
variable {E:World}
def sm (b:aC):Prop:=b.name.size≤1000∧b.phis.length≤1000∧b.insts.length≤1000∧(∀p∈b.phis,p.args.length≤1000∧p.from_.length≤1000)∧∀x∈b.insts,x.args.length≤1000
def small (f:ap):Prop:=f.vars.length≤1000∧f.params.length≤1000∧f.blocks.length≤1000∧(∀v∈f.vars,v.name.size≤1000)∧∀b∈f.blocks,sm b
theorem small.ok {f:ap} (h:small f):iw f:=by
 obtain ⟨h1,h2,h3,h4,h5⟩:=h
 refine ⟨by unfold jU;omega,by unfold jU;omega,by unfold jU;omega,fun b hb=>?_⟩
 obtain ⟨g1,g2,g3,g4,g5⟩:=h5 b hb
 exact ⟨by unfold jU;omega,by unfold jU;omega,fun p hp=>⟨by have:=g4 p hp;unfold jU;omega,by have:=g4 p hp;unfold jU;omega⟩,fun x hx=>by have:=g5 x hx;unfold jU;omega⟩
theorem small.names {f:ap} (h:small f):fG f:=⟨fun v hv=>by have:=h.2.2.2.1 v hv;omega,fun b hb=>by have:=(h.2.2.2.2 b hb).1;omega⟩
theorem lM {α:Type} {enc:α→List AV} (h:∀x,(enc x).all AV.cell=true) (xs:List α):(xs.map enc).flatten.all AV.cell=true:=by
 induction xs with
 |nil=>rfl
 |cons x xs ih=>simp only[List.map_cons,List.flatten_cons,List.all_append,h,ih,Bool.and_self]
theorem mD (xs:List Int) (hl:xs.length≤1000):bx prog E 39 [.fro 1 (xs.map bX)] [] (fun x O'=>∃i:Nat,x=.own i xs.length∧Left O' [(i,.grow 1 3 (xs.map bX).flatten)]∧True):=by
 refine zk func39 Z (by decide) Z<|aj<|z8 (q6 Z)<|z7<|za<|aj<|aY Z<|aq.isNil j6 Z Z (fun hnil=>?_) ?_
 ·have hx:xs=[]:=by simpa using hnil
  subst hx
  refine z7<|y9 Z Z<|aj<|z8 (q6 Z)<|z7<|zd ?_
  repeat (first|refine aS ?_|refine aM ?_)
  refine kp (s:=2) (k:=1) (T:=3) Z (fun i=>?_)
  refine zg (x:=.own _ _) Z ?_
  exact ⟨i,rfl,.refl _,trivial⟩
 ·refine z7<|y7 Z Z<|ze<|aj<|aq.buildSlice0 (k:=1) j6 type3<|fun i5=>aY Z<|yi (k:=1) j6 type3 Z Z Z Z Z (fun _=>.head) (by simp) (by decide) (lM (fun _=>Z) xs) (by show (_+_)*8≤_;simp<;>omega) (by simp<;>omega)<|fun i7=>z8 (xE Z)<|z7<|zd<|zg (x:=.own _ _) Z ?_
  exact ⟨i7,(by simp),⟨_,.refl _,rfl⟩,trivial⟩
theorem mE (xs:List fY) (hl:xs.length≤1000):bx prog E 38 [.fro 2 (xs.map bz)] [] (fun x O'=>∃i:Nat,x=.own i xs.length∧Left O' [(i,.grow 2 73 (xs.map bz).flatten)]∧True):=by
 refine zk func38 Z (by decide) Z<|aj<|z8 (q6 Z)<|z7<|za<|aj<|aY Z<|aq.isNil jn Z Z (fun hnil=>?_) ?_
 ·have hx:xs=[]:=by simpa using hnil
  subst hx
  refine z7<|y9 Z Z<|aj<|z8 (q6 Z)<|z7<|zd ?_
  repeat (first|refine aS ?_|refine aM ?_)
  refine kp (s:=2) (k:=2) (T:=73) Z (fun i=>?_)
  refine zg (x:=.own _ _) Z ?_
  exact ⟨i,rfl,.refl _,trivial⟩
 ·refine z7<|y7 Z Z<|ze<|aj<|aq.buildSlice0 (k:=2) jn type73<|fun i5=>aY Z<|yi (k:=2) jn type73 Z Z Z Z Z (fun _=>.head) (by simp) (by decide) (lM (fun _=>Z) xs) (by show (_+_)*24≤_;simp<;>omega) (by simp<;>omega)<|fun i7=>z8 (xE Z)<|z7<|zd<|zg (x:=.own _ _) Z ?_
  exact ⟨i7,(by simp),⟨_,.refl _,rfl⟩,trivial⟩
theorem cL (xs:List Int) (hl:xs.length≤1000):aQ prog E 39 [.fro 1 (xs.map bX)] (.fro 1 (xs.map bX)):=(mD xs hl).frozen (by simp[bX]) (by decide) (by simp)
theorem gl (xs:List fY) (hl:xs.length≤1000):aQ prog E 38 [.fro 2 (xs.map bz)] (.fro 2 (xs.map bz)):=(mE xs hl).frozen (by simp[bz]) (by decide) (by simp)
theorem rg (f:ap) (hf:small f):bx prog E 24 [.agg (bP f)] [] (fun x O'=>∃i:Nat,x=.agg [.fro 2 (f.vars.map bz),.fro 1 (f.params.map bX),.own i f.blocks.length]∧Left O' [(i,.grow 7 62 (f.blocks.map aO).flatten)]∧True):=by
 obtain ⟨hf1,hf2,hf3,hf4,hf5⟩:=hf
 refine zk func24 Z (by decide) Z<|aj<|zy (cs:=_) Z Z Z<|zo (cs:=[.raw (.slice none 0 0),.raw (.slice none 0 0),.raw (.slice none 0 0)]) jv Z Z<|fun i2=>z7<|za<|yl (γ:=Nat) [1,2] (fun i=>[(3,.po i 0)]) (fun i=>[(i,.cells 26 [.fro 2 (f.vars.map bz),.fro 1 (f.params.map bX),.raw (.slice none 0 0)]),(i2,.cells 26 [.raw (.slice none 0 0),.raw (.slice none 0 0),.raw (.slice none 0 0)])]) (fun i=>True) ?_ (fun _ _ h=>h) ?_
 ·refine zx (fun j=>Nat.beq j 8) (by kernel_rfl) Z (yd (.rest _))<|aR 0 Z (jS j4 Z Z8 Z Z)<|aR 1 Z (q5 Ze Z)<|aR 3 Z (jS j4 Z je Z Z)<|aR 4 Z (q5 jj Z)<|bl.two (i:=2) (j:=7) Z Z (by kernel_rfl) ?_ ?_
  ·refine zc (gl _ (by omega)) Z<|z7<|bl.two (i:=5) (j:=7) Z Z (by kernel_rfl) ?_ ?_
   ·refine zc (cL _ (by omega)) Z<|z7<|aR 6 Z (y8 (cps:=[(0,[_]),(1,[_])]) (rs:=[_,_,.raw (.slice none 0 0)]) sj Z Z Z)<|eZ 7 Z<|zo (cs:=[.raw (.slice none 0 0),.raw (.slice none 0 0),.raw (.slice none 0 0)]) jv Z Z<|fun i3=>z7<|bl.writes<|cB.one (i:=8) Z (by kernel_rfl) (by kernel_rfl)<|zm j5 Z Z Z Z Z Z .head Z<|z7<|cB.done (by kernel_rfl) ?_
    exact ⟨i3,fT,bg,aX,trivial⟩
   ·refine zo (cs:=[.raw (.slice none 0 0),.raw (.slice none 0 0),.raw (.slice none 0 0)]) jv Z Z<|fun i3=>z7<|eZ 5 Z<|zc (cL _ (by omega)) Z<|z7<|aR 6 Z (y8 (cps:=[(0,[_]),(1,[_])]) (rs:=[_,_,.raw (.slice none 0 0)]) sj Z Z Z)<|bl.writes<|cB.one (i:=8) Z (by kernel_rfl) (by kernel_rfl)<|zm j5 Z Z Z Z Z Z .head Z<|z7<|cB.done (by kernel_rfl) ?_
    exact ⟨i3,fT,bg,aX,trivial⟩
  ·refine zo (cs:=[.raw (.slice none 0 0),.raw (.slice none 0 0),.raw (.slice none 0 0)]) jv Z Z<|fun i3=>z7<|eZ 2 Z<|zc (gl _ (by omega)) Z<|z7<|eZ 5 Z<|zc (cL _ (by omega)) Z<|z7<|aR 6 Z (y8 (cps:=[(0,[_]),(1,[_])]) (rs:=[_,_,.raw (.slice none 0 0)]) sj Z Z Z)<|bl.writes<|cB.one (i:=8) Z (by kernel_rfl) (by kernel_rfl)<|zm j5 Z Z Z Z Z Z .head Z<|z7<|cB.done (by kernel_rfl) ?_
   exact ⟨i3,fT,bg,aX,trivial⟩
 ·rintro i3 _
  refine za<|aj<|ax j4 Z jp Z Z<|aU jw Z<|ad j8 Z<|ab Z<|z7<|dY (off:=2) (k:=7) (T:=62) (fun _=>.head) Z<|fun ib=>zh<|zt (γ:=Nat × Nat) [2,3,19,20] (fun g=>[(21,.int .i64 g.1)]) (fun g=>[(g.2,.grow 7 62 ((f.blocks.take g.1).map aO).flatten),(i3,.cells 26 [.fro 2 (f.vars.map bz),.fro 1 (f.params.map bX),.own g.2 g.1]),(i2,.cells 26 [.raw (.slice none 0 0),.raw (.slice none 0 0),.raw (.slice none 0 0)])]) (fun g=>g.1≤f.blocks.length) (fun g=>f.blocks.length - g.1) (0,ib) bg aX (yw _) ?_
  rintro ⟨k,ib⟩ hk
  try dsimp only at *
  refine aj<|aB Z Z<|z7<|za<|zq Z (fun ck=>?_) (fun ck=>?_)
  ·have hk2:k<f.blocks.length:=by omega
   obtain ⟨hb0,hb1,hb2,hb3,hb4⟩:=hf5 _ (yx hk2)
   refine ze<|za<|zh<|aj<|z8 (yc j8 jg Z Z Z (yt (by omega)))<|aa Zc jg Z Z<|zo (cs:=[.str ⟨#[]⟩,.raw (.slice none 0 0),.raw (.slice none 0 0),.int .i64 0,.int .i64 0,.int .i64 0,.int .i64 0]) jt Z Z<|fun i5=>zm jg Z Z Z Z Z Z .head Z<|z7<|aj<|z8 (zf wy Z js (by decide) Z Z)<|z8 (zj (c:=.str _) jz Z ⟨_,.head⟩ Z)<|z8 (zf wy Z Z6 (by decide) Z Z)<|z8 (Gv.loadAC (l:=[_,_,_,_]) isAgg60 Z6 Z ⟨_,.head⟩ Z Z)<|z8 (y8 (cps:=[(0,[_]),(3,[_,_,_,_])]) (rs:=[_,.raw (.slice none 0 0),.raw (.slice none 0 0),_,_,_,_]) zU Z Z Z)<|zo (cs:=[.str ⟨#[]⟩,.raw (.slice none 0 0),.raw (.slice none 0 0),.int .i64 0,.int .i64 0,.int .i64 0,.int .i64 0]) jt Z Z<|fun i6=>zm jg Z Z Z Z Z Z .head Z<|z7<|za<|aj<|z8 (zf wy Z Z2 (by decide) Z Z)<|z8 (zj (c:=.fro _ _) Zd Z ⟨_,.t1⟩ Z)<|ad ji Z<|ab Z<|z7<|dY (off:=1) (k:=3) (T:=77) (fun _=>.head) Z<|fun ip=>zz (yf (yh .t1))<|zh<|zt (γ:=Nat × Nat) [2,3,5,6,19,20,21,31,32] (fun g=>[(33,.int .i64 g.1)]) (fun g=>[(i6,.cells 62 [.str f.blocks[k].name,.own g.2 g.1,.raw (.slice none 0 0),.int .i64 f.blocks[k].term.kind,.int .i64 f.blocks[k].term.var,.int .i64 f.blocks[k].term.to0,.int .i64 f.blocks[k].term.to1]),(g.2,.grow 3 77 ((f.blocks[k].phis.take g.1).map bm).flatten),(i5,.cells 62 (aO f.blocks[k])),(ib,.grow 7 62 ((f.blocks.take k).map aO).flatten),(i3,.cells 26 [.fro 2 (f.vars.map bz),.fro 1 (f.params.map bX),.own ib k]),(i2,.cells 26 [.raw (.slice none 0 0),.raw (.slice none 0 0),.raw (.slice none 0 0)])]) (fun g=>g.1≤f.blocks[k].phis.length) (fun g=>f.blocks[k].phis.length - g.1) (0,ip) bg aX (yw _) ?_
   rintro ⟨m,ip⟩ hm
   try dsimp only at *
   refine aj<|aB Z Z<|z7<|za<|zq Z (fun cm=>?_) (fun cm=>?_)
   ·have hm2:m<f.blocks[k].phis.length:=by omega
    obtain ⟨hp1,hp2⟩:=hb3 _ (yx hm2)
    refine ze<|za<|zh<|aj<|z8 (yc ji jq Z Z Z (yt (by omega)))<|aa isAgg77 jq Z Z<|zo (cs:=[.int .i64 0,.raw (.slice none 0 0),.raw (.slice none 0 0)]) Z9 Z Z<|fun i8=>zm jq Z Z Z Z Z Z .head Z<|z7<|zx (fun j=>Nat.beq j 14) (by kernel_rfl) Z (yd (.r (.r (.rest _))))<|aR 0 Z (zf wy Z Z2 (by decide) Z Z)<|aR 1 Z (zj (c:=.own _ _) Zd Z ⟨_,.t1⟩ Z)<|aR 2 Z (zf jd Z jc (by decide) Z Z)<|aR 3 Z (zj (c:=.int _ _) jf Z ⟨_,.head⟩ Z)<|aR 4 Z (zf jd Z je (by decide) Z Z)<|aR 5 Z (zj (c:=.fro _ _) jj Z ⟨_,.head⟩ Z)<|aR 7 Z (zf jd Z je (by decide) Z Z)<|aR 8 Z (zj (c:=.fro _ _) jj Z ⟨_,.head⟩ Z)<|eZ 6 Z<|zc (cL _ (by omega)) Z<|z7<|eZ 9 Z<|zc (cL _ (by omega)) Z<|z7<|aR 10 Z (y8 (cps:=[(0,[_]),(1,[_]),(2,[_])]) (rs:=[_,_,_]) zV Z Z Z)<|eZ 11 Z<|yb (rows:=[[_,_,_]]) wZ Z Z Z Z Z<|z7<|eZ 12 Z<|yi (k:=3) ji type77 Z Z Z Z Z (fun _=>.head) (by rw[cT (k:=3) (fun _=>rfl),List.length_take,Nat.min_eq_left hm]) (by decide) Z (by show (_+_)*56≤_;simp<;>omega) (by simp<;>omega)<|fun i49=>z7<|aR 13 Z (zf wy Z Z2 (by decide) Z Z)<|bl.writes<|cB.one (i:=14) Z (by kernel_rfl) (by kernel_rfl)<|aq.storeC (l:=[_]) (new:=[_,_,_,_,_,_,_]) Z2 Z Z Z Z Z Z .t1 Z Z<|z7<|cB.done (by kernel_rfl)<|bA<|aI Z Z ?_
    refine ab Z<|z7 ?_
    exact ⟨(m+1,i49),ul,bg,⟨_,(.drop (.refl _)),by rw[←dz (yu hm2)];rfl⟩,hm2,by dsimp only;omega⟩
   ·obtain rfl:m=f.blocks[k].phis.length:=by omega
    refine zu<|za<|aj<|z8 (zf wy Z jl (by decide) Z Z)<|z8 (zj (c:=.fro _ _) Z0 Z ⟨_,.t2⟩ Z)<|ad ja Z<|ab Z<|z7<|dY (off:=2) (k:=4) (T:=67) (fun _=>.head) Z<|fun ii=>zh<|zt (γ:=Nat × Nat) [2,3,6,19,20,21,53,54] (fun g=>[(55,.int .i64 g.1)]) (fun g=>[(g.2,.grow 4 67 ((f.blocks[k].insts.take g.1).map aW).flatten),(i6,.cells 62 [.str f.blocks[k].name,.own ip f.blocks[k].phis.length,.own g.2 g.1,.int .i64 f.blocks[k].term.kind,.int .i64 f.blocks[k].term.var,.int .i64 f.blocks[k].term.to0,.int .i64 f.blocks[k].term.to1]),(ip,.grow 3 77 (f.blocks[k].phis.map bm).flatten),(i5,.cells 62 (aO f.blocks[k])),(ib,.grow 7 62 ((f.blocks.take k).map aO).flatten),(i3,.cells 26 [.fro 2 (f.vars.map bz),.fro 1 (f.params.map bX),.own ib k]),(i2,.cells 26 [.raw (.slice none 0 0),.raw (.slice none 0 0),.raw (.slice none 0 0)])]) (fun g=>g.1≤f.blocks[k].insts.length) (fun g=>f.blocks[k].insts.length - g.1) (0,ii) bg ⟨_,(.refl _),by rw[yy];rfl⟩ (yw _) ?_
    rintro ⟨m,ii⟩ hm
    try dsimp only at *
    refine aj<|aB Z Z<|z7<|za<|zq Z (fun cm=>?_) (fun cm=>?_)
    ·have hm2:m<f.blocks[k].insts.length:=by omega
     have hp1:=hb4 _ (yx hm2)
     refine ze<|za<|zh<|aj<|z8 (yc ja jh Z Z Z (yt (by omega)))<|aa Z7 jh Z Z<|zo (cs:=[.int .i64 0,.int .i64 0,.raw (.slice none 0 0),.int .i64 0]) Z1 Z Z<|fun i10=>zm jh Z Z Z Z Z Z .head Z<|z7<|aj<|z8 (zf wz Z je (by decide) Z Z)<|z8 (zj (c:=.fro _ _) jj Z ⟨_,.head⟩ Z)<|zc (cL _ (by omega)) Z<|z8 (zf wz Z je (by decide) Z Z)<|aq.storeC (l:=[_]) (new:=[_,_,_,_]) je Z Z Z Z Z Z .head Z Z<|z7<|bA<|z8 (zf wy Z jl (by decide) Z Z)<|z8 (zj (c:=.own _ _) Z0 Z ⟨_,.t2⟩ Z)<|z8 (Gv.loadWC Z7 jh Z ⟨_,.head⟩ Z)<|yb (rows:=[[_,_,_,_]]) iB Z Z Z Z Z<|yi (k:=4) ja type67 Z Z Z Z Z (fun _=>.t1) (by rw[cT (k:=4) (fun _=>rfl),List.length_take,Nat.min_eq_left hm]) (by decide) Z (by show (_+_)*48≤_;simp<;>omega) (by simp<;>omega)<|fun i67=>z8 (zf wy Z jl (by decide) Z Z)<|aq.storeC (l:=[_]) (new:=[_,_,_,_,_,_,_]) jl Z Z Z Z Z Z .t2 Z Z<|z7<|bA<|aI Z Z<|ab Z<|z7 ?_
     exact ⟨(m+1,i67),sd,bg,⟨_,(.drop (.refl _)),by rw[←dz (yu hm2)];rfl⟩,hm2,by dsimp only;omega⟩
    ·obtain rfl:m=f.blocks[k].insts.length:=by omega
     rw[yy]
     refine zu<|zz (bt.knowC (off:=1) (rows:=f.blocks[k].phis.map bm) .t2 .t1 Z (by simp[bX,bz,bm,aW,aO]) (by decide) (by simp))<|zz (bt.knowC (off:=2) (rows:=f.blocks[k].insts.map aW) .head .head Z (by simp[bX,bz,bm,aW,aO]) (by decide) (by simp))<|bA<|z8 (zf j4 Z jp (by decide) Z Z)<|z8 (zj (c:=.own _ _) jw Z ⟨_,.t3⟩ Z)<|z8 (Gv.loadWC Zc jg Z ⟨_,.head⟩ Z)<|yb (rows:=[[_,_,_,_,_,_,_]]) sk Z Z Z Z Z<|yi (k:=7) j8 type62 Z Z Z Z Z (fun _=>.t2) (by rw[cT (k:=7) (fun _=>rfl),List.length_take,Nat.min_eq_left hk]) (by decide) Z (by show (_+_)*96≤_;simp<;>omega) (by simp<;>omega)<|fun i74=>z8 (zf j4 Z jp (by decide) Z Z)<|aq.storeC (l:=[_]) (new:=[_,_,_]) jp Z Z Z Z Z Z .t3 Z Z<|z7<|bA<|aI Z Z<|ab Z<|z7 ?_
     exact ⟨(k+1,i74),iv,bg,⟨_,(.drop (.drop (.refl _))),by rw[←dz (yu hk2)];rfl⟩,hk2,by dsimp only;omega⟩
  ·obtain rfl:k=f.blocks.length:=by omega
   rw[yy]
   refine zu<|aj<|z8 (Gv.loadWC j9 j5 Z ⟨_,.t1⟩ Z)<|zm j5 Z Z Z Z Z Z .t2 Z<|z7<|zd<|bC.c1 Z ⟨_,.t2⟩ j9 j5 Z ?_
   exact ⟨ib,rfl,⟨_,.keep (.drop (.drop (.refl _))),rfl⟩,trivial⟩
end
section
open Go.Proofs.Tryz
open Go.Proofs Go.Lib Go.Shelf Go.RowKit
set_option maxRecDepth 20000
variable {E:World}
def dG (f g:ap):Bool:=!decide ((f.vars.length:Int)=g.vars.length)||(!decide (f.params=g.params)||!decide ((f.blocks.length:Int)=g.blocks.length))
def dT (x y:aC):Bool:=!decide (x.name=y.name)||(!decide (x.term.kind=y.term.kind∧x.term.var=y.term.var∧x.term.to0=y.term.to0∧x.term.to1=y.term.to1)||(!decide ((x.phis.length:Int)=y.phis.length)||!decide ((x.insts.length:Int)=y.insts.length)))
theorem mF {f g:ap} (h:dG f g=false):f.vars.length=g.vars.length∧f.params=g.params∧f.blocks.length=g.blocks.length:=by
 unfold dG at h;simp at h;exact ⟨by omega,h.2.1,by omega⟩
theorem rh {f g:aC} (h:dT f g=false):(f.name=g.name∧f.term=g.term)∧f.phis.length=g.phis.length∧f.insts.length=g.insts.length:=by
 unfold dT at h;simp at h
 obtain ⟨h1,h2,h3,h4⟩:=h
 refine ⟨⟨h1,?_⟩,by omega,by omega⟩
 obtain ⟨a,b,c,⟨d1,d2,d3,d4⟩⟩:=f;obtain ⟨a',b',c',⟨d1',d2',d3',d4'⟩⟩:=g
 simp_all
theorem uD {x y:aC} (h1:x.name=y.name) (h2:x.term=y.term) (h3:x.phis=y.phis) (h4:x.insts=y.insts):x=y:=by
 cases x;cases y;simp_all
theorem sn {x y:ap} (h1:x.vars=y.vars) (h2:x.params=y.params) (h3:x.blocks=y.blocks):x=y:=by
 cases x;cases y;simp_all
theorem iC (x y:dv):decide (x=y)=!(!decide (x.dst=y.dst)||(!decide (x.args=y.args)||!decide (x.from_=y.from_))):=by
 rw[uz];simp[Bool.and_assoc]
theorem e8 (x y:aN):decide (x=y)=!(!decide (x.op=y.op)||(!decide (x.dst=y.dst)||(!decide (x.num=y.num)||!decide (x.args=y.args)))):=by
 rw[sf];simp[Bool.and_assoc]
set_option maxHeartbeats 8000000 in
theorem kP (f g:ap) (hf:iw f):aQ prog E 11 [.agg (bP f),.agg (bP g)] (.bool (decide (f=g))):=by
 obtain ⟨hf1,hf2,hf3,hf4⟩:=hf
 have hl1:=hf1.lt
 have hl3:=hf3.lt
 refine zk func11 Z (by decide) Z<|aj<|zy (cs:=_) Z Z Z<|zy (cs:=_) Z Z Z<|ae Z<|z7<|za<|za<|yl (γ:=Unit) [2,3] (fun u=>[(38,.bool (dG f g))]) (fun u=>[]) (fun u=>True) ?_ (fun _ _ h=>h) ?_
 ·refine bA<|ax j4 Z Z8 Z Z<|aU Ze Z<|ad jn Z<|ax j4 Z Z8 Z Z<|aU Ze Z<|ad jn Z<|aD Z Z<|ah Z<|zi (s:=22) Z (fun c1=>?_) (fun c1=>?_)
  ·refine z2 Z Z c1<|z2 Z Z c1<|z2 Z Z c1<|z2 Z Z c1<|z2 Z Z c1<|z2 Z Z c1<|ai Z c1 Z<|ah Z<|z2 Z Z Z<|z2 Z Z Z<|z2 Z Z Z<|z2 Z Z Z<|z2 Z Z Z<|z2 Z Z Z<|z2 Z Z Z<|ai Z Z Z<|z7 ?_
   exact ⟨(),fT,⟨jb (by simp_all[dG]),trivial⟩,aX,trivial⟩
  ·refine z6 Z Z c1<|ax j4 Z je Z Z<|z6 Z Z c1<|aU jj Z<|z6 Z Z c1<|ax j4 Z je Z Z<|z6 Z Z c1<|aU jj Z<|z6 Z Z c1<|zc (e6 _ _ (by assumption)) Z<|z6 Z Z c1<|aJ Z<|ak Z c1 Z<|ah Z<|zi (s:=30) Z (fun c2=>?_) (fun c2=>?_)
   ·refine z2 Z Z c2<|z2 Z Z c2<|z2 Z Z c2<|z2 Z Z c2<|z2 Z Z c2<|z2 Z Z c2<|z2 Z Z c2<|ai Z c2 Z<|z7 ?_
    exact ⟨(),fT,⟨jb (by simp_all[dG]),trivial⟩,aX,trivial⟩
   ·refine z6 Z Z c2<|ax j4 Z jp Z Z<|z6 Z Z c2<|aU jw Z<|z6 Z Z c2<|ad j8 Z<|z6 Z Z c2<|ax j4 Z jp Z Z<|z6 Z Z c2<|aU jw Z<|z6 Z Z c2<|ad j8 Z<|z6 Z Z c2<|aD Z Z<|ak Z c2 Z<|z7 ?_
    exact ⟨(),fT,⟨jb (by simp_all[dG]),trivial⟩,aX,trivial⟩
 ·rintro _ _
  refine zn Z (fun c0=>?_) (fun c0=>?_)
  ·refine aj<|ae Z<|z7<|zd<|zg (x:=.bool _) Z ?_
   rw[q0 (fun e=>by subst e;simp[dG] at c0)]
  ·obtain ⟨hv,hpar,hbl⟩:=mF c0
   refine ze<|za<|aj<|ax j4 Z Z8 Z Z<|aU Ze Z<|ad jn Z<|ab Z<|z7<|zh<|zt (γ:=Nat) [2,3,41] (fun k=>[(42,.int .i64 k)]) (fun k=>[]) (fun k=>k≤f.vars.length∧f.vars.take k=g.vars.take k) (fun k=>f.vars.length - k) 0 bg aX (⟨yw _,Z⟩) ?_
   rintro k ⟨hk,hpre⟩
   refine aj<|aB Z Z<|z7<|za<|zq Z (fun ck=>?_) (fun ck=>?_)
   ·have hk1:k<f.vars.length:=by omega
    have hk2:k<g.vars.length:=by omega
    refine ze<|za<|zh<|aj<|ab Z<|aw Z<|z7<|za<|zx (fun j=>false) (by kernel_rfl) Z (yd (.rest _))<|aR 0 Z (jS j4 Z Z8 Z Z)<|aR 1 Z (q5 Ze Z)<|aR 2 Z (jR Z)<|aR 3 Z (yc jn Z5 Z Z Z (yt (by omega)))<|aR 4 Z (ya isAgg73 Z5 Z Z)<|aR 5 Z (jS j4 Z Z8 Z Z)<|aR 6 Z (q5 Ze Z)<|aR 7 Z (jR Z)<|aR 8 Z (yc jn Z5 Z Z Z (yt (by omega)))<|aR 9 Z (ya isAgg73 Z5 Z Z)<|aR 10 Z (Gv.neqP (xs:=[.string _,.int _ _]) (ys:=[.string _,.int _ _]) (by kernel_rfl) Z Z (fun w=>wY _ _ _ _ w))<|jQ<|zn Z (fun cd=>?_) (fun cd=>?_)
    ·refine aj<|ae Z<|z7<|zd<|zg (x:=.bool _) Z ?_
     rw[q0 (fun e=>by subst e;simp at cd)]
    ·refine ze<|bA<|aI Z Z<|ab Z<|z7 ?_
     exact ⟨k+1,r3,bg,aX,⟨hk1,dA hk1 hk2 hpre (uA (by simpa using cd))⟩,by omega⟩
   ·have hvars:=dB hv (by omega) hpre
    refine zu<|za<|aj<|ax j4 Z jp Z Z<|aU jw Z<|ad j8 Z<|ab Z<|z7<|zh<|zt (γ:=Nat) [3,58,59] (fun k=>[(60,.int .i64 k)]) (fun k=>[]) (fun k=>k≤f.blocks.length∧f.blocks.take k=g.blocks.take k) (fun k=>f.blocks.length - k) 0 bg aX (⟨yw _,Z⟩) ?_
    rintro k ⟨hk,hpre2⟩
    refine aj<|aB Z Z<|z7<|za<|zq Z (fun ck=>?_) (fun ck=>?_)
    ·have hi1:k<f.blocks.length:=by omega
     have hi2:k<g.blocks.length:=by omega
     obtain ⟨hx1,hx2,hx3,hx4⟩:=hf4 _ (yx hi1)
     have hl4:=hx1.lt
     have hl5:=hx2.lt
     refine ze<|za<|zh<|aj<|ab Z<|z8 (yc j8 jg Z Z Z (yt (by omega)))<|aa Zc jg Z Z<|zo (cs:=[.str ⟨#[]⟩,.raw (.slice none 0 0),.raw (.slice none 0 0),.int .i64 0,.int .i64 0,.int .i64 0,.int .i64 0]) jt Z Z<|fun i7=>aw Z<|zm jg Z Z Z Z Z Z .head Z<|z7<|aj<|ax j4 Z jp Z Z<|aU jw Z<|ab Z<|z8 (yc j8 jg Z Z Z (yt (by omega)))<|aa Zc jg Z Z<|zo (cs:=[.str ⟨#[]⟩,.raw (.slice none 0 0),.raw (.slice none 0 0),.int .i64 0,.int .i64 0,.int .i64 0,.int .i64 0]) jt Z Z<|fun i8=>zm jg Z Z Z Z Z Z .head Z<|z7<|za<|za<|yl (γ:=Unit) [3,7,8,58,59,60] (fun u=>[(99,.bool (dT f.blocks[k] g.blocks[k]))]) (fun u=>[(i8,.cells 62 (aO g.blocks[k])),(i7,.cells 62 (aO f.blocks[k]))]) (fun u=>True) ?_ (fun _ _ h=>h) ?_
     ·refine bA<|z8 (zf wy Z js (by decide) Z Z)<|z8 (zj (c:=.str _) jz Z ⟨_,.t1⟩ Z)<|z8 (zf wy Z js (by decide) Z Z)<|z8 (zj (c:=.str _) jz Z ⟨_,.head⟩ Z)<|z8 (Gv.neqT Z Z)<|ah Z<|zi (s:=75) Z (fun c3=>?_) (fun c3=>?_)
      ·refine z2 Z Z c3<|z2 Z Z c3<|z2 Z Z c3<|z2 Z Z c3<|z2 Z Z c3<|ai Z c3 Z<|ah Z<|z2 Z Z Z<|z2 Z Z Z<|z2 Z Z Z<|z2 Z Z Z<|z2 Z Z Z<|z2 Z Z Z<|z2 Z Z Z<|ai Z Z Z<|ah Z<|z2 Z Z Z<|z2 Z Z Z<|z2 Z Z Z<|z2 Z Z Z<|z2 Z Z Z<|z2 Z Z Z<|z2 Z Z Z<|ai Z Z Z<|z7 ?_
       exact ⟨(),uk,⟨jb (by simp_all[dT]),trivial⟩,aX,trivial⟩
      ·refine z6 Z Z c3<|z8 (zf wy Z Z6 (by decide) Z Z)<|z6 Z Z c3<|z8 (Gv.loadAC (l:=[_,_,_,_]) isAgg60 Z6 Z ⟨_,.t1⟩ Z Z)<|z6 Z Z c3<|z8 (zf wy Z Z6 (by decide) Z Z)<|z6 Z Z c3<|z8 (Gv.loadAC (l:=[_,_,_,_]) isAgg60 Z6 Z ⟨_,.head⟩ Z Z)<|z6 Z Z c3<|z8 (Gv.neqP (xs:=[.int _ _,.int _ _,.int _ _,.int _ _]) (ys:=[.int _ _,.int _ _,.int _ _,.int _ _]) (by kernel_rfl) Z Z (fun w=>uy _ _ _ _ _ _ _ _ w))<|ak Z c3 Z<|ah Z<|zi (s:=82) Z (fun c4=>?_) (fun c4=>?_)
       ·refine z2 Z Z c4<|z2 Z Z c4<|z2 Z Z c4<|z2 Z Z c4<|z2 Z Z c4<|z2 Z Z c4<|z2 Z Z c4<|ai Z c4 Z<|ah Z<|z2 Z Z Z<|z2 Z Z Z<|z2 Z Z Z<|z2 Z Z Z<|z2 Z Z Z<|z2 Z Z Z<|z2 Z Z Z<|ai Z Z Z<|z7 ?_
        exact ⟨(),uk,⟨jb (by simp_all[dT]),trivial⟩,aX,trivial⟩
       ·refine z6 Z Z c4<|z8 (zf wy Z Z2 (by decide) Z Z)<|z6 Z Z c4<|z8 (zj (c:=.fro _ _) Zd Z ⟨_,.t1⟩ Z)<|z6 Z Z c4<|ad ji Z<|z6 Z Z c4<|z8 (zf wy Z Z2 (by decide) Z Z)<|z6 Z Z c4<|z8 (zj (c:=.fro _ _) Zd Z ⟨_,.head⟩ Z)<|z6 Z Z c4<|ad ji Z<|z6 Z Z c4<|aD Z Z<|ak Z c4 Z<|ah Z<|zi (s:=91) Z (fun c5=>?_) (fun c5=>?_)
        ·refine z2 Z Z c5<|z2 Z Z c5<|z2 Z Z c5<|z2 Z Z c5<|z2 Z Z c5<|z2 Z Z c5<|z2 Z Z c5<|ai Z c5 Z<|z7 ?_
         exact ⟨(),uk,⟨jb (by simp_all[dT]),trivial⟩,aX,trivial⟩
        ·refine z6 Z Z c5<|z8 (zf wy Z jl (by decide) Z Z)<|z6 Z Z c5<|z8 (zj (c:=.fro _ _) Z0 Z ⟨_,.t1⟩ Z)<|z6 Z Z c5<|ad ja Z<|z6 Z Z c5<|z8 (zf wy Z jl (by decide) Z Z)<|z6 Z Z c5<|z8 (zj (c:=.fro _ _) Z0 Z ⟨_,.head⟩ Z)<|z6 Z Z c5<|ad ja Z<|z6 Z Z c5<|aD Z Z<|ak Z c5 Z<|z7 ?_
         exact ⟨(),uk,⟨jb (by simp_all[dT]),trivial⟩,aX,trivial⟩
     ·rintro _ _
      refine zn Z (fun cb=>?_) (fun cb=>?_)
      ·refine aj<|ae Z<|z7<|zd<|zg (x:=.bool _) Z ?_
       rw[q0 (fun e=>by subst e;simp[dT] at cb)]
      ·obtain ⟨⟨hbn,hbt⟩,hbp,hbi⟩:=rh cb
       refine ze<|za<|aj<|z8 (zf wy Z Z2 (by decide) Z Z)<|z8 (zj (c:=.fro _ _) Zd Z ⟨_,.t1⟩ Z)<|ad ji Z<|ab Z<|z7<|zh<|zt (γ:=Nat) [3,7,8,58,59,60,101,102] (fun m=>[(103,.int .i64 m)]) (fun m=>[(i8,.cells 62 (aO g.blocks[k])),(i7,.cells 62 (aO f.blocks[k]))]) (fun m=>m≤f.blocks[k].phis.length∧f.blocks[k].phis.take m=g.blocks[k].phis.take m) (fun m=>f.blocks[k].phis.length - m) 0 bg aX (⟨yw _,Z⟩) ?_
       rintro m ⟨hm,hpre3⟩
       refine aj<|aB Z Z<|z7<|za<|zq Z (fun cm=>?_) (fun cm=>?_)
       ·have hj1:m<f.blocks[k].phis.length:=by omega
        have hj2:m<g.blocks[k].phis.length:=by omega
        obtain ⟨hy1,hy2⟩:=hx3 _ (yx hj1)
        refine ze<|za<|zh<|aj<|ab Z<|z8 (yc ji jq Z Z Z (yt (by omega)))<|aa isAgg77 jq Z Z<|zo (cs:=[.int .i64 0,.raw (.slice none 0 0),.raw (.slice none 0 0)]) Z9 Z Z<|fun i10=>aw Z<|zm jq Z Z Z Z Z Z .head Z<|z7<|aj<|z8 (zf wy Z Z2 (by decide) Z Z)<|z8 (zj (c:=.fro _ _) Zd Z ⟨_,.t1⟩ Z)<|ab Z<|z8 (yc ji jq Z Z Z (yt (by omega)))<|aa isAgg77 jq Z Z<|zo (cs:=[.int .i64 0,.raw (.slice none 0 0),.raw (.slice none 0 0)]) Z9 Z Z<|fun i11=>zm jq Z Z Z Z Z Z .head Z<|z7<|za<|yl (γ:=Unit) [3,7,8,58,59,60,101,102,103] (fun u=>[(133,.bool (!decide (f.blocks[k].phis[m]=g.blocks[k].phis[m])))]) (fun u=>[(i8,.cells 62 (aO g.blocks[k])),(i7,.cells 62 (aO f.blocks[k]))]) (fun u=>True) ?_ (fun _ _ h=>h) ?_
        ·refine bA<|z8 (zf jd Z jc (by decide) Z Z)<|z8 (zj (c:=.int _ _) jf Z ⟨_,.t1⟩ Z)<|z8 (zf jd Z jc (by decide) Z Z)<|z8 (zj (c:=.int _ _) jf Z ⟨_,.head⟩ Z)<|aD Z Z<|ah Z<|zi (s:=118) Z (fun c6=>?_) (fun c6=>?_)
         ·refine z2 Z Z c6<|z2 Z Z c6<|z2 Z Z c6<|z2 Z Z c6<|z2 Z Z c6<|z2 Z Z c6<|ai Z c6 Z<|ah Z<|z2 Z Z Z<|z2 Z Z Z<|z2 Z Z Z<|z2 Z Z Z<|z2 Z Z Z<|z2 Z Z Z<|ai Z Z Z<|z7 ?_
          exact ⟨(),ul,⟨jb (by rw[iC,Bool.not_not];simp_all),trivial⟩,⟨_,(.drop (.drop (.refl _))),rfl⟩,trivial⟩
         ·refine z6 Z Z c6<|z8 (zf jd Z je (by decide) Z Z)<|z6 Z Z c6<|z8 (zj (c:=.fro _ _) jj Z ⟨_,.t1⟩ Z)<|z6 Z Z c6<|z8 (zf jd Z je (by decide) Z Z)<|z6 Z Z c6<|z8 (zj (c:=.fro _ _) jj Z ⟨_,.head⟩ Z)<|z6 Z Z c6<|zc (e6 _ _ (by assumption)) Z<|z6 Z Z c6<|aJ Z<|ak Z c6 Z<|ah Z<|zi (s:=126) Z (fun c7=>?_) (fun c7=>?_)
          ·refine z2 Z Z c7<|z2 Z Z c7<|z2 Z Z c7<|z2 Z Z c7<|z2 Z Z c7<|z2 Z Z c7<|ai Z c7 Z<|z7 ?_
           exact ⟨(),ul,⟨jb (by rw[iC,Bool.not_not];simp_all),trivial⟩,⟨_,(.drop (.drop (.refl _))),rfl⟩,trivial⟩
          ·refine z6 Z Z c7<|z8 (zf jd Z je (by decide) Z Z)<|z6 Z Z c7<|z8 (zj (c:=.fro _ _) jj Z ⟨_,.t1⟩ Z)<|z6 Z Z c7<|z8 (zf jd Z je (by decide) Z Z)<|z6 Z Z c7<|z8 (zj (c:=.fro _ _) jj Z ⟨_,.head⟩ Z)<|z6 Z Z c7<|zc (e6 _ _ (by assumption)) Z<|z6 Z Z c7<|aJ Z<|ak Z c7 Z<|z7 ?_
           exact ⟨(),ul,⟨jb (by rw[iC,Bool.not_not];simp_all),trivial⟩,⟨_,(.drop (.drop (.refl _))),rfl⟩,trivial⟩
        ·rintro _ _
         refine zn Z (fun cp=>?_) (fun cp=>?_)
         ·refine aj<|ae Z<|z7<|zd<|zg (x:=.bool _) Z ?_
          rw[q0 (fun e=>by subst e;simp at cp)]
         ·refine ze<|bA<|aI Z Z<|ab Z<|z7 ?_
          exact ⟨m+1,sd,bg,aX,⟨hj1,dA hj1 hj2 hpre3 (by simpa using cp)⟩,by omega⟩
       ·have hphis:=dB hbp (by omega) hpre3
        refine zu<|aj<|z8 (zf wy Z jl (by decide) Z Z)<|z8 (zj (c:=.fro _ _) Z0 Z ⟨_,.t1⟩ Z)<|ad ja Z<|ab Z<|z7<|zh<|zt (γ:=Nat) [3,8,58,59,60,136,137] (fun m=>[(138,.int .i64 m)]) (fun m=>[(i8,.cells 62 (aO g.blocks[k])),(i7,.cells 62 (aO f.blocks[k]))]) (fun m=>m≤f.blocks[k].insts.length∧f.blocks[k].insts.take m=g.blocks[k].insts.take m) (fun m=>f.blocks[k].insts.length - m) 0 bg aX (⟨yw _,Z⟩) ?_
        rintro m ⟨hm,hpre3⟩
        refine aj<|aB Z Z<|z7<|za<|zq Z (fun cm=>?_) (fun cm=>?_)
        ·have hj1:m<f.blocks[k].insts.length:=by omega
         have hj2:m<g.blocks[k].insts.length:=by omega
         have hy1:=hx4 _ (yx hj1)
         refine ze<|za<|zh<|aj<|ab Z<|z8 (yc ja jh Z Z Z (yt (by omega)))<|aa Z7 jh Z Z<|zo (cs:=[.int .i64 0,.int .i64 0,.raw (.slice none 0 0),.int .i64 0]) Z1 Z Z<|fun i13=>aw Z<|zm jh Z Z Z Z Z Z .head Z<|z7<|aj<|z8 (zf wy Z jl (by decide) Z Z)<|z8 (zj (c:=.fro _ _) Z0 Z ⟨_,.t1⟩ Z)<|ab Z<|z8 (yc ja jh Z Z Z (yt (by omega)))<|aa Z7 jh Z Z<|zo (cs:=[.int .i64 0,.int .i64 0,.raw (.slice none 0 0),.int .i64 0]) Z1 Z Z<|fun i14=>zm jh Z Z Z Z Z Z .head Z<|z7<|za<|yl (γ:=Unit) [3,8,58,59,60,136,137,138] (fun u=>[(174,.bool (!decide (f.blocks[k].insts[m]=g.blocks[k].insts[m])))]) (fun u=>[(i8,.cells 62 (aO g.blocks[k])),(i7,.cells 62 (aO f.blocks[k]))]) (fun u=>True) ?_ (fun _ _ h=>h) ?_
         ·refine bA<|z8 (zf wz Z jx (by decide) Z Z)<|z8 (zj (c:=.int _ _) Z3 Z ⟨_,.t1⟩ Z)<|z8 (zf wz Z jx (by decide) Z Z)<|z8 (zj (c:=.int _ _) Z3 Z ⟨_,.head⟩ Z)<|aD Z Z<|ah Z<|zi (s:=153) Z (fun c8=>?_) (fun c8=>?_)
          ·refine z2 Z Z c8<|z2 Z Z c8<|z2 Z Z c8<|z2 Z Z c8<|z2 Z Z c8<|ai Z c8 Z<|ah Z<|z2 Z Z Z<|z2 Z Z Z<|z2 Z Z Z<|z2 Z Z Z<|z2 Z Z Z<|ai Z Z Z<|ah Z<|z2 Z Z Z<|z2 Z Z Z<|z2 Z Z Z<|z2 Z Z Z<|z2 Z Z Z<|z2 Z Z Z<|ai Z Z Z<|z7 ?_
           exact ⟨(),sd,⟨jb (by rw[e8,Bool.not_not];simp_all),trivial⟩,⟨_,(.drop (.drop (.refl _))),rfl⟩,trivial⟩
          ·refine z6 Z Z c8<|z8 (zf wz Z jc (by decide) Z Z)<|z6 Z Z c8<|z8 (zj (c:=.int _ _) jf Z ⟨_,.t1⟩ Z)<|z6 Z Z c8<|z8 (zf wz Z jc (by decide) Z Z)<|z6 Z Z c8<|z8 (zj (c:=.int _ _) jf Z ⟨_,.head⟩ Z)<|z6 Z Z c8<|aD Z Z<|ak Z c8 Z<|ah Z<|zi (s:=160) Z (fun c9=>?_) (fun c9=>?_)
           ·refine z2 Z Z c9<|z2 Z Z c9<|z2 Z Z c9<|z2 Z Z c9<|z2 Z Z c9<|ai Z c9 Z<|ah Z<|z2 Z Z Z<|z2 Z Z Z<|z2 Z Z Z<|z2 Z Z Z<|z2 Z Z Z<|z2 Z Z Z<|ai Z Z Z<|z7 ?_
            exact ⟨(),sd,⟨jb (by rw[e8,Bool.not_not];simp_all),trivial⟩,⟨_,(.drop (.drop (.refl _))),rfl⟩,trivial⟩
           ·refine z6 Z Z c9<|z8 (zf wz Z sizeOf2 (by decide) Z Z)<|z6 Z Z c9<|z8 (zj (c:=.int _ _) isAgg2 Z ⟨_,.t1⟩ Z)<|z6 Z Z c9<|z8 (zf wz Z sizeOf2 (by decide) Z Z)<|z6 Z Z c9<|z8 (zj (c:=.int _ _) isAgg2 Z ⟨_,.head⟩ Z)<|z6 Z Z c9<|aD Z Z<|ak Z c9 Z<|ah Z<|zi (s:=167) Z (fun c10=>?_) (fun c10=>?_)
            ·refine z2 Z Z c10<|z2 Z Z c10<|z2 Z Z c10<|z2 Z Z c10<|z2 Z Z c10<|z2 Z Z c10<|ai Z c10 Z<|z7 ?_
             exact ⟨(),sd,⟨jb (by rw[e8,Bool.not_not];simp_all),trivial⟩,⟨_,(.drop (.drop (.refl _))),rfl⟩,trivial⟩
            ·refine z6 Z Z c10<|z8 (zf wz Z je (by decide) Z Z)<|z6 Z Z c10<|z8 (zj (c:=.fro _ _) jj Z ⟨_,.t1⟩ Z)<|z6 Z Z c10<|z8 (zf wz Z je (by decide) Z Z)<|z6 Z Z c10<|z8 (zj (c:=.fro _ _) jj Z ⟨_,.head⟩ Z)<|z6 Z Z c10<|zc (e6 _ _ (by assumption)) Z<|z6 Z Z c10<|aJ Z<|ak Z c10 Z<|z7 ?_
             exact ⟨(),sd,⟨jb (by rw[e8,Bool.not_not];simp_all),trivial⟩,⟨_,(.drop (.drop (.refl _))),rfl⟩,trivial⟩
         ·rintro _ _
          refine zn Z (fun cp=>?_) (fun cp=>?_)
          ·refine aj<|ae Z<|z7<|zd<|zg (x:=.bool _) Z ?_
           rw[q0 (fun e=>by subst e;simp at cp)]
          ·refine ze<|bA<|aI Z Z<|ab Z<|z7 ?_
           exact ⟨m+1,jT,bg,aX,⟨hj1,dA hj1 hj2 hpre3 (by simpa using cp)⟩,by omega⟩
        ·have hinsts:=dB hbi (by omega) hpre3
         refine zu<|bA<|aI Z Z<|ab Z<|z7 ?_
         exact ⟨k+1,r3,bg,⟨_,(.drop (.drop (.refl _))),rfl⟩,⟨hi1,dA hi1 hi2 hpre2 (uD hbn hbt hphis hinsts)⟩,by omega⟩
    ·have hblocks:=dB hbl (by omega) hpre2
     refine zu<|aj<|ae Z<|z7<|zd<|zg (x:=.bool _) Z ?_
     rw[decide_eq_true (sn hvars hpar hblocks)]
end
section
open Go.Proofs.Tryz
open Go.Proofs Go.Lib Go.Shelf Go.RowKit
set_option maxRecDepth 20000
variable {E:World}
def wV (l:List fY):Nat:=(l.map fun v=>v.name.size).sum
def wP (l:List dv):Nat:=(l.map fun p=>p.args.length+p.from_.length).sum
def wX (l:List aN):Nat:=(l.map fun x=>x.args.length).sum
def wB (b:aC):Nat:=b.name.size+10*(b.phis.length+b.insts.length)+wP b.phis+wX b.insts
def mG (l:List aC):Nat:=(l.map wB).sum
theorem uE {l:List fY} {k:Nat} (h:k<l.length):wV (l.take (k+1))=wV (l.take k)+l[k].name.size:=by
 unfold wV;rw[yu h,List.map_append,List.sum_append];simp only[List.map_cons,List.map_nil,List.sum_cons,List.sum_nil,Nat.add_zero]
theorem uF {l:List dv} {k:Nat} (h:k<l.length):wP (l.take (k+1))=wP (l.take k)+(l[k].args.length+l[k].from_.length):=by
 unfold wP;rw[yu h,List.map_append,List.sum_append];simp only[List.map_cons,List.map_nil,List.sum_cons,List.sum_nil,Nat.add_zero]
theorem uG {l:List aN} {k:Nat} (h:k<l.length):wX (l.take (k+1))=wX (l.take k)+l[k].args.length:=by
 unfold wX;rw[yu h,List.map_append,List.sum_append];simp only[List.map_cons,List.map_nil,List.sum_cons,List.sum_nil,Nat.add_zero]
theorem lN {l:List aC} {k:Nat} (h:k<l.length):mG (l.take (k+1))=mG (l.take k)+wB l[k]:=by
 unfold mG;rw[yu h,List.map_append,List.sum_append];simp only[List.map_cons,List.map_nil,List.sum_cons,List.sum_nil,Nat.add_zero]
def ny (b:aC):Prop:=b.name.size≤400∧b.phis.length≤400∧b.insts.length≤400∧(∀p∈b.phis,p.args.length≤400∧p.from_.length≤400)∧∀x∈b.insts,x.args.length≤400
def f0 (f:ap):Prop:=f.vars.length≤100∧f.blocks.length≤40∧f.params.length≤20∧(∀v∈f.vars,v.name.size≤400)∧(∀b∈f.blocks,ny b)∧(f.blocks≠[]→wV f.vars+mG f.blocks≤4000)
theorem f0.small {f:ap} (h:f0 f):small f:=by
 obtain ⟨h1,h2,h3,h4,h5,_⟩:=h
 refine ⟨by omega,by omega,by omega,fun v hv=>by have:=h4 v hv;omega,fun b hb=>?_⟩
 obtain ⟨g1,g2,g3,g4,g5⟩:=h5 b hb
 exact ⟨by omega,by omega,by omega,fun p hp=>by have:=g4 p hp;omega,fun x hx=>by have:=g5 x hx;omega⟩
def wL {α:Type} (l:List α):Prop:=l.length≤9223372036854775807
def xN (p:dv):Prop:=wL p.args∧wL p.from_
def xO (b:aC):Prop:=wL b.phis∧wL b.insts∧(∀p∈b.phis,xN p)∧(∀x∈b.insts,wL x.args)
def lO (f:ap):Prop:=wL f.vars∧wL f.params∧wL f.blocks∧∀b∈f.blocks,xO b
theorem wL.lt {α:Type} {l:List α} (h:wL l):l.length≤9223372036854775807:=h
def ri (f:ap):Bool:=decide ((100:Int)<f.vars.length)||(decide ((40:Int)<f.blocks.length)||decide ((20:Int)<f.params.length))
def rj (b:aC):Bool:=decide ((400:Int)<b.name.size)||(decide ((400:Int)<b.phis.length)||decide ((400:Int)<b.insts.length))
end
section
open Go.Proofs.Tryz
open Go.Proofs Go.Lib Go.Shelf Go.RowKit
set_option maxRecDepth 20000
variable {E:World}
end
section
open Go.Proofs.Tryz
open Go.Proofs Go.Lib Go.Shelf Go.RowKit
set_option maxRecDepth 20000
variable {E:World}
theorem uH:∀r∈dn,r.1≠⟨#[]⟩:=by decide
theorem uI {op:Int} (h:0≤op∧op≤26):(bf op).1≠⟨#[]⟩:=by
 have hm:bf op∈dn:=by
  unfold bf
  rw[if_pos h.1,yt (show _<27 by omega)]
  exact yx _
 exact uH _ hm
theorem so:∀j:Nat,j<27→ij (j:Int)=(decide ((bf (j:Int)).1=⟨#[99,111,110,115,116]⟩)||decide ((bf (j:Int)).1=⟨#[112,105]⟩)):=by decide
theorem kx {x:aN} (h:0≤x.op∧x.op≤26):ez x=ij x.op:=by
 have:=so x.op.toNat (by omega)
 rw[Int.toNat_of_nonneg h.1] at this
 unfold ez;exact this.symm
theorem f6 (op:Int):(aV op).length=(bf op).2.1.size:=by unfold aV;rw[List.length_map];exact Array.length_toList
theorem rk (b:ByteArray):b.data.toList.isEmpty=decide (b=⟨#[]⟩):=by
 obtain ⟨⟨l⟩⟩:=b
 cases l<;>simp
theorem e9 (op:Int):cf op=!decide ((bf op).2.2=⟨#[]⟩):=by unfold cf;rw[rk]
theorem rl {op:Int} (h:¬(0≤op∧op≤26)):bf op=(⟨#[]⟩,⟨#[]⟩,⟨#[]⟩):=lK (by unfold jX;simp;omega)
theorem iD (f:ap) (x:aN):bE f x=true↔iy f x:=by
 by_cases h:0≤x.op∧x.op≤26
 ·have hw:=uI h
  have hn:=kx h
  unfold bE dj dp iy fZ
  rw[f6,e9,hn]
  by_cases h1:x.args.length=(bf x.op).2.1.size<;>by_cases h2:(bf x.op).2.2=⟨#[]⟩<;>by_cases h3:x.dst=-1<;>by_cases h4:x.num=0<;>by_cases h5:x.args.all (bb f)=true<;>simp_all[Int.ofNat_inj]<;>(try (unfold bb;simp))<;>(try grind)
 ·constructor
  ·intro h2
   have:=rl h
   unfold bE dj at h2
   rw[this] at h2;simp at h2
  ·intro h2;exact absurd ⟨h2.1,h2.2.1⟩ h
def only (f:ap) (x:aN):ap:={ f with blocks:=[⟨⟨#[111,110,108,121]⟩,[],[x],⟨0,0,0,0⟩⟩] }
def ended (f:ap) (b0:aC) (bs:List aC) (t:fE):ap:={ f with blocks:={ b0 with term:=t }::bs }
end
section
open Go.Proofs.Tryz
open Go.ChangeShapes Go.WideShapes Go.ChangeAt Go.RowKit Go.Deep
def full (W:World):aF:=fun b=>W.heap[b]?
theorem uJ (W:World):SL (full W) [] W W:=⟨rfl,rfl,rfl,fun _ _ h=>h,by simp,by simp,by simp,fun _ _ h=>h,(fun _ _ h h2=>by rw[show W.heap[_]?=some _ from h] at h2;cases h2),by simp⟩
def I0 (W:World):G:=⟨full W,fun _=>none⟩
theorem iE {W:World} {p:Addr} {v:Value} (h:W.cell? p=some v):p=⟨p.block,p.off,none⟩∧qY (full W) p.block p.off v:=by
 unfold World.cell? at h
 split at h
 ·rename_i c t f hb
  split at h
  ·cases h
  ·rename_i hs
   have:p.spot=none:=by simpa using hs
   obtain ⟨b,o,s⟩:=p
   simp only at this
   subst this
   exact ⟨rfl,⟨c,t,f,hb,h⟩⟩
 ·cases h
def cU (P:Program) (W:World) (T:TypeId) {α:Type} (enc:α→List AV) (ok:α→Prop):Prop:=
 ∀{H:Type} (e:TypeId × Value→H) (held:Bool) (fuel:Nat) (cs:List Value) (x:DataW H × List MemPlace),DataW.trod e P W 0 (fun _=>true) held fuel T cs=some x→∃a,ok a∧RepL (I0 W) (enc a) cs
section
variable {P:Program} {W:World} {T e:TypeId}
theorem cU.int {k:IntKind} (hu:P.underlying T=some (.int k)):cU P W T (fun x:Int=>[.int k x]) (fun x=>(Lit.int k x).wf=true):=fun _ _ _ _ _ h=>by
 obtain ⟨n,rfl,_,hw⟩:=DataW.trod_int hu h
 exact ⟨n,hw,_,_,rfl,rfl,rfl⟩
theorem cU.bool (hu:P.underlying T=some .bool):cU P W T (fun x:Bool=>[.bool x]) (fun _=>True):=fun _ _ _ _ _ h=>by
 obtain ⟨n,rfl,_⟩:=DataW.trod_bool hu h
 exact ⟨n,trivial,_,_,rfl,rfl,rfl⟩
theorem cU.str (hu:P.underlying T=some .string):cU P W T (fun x:ByteArray=>[.str x]) (fun x=>x.size≤maxLen):=fun _ _ _ _ _ h=>by
 obtain ⟨n,rfl,_,hw⟩:=DataW.trod_string hu h
 exact ⟨n,hw,_,_,rfl,rfl,rfl⟩
theorem cU.slice {α:Type} {enc:α→List AV} {ok:α→Prop} {k:Nat} (ht:P.underlying T=some (.slice e)) (he:cU P W e enc ok) (hk:P.cellsOf e=k) (hk0:0<k) :
  cU P W T (fun xs:List α=>[.fro k (xs.map enc)]) (fun xs=>(∀x∈xs,ok x)∧xs.length≤maxLen):=fun en held fuel cs x h=>by
 rcases open_slice ht h with ⟨rfl,_⟩|⟨a,len,cap,m,n,D,Pl,rfl,_,hl,hc,hm,_,hr⟩
 ·exact ⟨[],⟨by simp,yw _⟩,_,_,rfl,⟨none,0,0,rfl,rfl,Nat.le_refl _,fun _=>rfl,trivial⟩,rfl⟩
 ·simp only[if_true] at hm
  have each:∀i,i<len→∃y:α,ok y∧∃vs:List Value,vs.length=k∧RepL (I0 W) (enc y) vs∧∀j (u:Value),vs[j]?=some u→W.cell? (a.add (i*k+j))=some u:=by
   intro i hi
   obtain ⟨cs,h1,h2⟩:=hr i (by omega)
   rw[hk] at h1
   obtain ⟨_,hcl,hat⟩:=World.cells?_some h1
   obtain ⟨y,hy,hrep⟩:=he en held n cs _ h2
   refine ⟨y,hy,cs,hcl,hrep,fun j u hu=>?_⟩
   have hj:j<k:=by have:=(List.getElem?_eq_some_iff.1 hu).1;omega
   have:=hat j hj
   rw[Go.Deep.add_add] at this
   rw[this,hu]
  by_cases h0:len=0
  ·subst h0
   exact ⟨[],⟨by simp,yw _⟩,_,_,rfl,⟨some a,0,cap,rfl,rfl,yw _,fun h=>by (cases h),trivial⟩,rfl⟩
  ·obtain ⟨y0,_⟩:=each 0 (by omega)
   have:Inhabited α:=⟨y0⟩
   obtain ⟨Y,hY⟩:=choose_lt each
   have ha:a=⟨a.block,a.off,none⟩:=by
    obtain ⟨_,vs,hvl,_,hat⟩:=hY 0 (by omega)
    have:=hat 0 _ (yt (show 0<vs.length by omega))
    rw[Nat.zero_mul] at this
    exact (iE (by simpa [Addr.add] using this)).1
   refine ⟨(List.range len).map Y,⟨?_,by simp;omega⟩,_,_,Z,⟨some a,len,cap,Z,by simp,hl,fun h=>by (cases h),RepR.intro fun j r hj=>?_⟩,Z⟩
   ·intro x hx
    obtain ⟨i,hi,rfl⟩:=List.mem_map.1 hx
    exact (hY i (by simpa using hi)).1
   ·rw[List.getElem?_map,List.getElem?_map] at hj
    have hjl:j<len:=by
     rcases Nat.lt_or_ge j len with h|h
     ·exact h
     ·rw[List.getElem?_eq_none (by simpa using h)] at hj;cases hj
    rw[List.getElem?_range hjl] at hj
    simp only[Option.map_some,Option.some.injEq] at hj
    subst hj
    obtain ⟨_,vs,hvl,hrep,hat⟩:=hY j hjl
    refine ⟨a.block,a.off,vs,by rw[←ha],hvl,hrep,fun i u hu=>?_⟩
    have:=hat i u hu
    rw[ha,bd] at this
    have:=(iE this).2
    rw[Nat.zero_add,Nat.add_assoc];exact this
theorem RepL.fld {I:G} {cs:List Value} {e es:List AV} {o k:Nat} (h1:RepL I e ((cs.drop o).take k)) (h2:RepL I es (cs.drop (o+k))):RepL I (e++es) (cs.drop o):=by
 have:=h1.append h2
 rwa [←List.drop_drop,List.take_append_drop] at this
theorem RepL.fin {I:G} {cs:List Value} {o:Nat} (h:cs.length=o):RepL I [] (cs.drop o):=List.drop_eq_nil_of_le (by omega)
theorem cU.at {α:Type} {enc:α→List AV} {ok:α→Prop} {f:Field} {H:Type} {en:TypeId × Value→H} {held:Bool} {n o k i:Nat} {cs:List Value} {xs:List (DataW H × List MemPlace)}
  (h1:DataW.trod en P W 0 (fun _=>true) held n f.type ((cs.drop f.offset).take (P.cellsOf f.type))=xs[i]?) (hd:cU P W f.type enc ok) (h2:i<xs.length) (ho:f.offset=o) (hk:P.cellsOf f.type=k) :
  ∃a,ok a∧RepL (I0 W) (enc a) ((cs.drop o).take k):=by
 rw[yt h2,ho,hk] at h1
 exact hd en held n _ _ h1
theorem cU.pair {α:Type} {enc:α→List AV} {ok:α→Prop} {k:Nat} (ht:P.underlying T=some (.array 2 e)) (he:cU P W e enc ok) (hk:P.cellsOf e=k) (hT:P.cellsOf T=k+k) :
  cU P W T (fun x:α × α=>enc x.1++enc x.2) (fun x=>ok x.1∧ok x.2):=fun en held fuel cs x h=>by
 obtain ⟨xs,m,_,_,hl,hxl,hf⟩:=DataW.trod_array ht h
 have h0:=hf 0 (by omega)
 have h1:=hf 1 (by omega)
 rw[yt (by omega),hk] at h0 h1
 rw[Nat.zero_mul] at h0
 rw[Nat.one_mul] at h1
 obtain ⟨a,ha,ra⟩:=he en held m _ _ h0
 obtain ⟨b,hb,rb⟩:=he en held m _ _ h1
 refine ⟨(a,b),⟨ha,hb⟩,?_⟩
 have hcl:cs.length=k+k:=by rw[hl,hT]
 have h2:(cs.drop k).take k=cs.drop k:=List.take_of_length_le (by rw[List.length_drop];omega)
 rw[h2] at rb
 have:=ra.append rb
 rw[List.drop_zero,List.take_append_drop] at this
 exact this
end
theorem iF {P:Program} {W:World} {name:String} {k:IntKind} {zs:List Int} {g:Nat} {t e:TypeId} {n:Nat}
  (hg:P.globalNamed name=some g) (hty:(P.globals[g]?).map (·.type)=some t) (ht:P.underlying t=some (.array n e)) (he:P.underlying e=some (.int k)) (hce:P.cellsOf e=1) (hct:P.cellsOf t=n)
  (h:Lib.VarReads P W name (Lib.tabData k zs)):Lib.TabIs P W name k zs:=by
 obtain ⟨g',t',cs,fuel,p,hg',ht',hvar,hd⟩:=h
 obtain rfl:=Option.some.inj (hg.symm.trans hg')
 obtain rfl:=Option.some.inj (hty.symm.trans ht')
 unfold Lib.TabIs
 rw[hvar,←Lib.cells_of_tab ht he hce hct hd]
theorem aQ.call {P:Program} {W:World} {f:FuncId} {us:List AV} {vs:List Value} {r:AV} (h:aQ P W f us r) (hr:RepL (I0 W) us vs) (hp:r.plain=true):Calls P f vs.toArray W fun e w'=>∃v,e=.returned v∧bu (I0 W) r v∧Below W.heap.size W w':=by
 have:=(h (I0 W) [] W vs hr ⟨⟨0,fun _ _=>rfl⟩,[],rfl,uJ W⟩).2
 refine this.mono fun e w' ⟨v,he,J,x,O',hle,hx,hS,hxr⟩=>⟨v,he,?_,?_⟩
 ·subst hxr;exact AV.plain_rep hp hx
 ·obtain ⟨_,L,_,hSL⟩:=hS
  exact hSL.belowE
end
section
open Go.Proofs.Tryz
section
variable {E:World} {P:Program} {n:Nat} {env:aE} {O O' O'':OL} {i k m:Nat} {T:TypeId} {rows rows':List (List AV)}
end
section
variable {E:World} {P:Program} {f:FuncId} {us bs:List AV} {r:AV}
end
section
variable {E:World} {P:Program} {n:Nat} {ops:Array Oper} {K:aE→OL→Prop} {env:aE} {O O':OL} {rest:List Oper}
variable {d ty:Nat} {pos:String} {af:Array Edge} {t e:TypeId} {x y:Operand} {L:List (Nat × Obj)}
end
end
section
open Go.Proofs.Tryz
section
variable {E:World} {P:Program} {n:Nat} {ops:Array Oper} {K:aE→OL→Prop} {env:aE} {O O':OL} {rest:List Oper}
variable {d ty:Nat} {pos:String} {af:Array Edge} {t e:TypeId} {x y:Operand}
end
end
section
open Go.Proofs.Tryz
def eE (s:ByteArray):List (ByteArray × Int)→Option Int
 |[]=>none
 |(k,v)::es=>if s=k then some v else eE s es
def gE (s:ByteArray) (v:Int):List (ByteArray × Int)→List (ByteArray × Int)
 |[]=>[(s,v)]
 |(k,u)::es=>if s=k then (k,v)::es else (k,u)::gE s v es
def gm (p:ByteArray × Int):Value × Value:=(.string p.1,.int .i64 p.2)
def zW (b:Nat) (es:List (ByteArray × Int)) (L:List (Nat × Obj)):Prop:=∃(arr:Array MapEntry) (clock:Nat),L=[(b,.map arr clock)]∧arr.toList.map (fun e=>(e.key,e.val))=es.map gm
def rm (b:Nat) (es:List (ByteArray × Int)):bi:=.heap (zW b es)
def rn (b:Nat):AV:=.raw (.map (some b))
theorem eh {s:ByteArray}:∀{l:List MapEntry} {es:List (ByteArray × Int)} {i:Nat},l.map (fun e=>(e.key,e.val))=es.map gm→eE s es=none→Instr.findNow .string (.string s) l i=some none
 |[],[],_,_,_=>rfl
 |[],_::_,_,h,_=>by cases h
 |_::_,[],_,h,_=>by cases h
 |e::l,(k,v)::es,i,h,hg=>by
  simp only[List.map_cons,List.cons.injEq,gm,Prod.mk.injEq] at h
  obtain ⟨⟨h1,_⟩,h2⟩:=h
  simp only[eE] at hg
  split at hg
  ·cases hg
  ·rename_i hne
   unfold Instr.findNow
   rw[h1]
   have:(s == k)=false:=Bool.eq_false_iff.2 fun h=>hne ((MapKept.bytes_beq s k).1 h)
   simp only[Instr.sameNow,this]
   exact eh h2 hg
theorem ei {s:ByteArray} {u:Int}:∀{l:List MapEntry} {es:List (ByteArray × Int)} {i:Nat},l.map (fun e=>(e.key,e.val))=es.map gm→eE s es=some u →
  ∃j,Instr.findNow .string (.string s) l i=some (some (i+j,.int .i64 u))∧(∃e,l[j]?=some e∧e.key=.string s)∧∀v,es.set j (s,v)=gE s v es
 |[],[],_,_,hg=>by cases hg
 |[],_::_,_,h,_=>by cases h
 |_::_,[],_,h,_=>by cases h
 |e::l,(k,v)::es,i,h,hg=>by
  simp only[List.map_cons,List.cons.injEq,gm,Prod.mk.injEq] at h
  obtain ⟨⟨h1,h3⟩,h2⟩:=h
  simp only[eE] at hg
  unfold Instr.findNow
  rw[h1]
  split at hg
  ·rename_i heq
   subst heq
   cases hg
   refine ⟨0,?_,⟨e,Z,h1⟩,fun v=>?_⟩
   ·have hss:(s == s)=true:=(MapKept.bytes_beq s s).2 rfl
    simp only[Instr.sameNow,hss]
    rw[h3];rfl
   ·simp[gE]
  ·rename_i hne
   have hb:(s == k)=false:=Bool.eq_false_iff.2 fun h=>hne ((MapKept.bytes_beq s k).1 h)
   obtain ⟨j,g1,g2,g3⟩:=ei (i:=i+1) h2 hg
   refine ⟨j+1,?_,by simpa using g2,fun v=>?_⟩
   ·simp only[Instr.sameNow,hb,g1]
    congr 3;omega
   ·simp[gE,hne,g3]
section
variable {E:World} {P:Program} {n:Nat} {ops:Array Oper} {K:aE→OL→Prop} {env:aE} {O O':OL} {rest:List Oper}
variable {d ty:Nat} {pos:String} {af:Array Edge} {t e kt:TypeId} {x y z:Operand} {b i:Nat} {es:List (ByteArray × Int)}
theorem aq.makeMap (k:∀b,aq P E ops K rest (bp env d (rn b)) ((0,rm b [])::O)):aq P E ops K (Oper.mk (some d) (.makeMap t none) ty pos af none::rest) env O:=fun I F ρ w h1 ⟨ht,L,hL,hS⟩=>by
 refine bq.step Z ?_
 unfold cQ
 have:(execOp (Go.Proofs.YtbconpmnckokoaaGreatDoor.ev ρ) (Oper.mk (some d) (.makeMap t none) ty pos af none)).run P w=.ok (.value (.map (some w.heap.size))) (w.alloc (.map #[] 0)):=by
  simp only[execOp,Option.map_none]
  rw[Sem.run_bind,run_makeMap_plain];rfl
 rw[this]
 exact k w.heap.size I F _ _ (h1.upd d rfl) ⟨ht,(w.heap.size,.map #[] 0)::L,⟨[_],L,rfl,⟨#[],0,rfl,rfl⟩,hL⟩,hS.alloc _⟩
theorem w0 {I:G} {L:List (Nat × Obj)} (hO:qZ O i (rm b es)) (hL:bk I O L):∃(arr:Array MapEntry) (clock:Nat),(b,Obj.map arr clock)∈L∧arr.toList.map (fun e=>(e.key,e.val))=es.map gm:=by
 obtain ⟨O',hO⟩:=hO
 obtain ⟨A,B,hp,⟨arr,clock,rfl,h2⟩,_⟩:=hO.rep hL
 exact ⟨arr,clock,hp.mem_iff.2 (by simp),h2⟩
theorem aq.mapSet {s:ByteArray} {v:Int} (ht:P.underlying t=some (.map kt e)) (hk:P.underlying kt=some .string) (hx:aT env x=rn b) (hy:aT env y=.str s) (hz:aT env z=.int .i64 v) (hO:ed O i (rm b es) (rm b (gE s v es)) O')
  (k:aq P E ops K rest env O'):aq P E ops K (Oper.mk none (.mapUpdate t x y z) ty pos af none::rest) env O:=fun I F ρ w h1 ⟨htop,L,hL,hS⟩=>by
 have hx:=r7 h1 hx
 have hy:=uo h1 hy
 have hz:=fU h1 hz
 obtain ⟨A,B,hp,⟨arr,clock,rfl,he⟩,hback⟩:=hO.rep hL
 have hS2:SL I.k ((b,.map arr clock)::(B++F)) E w:=hS.perm ((hp.append_right F).symm)
 have hb:=hS2.own _ (.head _)
 simp only at hb
 have hc:(Instr.checkKey false 10000 kt (.string s)).run P w=.ok () w:=MapKept.run_checkKey (k:=.string s) hk (by simp[MapKept.IsKey]) false 9999
 have fin:∀(arr':Array MapEntry) (clock':Nat),arr'.toList.map (fun e=>(e.key,e.val))=(gE s v es).map gm →
   (execOp (Go.Proofs.YtbconpmnckokoaaGreatDoor.ev ρ) (Oper.mk none (.mapUpdate t x y z) ty pos af none)).run P w=.ok .skip { w with heap:=w.heap.setIfInBounds b (.map arr' clock') }→bq P ops (cG I F E K) (Oper.mk none (.mapUpdate t x y z) ty pos af none::rest) ρ w:=fun arr' clock' he' hrun=>by
  refine bq.step Z ?_
  unfold cQ
  rw[hrun]
  obtain ⟨L',h7,h8⟩:=hback (G.le.refl I) (A':=[(b,.map arr' clock')]) ⟨arr',clock',rfl,he'⟩
  have hh:=MapKept.heap_set (o':=.map arr' clock') hb
  have hS3:SL I.k ((b,.map arr' clock')::(B++F)) E { w with heap:=w.heap.setIfInBounds b (.map arr' clock') }:=hS2.turn rfl rfl rfl hh.1 hh.2
  exact k I F ρ _ h1 ⟨htop,L',h7,hS3.perm (h8.append_right F)⟩
 cases hg:eE s es with
 |none=>
  have hf:=eh (i:=0) he hg
  refine fin (arr.push { key:=.string s,val:=.int .i64 v,born:=clock }) (clock+1) ?_ ?_
  ·have hset:∀es:List (ByteArray × Int),eE s es=none→gE s v es=es++[(s,v)]:=fun es=>by
    induction es with
    |nil=>intro _;rfl
    |cons x es ih=>
     obtain ⟨k,u⟩:=x
     intro hg
     simp only[eE] at hg
     split at hg
     ·cases hg
     ·rename_i hne;simp[gE,hne,ih hg]
   rw[hset es hg]
   simp[he,gm]
  ·simp[execOp,hx,hy,hz,Instr.mapUpdate,run_underlying ht,MapKept.run_getObj_map hb,hc,MapKept.run_findKey hk hf,MapKept.run_setObj_map _ hb,Result.andThen]
 |some u=>
  obtain ⟨j,hf,⟨e0,hj,hkey⟩,hset⟩:=ei (i:=0) he hg
  rw[Nat.zero_add] at hf
  have hj':arr[j]?=some e0:=by rw[←Array.getElem?_toList];exact hj
  refine fin (arr.modify j fun e=>{ e with key:=.string s,val:=.int .i64 v }) clock ?_ ?_
  ·rw[←hset v,List.map_set]
   have hjl:j<arr.toList.length:=(List.getElem?_eq_some_iff.1 hj).1
   have:(arr.modify j fun e=>{ e with key:=.string s,val:=.int .i64 v }).toList=arr.toList.set j { e0 with key:=.string s,val:=.int .i64 v }:=by
    apply List.ext_getElem?
    intro q
    rw[Array.getElem?_toList,Array.getElem?_modify]
    by_cases hq:j=q
    ·subst hq
     rw[if_pos rfl,hj',List.getElem?_set_self hjl];rfl
    ·rw[if_neg hq,List.getElem?_set_ne hq,Array.getElem?_toList]
   rw[this,List.map_set,he];rfl
  ·have hkeep:(Instr.keyThatStays (.string s) (.string s)).run P w=.ok (.string s) w:=by
    have hss:(s == s)=true:=(MapKept.bytes_beq s s).2 rfl
    simp[Instr.keyThatStays,Instr.sameBits,hss]
   simp[execOp,hx,hy,hz,Instr.mapUpdate,run_underlying ht,MapKept.run_getObj_map hb,hc,MapKept.run_findKey hk hf,MapKept.run_setObj_map _ hb,Result.andThen,hj',hkey,hkeep]
end
end
section
open Go.Proofs.Tryz
section
variable {E:World} {P:Program} {n:Nat} {ops:Array Oper} {K:aE→OL→Prop} {env:aE} {O O':OL} {rest:List Oper} {R:AV→OL→Prop}
variable {d ty:Nat} {pos:String} {af:Array Edge} {t e:TypeId} {x y:Operand}
theorem bC.c1t {t u T i:Nat} {T':TypeId} {cs:List AV} {n:Nat} {y:AV} (hv:env t=.po i 0) (hu:env u=y) (hO:qZ O i (.cells T' cs)) (ha:∀w,(isAgg T).run P w=.ok true w) (hs:∀w,(sizeOf T).run P w=.ok n w) (hn:cs.length=n) (h:R (.tup [.agg cs,y]) O) :
  bC P E #[.cell t T,.tmp u] R .ret env O:=bC.of (x:=.tup [.agg cs,y]) (fun I F ρ w h1 h2=>by
 obtain ⟨L,hL,hS⟩:=h2.2
 have h3:=h1 t
 rw[hv] at h3
 obtain ⟨b,c,e1,e⟩:=h3
 obtain ⟨b',c',vs,e2,h4,hm⟩:=hO.cells hL
 rw[e1] at e2;cases e2
 have hl:=dl (P:=P) (w:=w) (b:=b) (off:=0) ha (cs:=vs) (by rw[h4.length,hn];exact hs) (fun j v hj=>by
  rw[Nat.zero_add]
  exact hS.at_ (.inr ⟨_,_,_,List.mem_append_left _ hm,by rw[List.getElem?_toArray];exact hj⟩))
 exact ⟨.tuple #[.agg vs.toArray,ρ u],by simp[hZ,e,asAddr,hl],⟨[_,_],rfl,_,_,rfl,⟨vs,rfl,h4⟩,_,_,rfl,hu▸h1 u,rfl⟩⟩) h
theorem kQ {b off n:Nat} {vs:List Value} {T:TypeId} {old:List Value} {w:World} (hn:vs.length=n) (h1c:∀u∈vs,u.oneCell'=true) (hb:off+n≤old.length) (hown:w.heap[b]?=some (.cells old.toArray T (0,0))) :
  (storeCells (⟨b,off,none⟩:Addr) vs 0).run P w=.ok () (w.setRow b (old.take off++vs++old.drop (off+n)).toArray):=by
 rw[run_storeCells_at (P:=P) b off T vs 0 old.toArray w hown (by simp;omega) h1c]
 simp[hn]
end
end
section
open Go.Proofs.Tryz
open Go.Proofs Go.Lib Go.Shelf Go.RowKit
set_option maxRecDepth 20000
variable {E:World}
def b9 (c:Int):Bool:=isLetterU c&&!decide (c=65533)
def iG (c:Int):Bool:=decide (48≤c)&&decide (c≤57)
def cu (c:Int):Bool:=b9 c||(iG c||(decide (c=46)||decide (c=95)))
theorem fH (c:Int) (h1:-2147483648≤c) (h2:c≤2147483647) (hL:ac E):aQ prog E 114 [.int .i32 c] (.bool (b9 c)):=by
 refine zk func114 Z (by decide) Z<|aj<|ae Z<|z7<|aj<|ab Z<|zc (eQ c h1 h2 hL) Z<|ah Z<|zi (s:=5) Z (fun c1=>?_) (fun c1=>?_)
 ·refine z6 Z Z c1<|ab Z<|z6 Z Z c1<|aD Z Z<|ai Z c1 Z<|ae Z<|z7<|zd<|zg (x:=.bool _) Z ?_
  exact jb (by simp_all[b9])
 ·refine z2 Z Z c1<|z2 Z Z c1<|ak Z c1 Z<|ae Z<|z7<|zd<|zg (x:=.bool _) Z ?_
  exact jb (by simp_all[b9])
theorem lP (c:Int):aQ prog E 143 [.int .i32 c] (.bool (iG c)):=by
 refine zk func143 Z (by decide) Z<|aj<|ae Z<|z7<|aj<|ab Z<|z8 (Gv.geq Z Z)<|ah Z<|zi (s:=5) Z (fun c2=>?_) (fun c2=>?_)
 ·refine z6 Z Z c2<|ab Z<|z6 Z Z c2<|z8 (Gv.leq Z Z)<|ai Z c2 Z<|ae Z<|z7<|zd<|zg (x:=.bool _) Z ?_
  exact jb (by simp_all[iG]<;>(intros;omega))
 ·refine z2 Z Z c2<|z2 Z Z c2<|ak Z c2 Z<|ae Z<|z7<|zd<|zg (x:=.bool _) Z ?_
  exact jb (by simp_all[iG]<;>(intros;omega))
theorem gn (c:Int) (h1:-2147483648≤c) (h2:c≤2147483647) (hL:ac E):aQ prog E 115 [.int .i32 c] (.bool (cu c)):=by
 refine zk func115 Z (by decide) Z<|aj<|ae Z<|z7<|aj<|ab Z<|zc (fH c h1 h2 hL) Z<|ah Z<|zi (s:=5) Z (fun c3=>?_) (fun c3=>?_)
 ·refine z2 Z Z c3<|z2 Z Z c3<|ai Z c3 Z<|ah Z<|z2 Z Z Z<|z2 Z Z Z<|ai Z Z Z<|ah Z<|z2 Z Z Z<|z2 Z Z Z<|ai Z Z Z<|ae Z<|z7<|zd<|zg (x:=.bool _) Z ?_
  exact jb (by simp_all[cu])
 ·refine z6 Z Z c3<|ab Z<|z6 Z Z c3<|zc (lP _) Z<|ak Z c3 Z<|ah Z<|zi (s:=9) Z (fun c4=>?_) (fun c4=>?_)
  ·refine z2 Z Z c4<|z2 Z Z c4<|ai Z c4 Z<|ah Z<|z2 Z Z Z<|z2 Z Z Z<|ai Z Z Z<|ae Z<|z7<|zd<|zg (x:=.bool _) Z ?_
   exact jb (by simp_all[cu])
  ·refine z6 Z Z c4<|ab Z<|z6 Z Z c4<|aA Z Z<|ak Z c4 Z<|ah Z<|zi (s:=13) Z (fun c5=>?_) (fun c5=>?_)
   ·refine z2 Z Z c5<|z2 Z Z c5<|ai Z c5 Z<|ae Z<|z7<|zd<|zg (x:=.bool _) Z ?_
    exact jb (by simp_all[cu])
   ·refine z6 Z Z c5<|ab Z<|z6 Z Z c5<|aA Z Z<|ak Z c5 Z<|ae Z<|z7<|zd<|zg (x:=.bool _) Z ?_
    exact jb (by simp_all[cu])
def aZ (s:ByteArray) (p:Nat):List Int:=if h:p<s.size then ((Utf8.decode s p).1:Int)::aZ s (p+(Utf8.decode s p).2) else[]
termination_by s.size - p
decreasing_by have:=(b5 s p).1;omega
theorem cA {s:ByteArray} {p:Nat} (h:p<s.size):aZ s p=((Utf8.decode s p).1:Int)::aZ s (p+(Utf8.decode s p).2):=by rw[aZ,dif_pos h]
theorem bB {s:ByteArray} {p:Nat} (h:¬p<s.size):aZ s p=[]:=by rw[aZ,dif_neg h]
theorem ka (s:ByteArray):∀k p,s.size - p≤k→(aZ s p).length≤k:=by
 intro k
 induction k with
 |zero=>intro p h;rw[bB (by omega)];simp
 |succ k ih=>
  intro p h
  by_cases hp:p<s.size
  ·rw[cA hp]
   have:=(b5 s p).1
   have:=ih (p+(Utf8.decode s p).2) (by omega)
   simp;omega
  ·rw[bB hp];simp
theorem mH (s:ByteArray) (hs:s.size≤140737488355328):aQ prog E 116 [.str s] (.int .i64 (aZ s 0).length):=by
 have h0:=ka s s.size 0 (by omega)
 refine zk func116 Z (by decide) Z<|aj<|aw Z<|z7<|aj<|aw Z<|z7<|za<|aj<|z8 (zw (v:=.str _) Z)<|aq.rangeT jr Z<|fun i5=>z7<|zh<|zt (γ:=Nat × Nat) [5] (fun g=>[(3,.int .i64 g.2)]) (fun g=>[(i5,.iter s g.1)]) (fun g=>g.2+(aZ s g.1).length=(aZ s 0).length) (fun g=>s.size - g.1) (0,0) bg aX (by simp) ?_
 rintro ⟨p,n⟩ hp
 try dsimp only at *
 by_cases hlt:p<s.size
 ·have hd:=(b5 s p).1
  rw[cA hlt] at hp
  simp only[List.length_cons] at hp
  refine aj<|aq.nextT Z .head hlt<|z8 (wA Z Z)<|z7<|za<|y9 Z Z<|ze<|zh<|bA<|ab Z<|aI Z Z<|aw Z<|z7 ?_
  exact ⟨(p+(Utf8.decode s p).2,n+1),bg,bg,aX,by dsimp only;omega,by dsimp only;omega⟩
 ·rw[bB hlt] at hp
  simp only[List.length_nil] at hp
  refine aj<|aq.nextTover Z .head hlt<|z8 (wA Z Z)<|z7<|za<|y7 Z Z<|zu<|aj<|ab Z<|aw Z<|z7<|zd<|zg (x:=.int _ _) Z ?_
  exact congrArg (AV.int .i64) (by omega)
def iH (s:ByteArray) (p:Nat):Bool:=if h:p<s.size then (if (decide (p=0)&&!b9 ((Utf8.decode s p).1:Int))||!cu ((Utf8.decode s p).1:Int) then false else iH s (p+(Utf8.decode s p).2)) else (decide (¬s=⟨#[]⟩)&&decide (((aZ s 0).length:Int)≤16))
termination_by s.size - p
decreasing_by have:=(b5 s p).1;omega
def cx (s:ByteArray):Bool:=iH s 0
theorem mI (s:ByteArray) (hs:s.size≤140737488355328) (hL:ac E):aQ prog E 90 [.str s] (.bool (cx s)):=by
 refine zk func90 Z (by decide) Z<|aj<|ae Z<|z7<|za<|aj<|z8 (zw (v:=.str _) Z)<|aq.rangeT jr Z<|fun i6=>z7<|zh<|zt (γ:=Nat) [0,6] (fun p=>[]) (fun p=>[(i6,.iter s p)]) (fun p=>iH s p=cx s) (fun p=>s.size - p) 0 trivial aX (Z) ?_
 rintro p hp
 by_cases hlt:p<s.size
 ·obtain ⟨hd1,hd2⟩:=b5 s p
  have hstep:=hp
  rw[iH,dif_pos hlt] at hstep
  refine aj<|aq.nextT Z .head hlt<|z8 (wA Z Z)<|z7<|za<|y9 Z Z<|ze<|zh<|aj<|z8 (wx Z Z)<|z8 (wx Z Z)<|aw Z<|aw Z<|z7<|aj<|ab Z<|aA Z Z<|ah Z<|zi (s:=13) Z (fun c6=>?_) (fun c6=>?_)
  ·refine z6 Z Z c6<|ab Z<|z6 Z Z c6<|zc (fH _ (by omega) (by omega) hL) Z<|z6 Z Z c6<|aJ Z<|ai Z c6 Z<|ah Z<|zi (s:=18) Z (fun c7=>?_) (fun c7=>?_)
   ·refine z2 Z Z c7<|z2 Z Z c7<|z2 Z Z c7<|ai Z c7 Z<|z7<|y9 Z Z<|aj<|ae Z<|z7<|zd<|zg (x:=.bool _) Z ?_
    rw[if_pos (by simp_all<;>omega)] at hstep;exact jb hstep
   ·refine z6 Z Z c7<|ab Z<|z6 Z Z c7<|zc (gn _ (by omega) (by omega) hL) Z<|z6 Z Z c7<|aJ Z<|ak Z c7 Z<|z7<|zn Z (fun c8=>?_) (fun c8=>?_)
    ·refine aj<|ae Z<|z7<|zd<|zg (x:=.bool _) Z ?_
     rw[if_pos (by simp_all<;>omega)] at hstep;exact jb hstep
    ·refine ze ?_
     exact ⟨p+(Utf8.decode s p).2,fT,trivial,aX,by rw[if_neg (by simp_all<;>omega)] at hstep;exact hstep,by omega⟩
  ·refine z2 Z Z c6<|z2 Z Z c6<|z2 Z Z c6<|ak Z c6 Z<|ah Z<|z6 Z Z Z<|ab Z<|z6 Z Z Z<|zc (gn _ (by omega) (by omega) hL) Z<|z6 Z Z Z<|aJ Z<|ak Z Z Z<|z7<|zn Z (fun c9=>?_) (fun c9=>?_)
   ·refine aj<|ae Z<|z7<|zd<|zg (x:=.bool _) Z ?_
    rw[if_pos (by simp_all<;>omega)] at hstep;exact jb hstep
   ·refine ze ?_
    exact ⟨p+(Utf8.decode s p).2,fT,trivial,aX,by rw[if_neg (by simp_all<;>omega)] at hstep;exact hstep,by omega⟩
 ·rw[iH,dif_neg hlt] at hp
  refine aj<|aq.nextTover Z .head hlt<|z8 (wA Z Z)<|z7<|za<|y7 Z Z<|zu<|aj<|z8 (zw (v:=.str _) Z)<|z8 (Gv.neqT Z Z)<|ah Z<|zi (s:=25) Z (fun c10=>?_) (fun c10=>?_)
  ·refine z6 Z Z c10<|z8 (zw (v:=.str _) Z)<|z6 Z Z c10<|zc (mH _ (by assumption)) Z<|z6 Z Z c10<|z8 (Gv.leq Z Z)<|ai Z c10 Z<|ae Z<|z7<|zd<|zg (x:=.bool _) Z ?_
   rw[←hp];exact jb (by simp_all<;>(try omega))
  ·refine z2 Z Z c10<|z2 Z Z c10<|z2 Z Z c10<|ak Z c10 Z<|ae Z<|z7<|zd<|zg (x:=.bool _) Z ?_
   rw[←hp];exact jb (by simp_all<;>(try omega))
end
section
open Go.Proofs.Tryz
section
variable {E:World} {P:Program} {env:aE} {O:OL} {d ty:Nat} {pos:String} {af:Array Edge} {x:Operand} {t u:TypeId}
end
end
section
open Go.Proofs.Tryz
section
variable {E:World} {P:Program} {ops:Array Oper} {K:aE→OL→Prop} {env:aE} {O O' O'':OL} {rest:List Oper} {n:Nat}
variable {d ty:Nat} {pos:String} {af:Array Edge} {x y z:Operand} {t u e:TypeId}
end
section
variable {P:Program} {E:World} {l:List Oper} {W:Nat→Bool} {fuel:Nat} {listed:Array Bool} {d ty:Nat} {op:Op} {pos:String} {af:Array Edge}
end
theorem bt.knowP {E:World} {env:aE} {O O':OL} {t i:Nat} {T:TypeId} {cs:List AV} (hv:env t=.po i 0) (hO:cF O i (.cells T cs) O'):bt E env O (bp env t (.pf cs)) O':=fun I F ρ w h1 ⟨ht,L,hL,hS⟩=>by
 obtain ⟨A,B,hp,⟨b,c,vs,e1,hvs,hvc,rfl⟩,hB⟩:=hO.rep hL
 simp only at e1
 have hS2:SL I.k ((b,.cells vs.toArray T (0,0))::(B++F)) E w:=hS.perm ((hp.append_right F).symm)
 obtain ⟨hl,hS3⟩:=SL.freeze hS2
 let J:G:=⟨I.k.put b (.cells vs.toArray T (0,0)),I.h⟩
 have hle:I.le J:=⟨hl,fun _ _ h=>h⟩
 refine ⟨J,hle,fun s=>?_,ht,B,hB.mono hle,hS3⟩
 unfold bp
 cases hb:Nat.beq s t with
 |false=>exact bu.mono hle _ _ (h1 s)
 |true=>
  have:s=t:=Nat.eq_of_beq_eq_true hb
  subst this
  have h2:=h1 s
  rw[hv] at h2
  obtain ⟨b2,c2,e2,e3⟩:=h2
  rw[e1] at e2
  simp only[Option.some.injEq,Prod.mk.injEq] at e2
  obtain ⟨rfl,rfl⟩:=e2
  exact ⟨b,0,vs,e3,RepL.mono hle _ _ hvs,fun j u hj=>⟨_,_,_,aF.put_same _ _ _,by rw[Nat.zero_add,List.getElem?_toArray];exact hj⟩⟩
end
section
open Go.Proofs.Tryz
section
variable {E:World} {P:Program} {ops:Array Oper} {K:aE→OL→Prop} {env:aE} {O O':OL} {rest:List Oper}
variable {d ty:Nat} {pos:String} {af:Array Edge} {x y z:Operand} {t u e:TypeId}
end
set_option linter.defProp false
def ye:=@bt.knowP
def yj:=@RepL.fld
end
end Go.Proofs.YtbconpmnckokoaaGreatDoor
