/- A heap told exactly, by names of one's own: values, blocks, and what stands for them in the world. No conditions. -/
import Derived.Test.YtbconpmnckokoaaGreatDoorJh
import Derived.Test.YtbconpmnckokoaaGreatDoorJe
import Derived.Test.YtbconpmnckokoaaGreatDoorJg
import Derived.Test.YtbconpmnckokoaaGreatDoorJf
import Derived.Lib.LaidRTab
set_option linter.unusedVariables false
set_option linter.unusedSimpArgs false
set_option linter.unusedSectionVars false
namespace Go.Proofs.YtbconpmnckokoaaGreatDoor
section
open Go.Proofs.Tryz
open Go.Proofs Go.Lib Go.Shelf Go.RowKit
variable {E:World}
set_option maxRecDepth 20000
theorem k6 {α:Type} {P R:List α} {n:Nat} (h:P.length=n) (j:Nat):(P++R).drop (n+j)=R.drop j:=by
 subst h;rw[List.drop_append,List.drop_eq_nil_of_le (by omega),List.nil_append,Nat.add_sub_cancel_left]
theorem iT {α:Type} {P R:List α} {n:Nat} (h:P.length=n) (j:Nat) (v:α):(P++R).set (n+j) v=P++R.set j v:=by
 subst h;rw[List.set_append_right _ _ (by omega),Nat.add_sub_cancel_left]
theorem sQ {α:Type} {P R:List α} {n:Nat} (h:P.length=n) (j:Nat):(P++R)[n+j]?=R[j]?:=by
 subst h;rw[List.getElem?_append_right (by omega),Nat.add_sub_cancel_left]
def wH (l:List Bool) (n:Nat) (b:aC):aC:={ b with insts:=bO l n b.insts }
theorem rC {l:List Bool} {f:ap} {k:Nat} {b:aC} (h:f.blocks[k]?=some b):(bV l f).blocks[k]?=some (wH l (bc f.blocks k) b):=by
 show (eU l 0 f.blocks)[k]?=_
 rw[fu,h,Nat.zero_add];rfl
theorem iU {l:List Bool} {f:ap} {k:Nat} {b:aC} (h:f.blocks[k]?=some b):(bV l f).blocks.take (k+1)=(bV l f).blocks.take k++[wH l (bc f.blocks k) b]:=by
 obtain ⟨h1,h2⟩:=List.getElem?_eq_some_iff.1 (rC (l:=l) h)
 rw[yu h1,h2]
theorem iV {l:List Bool} {f:ap} {k:Nat} (h:k≤f.blocks.length):((bV l f).blocks.take k).length=k:=by rw[List.length_take,d6];omega
theorem iW {l:List Bool} {n m:Nat} {r:List aN} {x:aN} (h:r[m]?=some x):bO l n (r.take (m+1))=bO l n (r.take m)++if eT l (n+bI (r.take m)) x=true then[] else[x]:=by
 rw[iN h,kA]
 unfold bO bO
 rw[List.append_nil]
theorem iX {l:List Bool} {n m:Nat} {r:List aN}:(bO l n (r.take m)).length≤m:=by
 have:=(d5 l (r.take m) n).length_le
 rw[List.length_take] at this;omega
theorem fL (l:List aN) (x:aN):(((l++[x]).map aW).flatten)=((l.map aW).flatten)++aW x:=by rw[List.map_append,List.flatten_append];simp
theorem l4 (l:List aN):((l.map aW).flatten).length=l.length*4:=cT (k:=4) (fun _=>rfl) l
theorem ga (l:List aC):((l.map aO).flatten).length=l.length*7:=cT (k:=7) (fun _=>rfl) l
theorem rD (l:List aC) (x:aC):(((l++[x]).map aO).flatten)=((l.map aO).flatten)++aO x:=by rw[List.map_append,List.flatten_append];simp
theorem wI {l:List Bool} {n:Nat} (h:n<l.length):l[n]?=some (gb l (n:Int)):=by
 unfold gb;rw[Int.toNat_natCast,yt h];rfl
set_option maxHeartbeats 8000000 in
theorem mW (f:ap) (hf:small f) (hop:∀b∈f.blocks,∀x∈b.insts,0≤x.op∧x.op≤26) (l:List Bool) (hl:l.length=(pA 0 f.blocks).length):aQ prog E 12 [.agg (bP f),.fro 1 (l.map rv)] (.agg (bP (bV l f))):=by
 obtain ⟨hf1,hf2,hf3,hf4,hf5⟩:=id hf
 refine zk func12 Z (by decide) Z<|aj<|zy (cs:=_) Z Z Z<|zo (cs:=[.raw (.slice none 0 0),.raw (.slice none 0 0),.raw (.slice none 0 0)]) jv Z Z<|fun i4=>z7<|aj<|aa j9 j5 Z Z<|zo (cs:=[.raw (.slice none 0 0),.raw (.slice none 0 0),.raw (.slice none 0 0)]) jv Z Z<|fun i5=>zm j5 Z Z Z Z Z Z .head Z<|z7<|aj<|z8 (zf j4 Z jp (by decide) Z Z)<|aq.storeC (l:=[_]) (new:=[_,_,_]) jp Z Z Z Z Z Z .head Z Z<|z7<|dY (off:=2) (k:=7) (T:=62) (fun _=>.head) Z<|fun ib=>za<|aj<|ax j4 Z jp Z Z<|aU jw Z<|ad j8 Z<|ab Z<|z7<|zz (yf (yh .t2))<|zz (yf (yh .t2))<|zz (yf (yh .t2))<|zh<|zt (γ:=Nat × Nat) [1,2,4,5,15,16] (fun g=>[(17,.int .i64 g.1)]) (fun g=>[(g.2,.grow 7 62 (((bV l f).blocks.take g.1).map aO).flatten),(i5,.cells 26 [.fro 2 (f.vars.map bz),.fro 1 (f.params.map bX),.own g.2 g.1]),(i4,.cells 26 [.raw (.slice none 0 0),.raw (.slice none 0 0),.raw (.slice none 0 0)])]) (fun g=>g.1≤f.blocks.length) (fun g=>f.blocks.length - g.1) (0,ib) bg aX (yw _) ?_
 rintro ⟨k,ib⟩ hk
 try dsimp only at *
 refine aj<|aB Z Z<|z7<|za<|zq Z (fun ck=>?_) (fun ck=>?_)
 ·have hk2:k<f.blocks.length:=by simp at ck;omega
  obtain ⟨b,hb⟩:∃b,f.blocks[k]?=some b:=⟨_,yt hk2⟩
  have hbm:=List.mem_of_getElem? hb
  obtain ⟨hb0,hb1,hb2,hb3,hb4⟩:=hf5 b hbm
  have hbf:=ga ((bV l f).blocks.take k)
  rw[iV (l:=l) hk] at hbf
  refine ze<|za<|zh<|aj<|ab Z<|z8 (eO k j8 jg Z Z Z hb)<|aa Zc jg Z Z<|zo (cs:=[.str ⟨#[]⟩,.raw (.slice none 0 0),.raw (.slice none 0 0),.int .i64 0,.int .i64 0,.int .i64 0,.int .i64 0]) jt Z Z<|fun i7=>aw Z<|zm jg Z Z Z Z Z Z .head Z<|z7<|zz (ye (t:=7) Z .head)<|aj<|aa Zc jg Z Z<|zo (cs:=[.str ⟨#[]⟩,.raw (.slice none 0 0),.raw (.slice none 0 0),.int .i64 0,.int .i64 0,.int .i64 0,.int .i64 0]) jt Z Z<|fun i8=>zm jg Z Z Z Z Z Z .head Z<|z7<|aj<|z8 (zf wy Z jl (by decide) Z Z)<|aq.storeC (l:=[_]) (new:=[_,_,_,_,_,_,_]) jl Z Z Z Z Z Z .head Z Z<|z7<|dY (off:=2) (k:=4) (T:=67) (fun _=>.head) Z<|fun ii=>za<|aj<|ax wy Z jl Z Z<|aU Z0 Z<|ad ja Z<|ab Z<|z7<|zz (yf (yh .t4))<|zz (yf (yh .t4))<|zz (yf (yh .t4))<|zz (yf (yh .t4))<|zz (yf (yh .t4))<|zh<|zt (γ:=Nat × Nat) [1,2,4,5,6,8,15,16,17,25,26] (fun g=>[(27,.int .i64 g.1)]) (fun g=>[(g.2,.grow 4 67 ((bO l (bc f.blocks k) (b.insts.take g.1)).map aW).flatten),(i8,.cells 62 [.str b.name,.fro 3 (b.phis.map bm),.own g.2 (bO l (bc f.blocks k) (b.insts.take g.1)).length,.int .i64 b.term.kind,.int .i64 b.term.var,.int .i64 b.term.to0,.int .i64 b.term.to1]),(ib,.grow 7 62 (((bV l f).blocks.take k).map aO).flatten),(i5,.cells 26 [.fro 2 (f.vars.map bz),.fro 1 (f.params.map bX),.own ib k]),(i4,.cells 26 [.raw (.slice none 0 0),.raw (.slice none 0 0),.raw (.slice none 0 0)])]) (fun g=>g.1≤b.insts.length) (fun g=>b.insts.length - g.1) (0,ii) bg ⟨_,(.refl _),by rw[List.take_zero]<;>rfl⟩ (yw _) ?_
  rintro ⟨m,ii⟩ hm
  try dsimp only at *
  have hil:=iX (l:=l) (n:=bc f.blocks k) (m:=m) (r:=b.insts)
  have hif:=l4 (bO l (bc f.blocks k) (b.insts.take m))
  refine aj<|aB Z Z<|z7<|za<|zq Z (fun cm=>?_) (fun cm=>?_)
  ·have hm2:m<b.insts.length:=by simp at cm;omega
   obtain ⟨x,hx⟩:∃x,b.insts[m]?=some x:=⟨_,yt hm2⟩
   have hnm:=kZ (E:=E) f hf hop k m
   have hdt:=iW (l:=l) (n:=bc f.blocks k) hx
   obtain ⟨q,hq⟩:∃q,bc f.blocks k+bI (b.insts.take m)=q:=⟨_,rfl⟩
   rw[hq] at hdt
   rw[iO hb hx,hq] at hnm
   refine ze<|za<|zh<|aj<|ab Z<|z8 (eO m ja jh Z Z Z hx)<|aa Z7 jh Z Z<|zo (cs:=[.int .i64 0,.int .i64 0,.raw (.slice none 0 0),.int .i64 0]) Z1 Z Z<|fun i10=>aw Z<|zm jh Z Z Z Z Z Z .head Z<|z7<|zz (ye (t:=10) Z .head) ?_
   by_cases cc:f7 x=true
   ·have hlt:=sK hb hx cc
    rw[hq,←hl] at hlt
    rw[if_pos cc] at hnm
    have hg:eT l q x=gb l q:=by unfold eT;rw[cc];rfl
    rw[hg] at hdt
    refine aj<|aa j9 j5 Z Z<|ab Z<|ab Z<|zc (hnm) Z<|aw Z<|z7<|aj<|ab Z<|aB Z Z<|ah Z<|z6 Z Z (by simp)<|aY Z<|z6 Z Z (by simp)<|ab Z<|z6 Z Z (by simp)<|z8 (eO q Za sizeOf4 Z Z Z (wI hlt))<|z6 Z Z (by simp)<|z8 (Gv.load1F (c:=.bool _) isAgg4 Z)<|z6 Z Z (by simp)<|aJ Z<|z8 (ux Z (by simp) Z)<|z7<|zn Z (fun cg=>?_) (fun cg=>?_)
    ·have cg:gb l (q:Int)=false:=by simpa using cg
     rw[cg,if_neg (by decide)] at hdt
     refine bA<|z8 (zf wy Z jl (by decide) Z Z)<|z8 (zj (c:=.own _ _) Z0 Z ⟨_,.t1⟩ Z)<|aa Z7 jh Z Z<|yb (rows:=[[_,_,_,_]]) iB Z Z Z Z Z<|yi (k:=4) ja type67 Z Z Z Z Z (fun _=>.head) hif (by decide) Z (by show (_+_)*48≤_;simp<;>omega) (by simp<;>omega)<|fun i49=>z8 (zf wy Z jl (by decide) Z Z)<|aq.storeC (l:=[_]) (new:=[_,_,_,_,_,_,_]) jl Z Z Z Z Z Z .t1 Z Z<|z7<|bA<|aI Z Z<|ab Z<|z7 ?_
     exact ⟨(m+1,i49),⟨rfl,rfl,rfl,rfl,rfl,rfl,rfl,rfl,rfl,rfl,rfl,trivial⟩,bg,⟨_,(.refl _),by dsimp only;rw[hdt,fL,yz];rfl⟩,hm2,by dsimp only;omega⟩
    ·have cg:gb l (q:Int)=true:=by simpa using cg
     rw[cg,if_pos rfl,List.append_nil] at hdt
     refine ze<|bA<|aI Z Z<|ab Z<|z7 ?_
     exact ⟨(m+1,ii),⟨rfl,rfl,rfl,rfl,rfl,rfl,rfl,rfl,rfl,rfl,rfl,trivial⟩,bg,⟨_,(.refl _),by dsimp only;rw[hdt]<;>rfl⟩,hm2,by dsimp only;omega⟩
   ·rw[if_neg cc] at hnm
    have hg:eT l q x=false:=by unfold eT;rw[Bool.eq_false_iff.2 cc];rfl
    rw[hg,if_neg (by decide)] at hdt
    refine aj<|aa j9 j5 Z Z<|ab Z<|ab Z<|zc (hnm) Z<|aw Z<|z7<|aj<|ab Z<|aB Z Z<|ah Z<|z2 Z Z Z<|z2 Z Z Z<|z2 Z Z Z<|z2 Z Z Z<|z2 Z Z Z<|ai Z Z Z<|z7<|y9 Z Z<|bA<|z8 (zf wy Z jl (by decide) Z Z)<|z8 (zj (c:=.own _ _) Z0 Z ⟨_,.t1⟩ Z)<|aa Z7 jh Z Z<|yb (rows:=[[_,_,_,_]]) iB Z Z Z Z Z<|yi (k:=4) ja type67 Z Z Z Z Z (fun _=>.head) hif (by decide) Z (by show (_+_)*48≤_;simp<;>omega) (by simp<;>omega)<|fun i49=>z8 (zf wy Z jl (by decide) Z Z)<|aq.storeC (l:=[_]) (new:=[_,_,_,_,_,_,_]) jl Z Z Z Z Z Z .t1 Z Z<|z7<|bA<|aI Z Z<|ab Z<|z7 ?_
    exact ⟨(m+1,i49),⟨rfl,rfl,rfl,rfl,rfl,rfl,rfl,rfl,rfl,rfl,rfl,trivial⟩,bg,⟨_,(.refl _),by dsimp only;rw[hdt,fL,yz];rfl⟩,hm2,by dsimp only;omega⟩
  ·obtain rfl:m=b.insts.length:=by simp at cm;omega
   rw[yy]
   refine zz (bt.knowC (off:=2) (rows:=(bO l (bc f.blocks k) b.insts).map aW) .head .head Z (by intro r hr;obtain ⟨z,_,rfl⟩:=List.mem_map.1 hr;rfl) (by decide) (by rw[List.length_map]))<|zu<|bA<|z8 (zf j4 Z jp (by decide) Z Z)<|z8 (zj (c:=.own _ _) jw Z ⟨_,.t2⟩ Z)<|z8 (Gv.loadWC Zc jg Z ⟨_,.head⟩ Z)<|yb (rows:=[[_,_,_,_,_,_,_]]) sk Z Z Z Z Z<|yi (k:=7) j8 type62 Z Z Z Z Z (fun _=>.t1) hbf (by decide) Z (by show (_+_)*96≤_;simp<;>omega) (by simp<;>omega)<|fun i56=>z8 (zf j4 Z jp (by decide) Z Z)<|aq.storeC (l:=[_]) (new:=[_,_,_]) jp Z Z Z Z Z Z .t2 Z Z<|z7<|bA<|aI Z Z<|ab Z<|z7 ?_
   exact ⟨(k+1,i56),uk,bg,⟨_,(.drop (.refl _)),by dsimp only;rw[iU hb,rD];rfl⟩,hk2,by dsimp only;omega⟩
 ·obtain rfl:k=f.blocks.length:=by simp at ck;omega
  have he:(bV l f).blocks.take f.blocks.length=(bV l f).blocks:=List.take_of_length_le (Nat.le_of_eq d6)
  rw[he]
  refine zz (bt.knowC (off:=2) (rows:=(bV l f).blocks.map aO) .head .head Z (by intro r hr;obtain ⟨z,_,rfl⟩:=List.mem_map.1 hr;rfl) (by decide) (by rw[List.length_map,d6]))<|zu<|aj<|z8 (Gv.loadWC j9 j5 Z ⟨_,.head⟩ Z)<|zm j5 Z Z Z Z Z Z .t1 Z<|z7<|zd<|bC.c1 Z ⟨_,.t1⟩ j9 j5 Z ?_
  rfl
theorem uX {l:List Bool} {f:ap} {k:Nat} {b:aC} (h:f.blocks[k]?=some b):((bV l f).blocks.take k++f.blocks.drop k)=(bV l f).blocks.take k++b::f.blocks.drop (k+1):=by
 obtain ⟨h1,rfl⟩:=List.getElem?_eq_some_iff.1 h
 rw[←List.drop_eq_getElem_cons h1]
theorem sR (f:ap) (hf:small f) (hL:ac E) (ht:b8 f=false) (l:List Bool):aQ prog E 7 [.agg (bP f),.fro 1 (l.map rv)] (.tup [.agg [.raw (.slice none 0 0),.raw (.slice none 0 0),.raw (.slice none 0 0)],.int .i64 3]):=by
 have hty:=dI (E:=E) f hf hL
 rw[if_neg (by rw[ht];decide)] at hty
 refine zk func7 Z (by decide) Z<|aj<|zy (cs:=_) Z Z Z<|zo (cs:=[.raw (.slice none 0 0),.raw (.slice none 0 0),.raw (.slice none 0 0)]) jv Z Z<|fun i4=>aw Z<|z7<|za<|aj<|aa j9 j5 Z Z<|zc (hty) Z<|aw Z<|z7<|aj<|ab Z<|aD Z Z<|z7<|y9 Z Z<|aj<|z8 (y8 (cps:=[]) (rs:=[.raw (.slice none 0 0),.raw (.slice none 0 0),.raw (.slice none 0 0)]) sj Z Z Z)<|ab Z<|zm j5 Z Z Z Z Z Z .head Z<|aw Z<|z7<|zd<|bC.c1t (y:=.int _ _) Z Z ⟨_,.head⟩ j9 j5 Z ?_
 rfl
theorem mX (f:ap) (hf:small f) (hL:ac E) (ht:b8 f=true) (l:List Bool) (hl:l.length≠(pA 0 f.blocks).length) (hl2:l.length≤9223372036854775807):aQ prog E 7 [.agg (bP f),.fro 1 (l.map rv)] (.tup [.agg [.raw (.slice none 0 0),.raw (.slice none 0 0),.raw (.slice none 0 0)],.int .i64 1]):=by
 have hty:=dI (E:=E) f hf hL
 rw[if_pos ht] at hty
 refine zk func7 Z (by decide) Z<|aj<|zy (cs:=_) Z Z Z<|zo (cs:=[.raw (.slice none 0 0),.raw (.slice none 0 0),.raw (.slice none 0 0)]) jv Z Z<|fun i4=>aw Z<|z7<|za<|aj<|aa j9 j5 Z Z<|zc (hty) Z<|aw Z<|z7<|aj<|ab Z<|aD Z Z<|z7<|y7 Z Z<|ze<|za<|aj<|aY Z<|ad Za Z<|aa j9 j5 Z Z<|zc (dx f hf hL ht) Z<|ad jo Z<|aD Z Z<|z7<|y9 Z (by simp;omega)<|aj<|z8 (y8 (cps:=[]) (rs:=[.raw (.slice none 0 0),.raw (.slice none 0 0),.raw (.slice none 0 0)]) sj Z Z Z)<|zm j5 Z Z Z Z Z Z .head Z<|aw Z<|z7<|zd<|bC.c1t (y:=.int _ _) Z Z ⟨_,.head⟩ j9 j5 Z ?_
 rfl
set_option maxHeartbeats 8000000 in
theorem rE (f:ap) (hf:small f) (hL:ac E) (ht:b8 f=true) (l:List Bool) (hl:l.length=(pA 0 f.blocks).length):aQ prog E 7 [.agg (bP f),.fro 1 (l.map rv)] (.tup [.agg (bP (bV l f)),.int .i64 0]):=by
 obtain ⟨hf1,hf2,hf3,hf4,hf5⟩:=id hf
 have hty:=dI (E:=E) f hf hL
 rw[if_pos ht] at hty
 have hpl:=eV hf f.blocks.length
 rw[yy] at hpl
 refine zk func7 Z (by decide) Z<|aj<|zy (cs:=_) Z Z Z<|zo (cs:=[.raw (.slice none 0 0),.raw (.slice none 0 0),.raw (.slice none 0 0)]) jv Z Z<|fun i4=>aw Z<|z7<|za<|aj<|aa j9 j5 Z Z<|zc (hty) Z<|aw Z<|z7<|aj<|ab Z<|aD Z Z<|z7<|y7 Z Z<|ze<|za<|aj<|aY Z<|ad Za Z<|aa j9 j5 Z Z<|zc (dx f hf hL ht) Z<|ad jo Z<|aD Z Z<|z7<|y7 Z (by rw[hl];simp)<|ze<|aj<|aa j9 j5 Z Z<|aq.callA Z (yd (.r (.rest _))) ((rg f hf).exact) ?_
 rintro r29 O29 ⟨ib,rfl,rfl,_⟩
 refine zo (cs:=[.raw (.slice none 0 0),.raw (.slice none 0 0),.raw (.slice none 0 0)]) jv Z Z<|fun i7=>zm j5 Z Z Z Z Z Z .head Z<|z7<|aj<|aw Z<|z7<|za<|aj<|z8 (zf j4 Z jp (by decide) Z Z)<|z8 (zj (c:=.own _ _) jw Z ⟨_,.head⟩ Z)<|z8 (Gv.lenO j8 Z)<|ab Z<|z7<|zz (yf (yh .t2))<|zz (yf (yh .t1))<|zz (yf (yh .t2)) ?_
 have hz:(bV l f).blocks.take 0++f.blocks.drop 0=f.blocks:=by rw[List.take_zero,List.drop_zero];rfl
 refine zh<|zt (γ:=Nat) [1,4,7,32] (fun k=>[(33,.int .i64 k),(8,.int .i64 (bc f.blocks k:Nat))]) (fun k=>[(ib,.grow 7 62 (((bV l f).blocks.take k++f.blocks.drop k).map aO).flatten),(i7,.cells 26 [.fro 2 (f.vars.map bz),.fro 1 (f.params.map bX),.own ib f.blocks.length]),(i4,.cells 26 [.raw (.slice none 0 0),.raw (.slice none 0 0),.raw (.slice none 0 0)])]) (fun k=>k≤f.blocks.length) (fun k=>f.blocks.length - k) 0 fT ⟨_,(.refl _),by rw[hz]<;>rfl⟩ (yw _) ?_
 rintro k hk
 refine aj<|aB Z Z<|z7<|za<|zq Z (fun ck=>?_) (fun ck=>?_)
 ·have hk2:k<f.blocks.length:=by simp at ck;omega
  obtain ⟨b,hb⟩:∃b,f.blocks[k]?=some b:=⟨_,yt hk2⟩
  have hbm:=List.mem_of_getElem? hb
  obtain ⟨hb0,hb1,hb2,hb3,hb4⟩:=hf5 b hbm
  obtain ⟨P,hP⟩:∃P,(((bV l f).blocks.take k).map aO).flatten=P:=⟨_,rfl⟩
  obtain ⟨S,hS⟩:∃S,((f.blocks.drop (k+1)).map aO).flatten=S:=⟨_,rfl⟩
  have hPl:P.length=k*7:=by rw[←hP,ga,iV hk]
  have hSl:S.length=(f.blocks.length - (k+1))*7:=by rw[←hS,ga,List.length_drop]
  have hcell:(((bV l f).blocks.take k++f.blocks.drop k).map aO).flatten=P++(([.str b.name,.fro 3 (b.phis.map bm),.fro 4 (b.insts.map aW),.int .i64 b.term.kind,.int .i64 b.term.var,.int .i64 b.term.to0,.int .i64 b.term.to1]:List AV)++S):=by
   rw[uX hb,List.map_append,List.flatten_append,hP,List.map_cons,List.flatten_cons,hS];rfl
  have hcl:∀x,(P++(([.str b.name,.fro 3 (b.phis.map bm),x,.int .i64 b.term.kind,.int .i64 b.term.var,.int .i64 b.term.to0,.int .i64 b.term.to1]:List AV)++S)).length=f.blocks.length*7:=fun x=>by
   rw[yz,yz,hPl,hSl]
   show k*7+(7+_)=_
   omega
  have hnb:=mS hb
  rw[hcell]
  refine ze<|za<|zh<|aj<|ab Z<|aw Z<|z7<|aj<|z8 (zf j4 Z jp (by decide) Z Z)<|z8 (zj (c:=.own _ _) jw Z ⟨_,.t1⟩ Z)<|ab Z<|z8 (Gv.idxO (j:=k) j8 jg Z Z Z ⟨_,.head⟩ (fun h=>by have:=hcl (.fro 4 []);have h2:=congrArg List.length h;simp at h2) hk2)<|z8 (Am Z)<|z7<|aj<|z8 (xD Z)<|z8 (Gv.nilCheckO Z)<|z8 (zf wy Z jl (by decide) Z Z)<|z8 (Gv.load1G (c:=_) Z0 Z ⟨_,.head⟩ (k6 hPl 2))<|z8 (uv Z)<|z7<|aj<|z8 (xD Z)<|z8 (Gv.nilCheckO Z)<|z8 (zf wy Z jl (by decide) Z Z)<|aq.storeGN (new:=P++(([.str b.name,.fro 3 (b.phis.map bm),.raw (.slice none 0 0),.int .i64 b.term.kind,.int .i64 b.term.var,.int .i64 b.term.to0,.int .i64 b.term.to1]:List AV)++S)) jl Z Z Z Z Z .head (show k*7+2<_ from Nat.lt_of_lt_of_eq (m:=f.blocks.length*7) (by omega) (hcl _).symm) (iT hPl 2 _)<|z7<|aj<|aY Z<|ad ja Z<|ab Z<|z7<|rB (off:=k*7+2) (k:=4) (T:=67) (fun _=>.head) (fun _=>iT hPl 2 _) (sQ hPl 2)<|fun ii=>zh<|zt (γ:=Nat × Nat) [1,4,7,10,32,33,47,48] (fun g=>[(49,.int .i64 g.1),(8,.int .i64 ((bc f.blocks k+bI (b.insts.take g.1):Nat):Int))]) (fun g=>[(g.2,.grow 4 67 ((bO l (bc f.blocks k) (b.insts.take g.1)).map aW).flatten),(ib,.grow 7 62 (P++(([.str b.name,.fro 3 (b.phis.map bm),.own g.2 (bO l (bc f.blocks k) (b.insts.take g.1)).length,.int .i64 b.term.kind,.int .i64 b.term.var,.int .i64 b.term.to0,.int .i64 b.term.to1]:List AV)++S))),(i7,.cells 26 [.fro 2 (f.vars.map bz),.fro 1 (f.params.map bX),.own ib f.blocks.length]),(i4,.cells 26 [.raw (.slice none 0 0),.raw (.slice none 0 0),.raw (.slice none 0 0)])]) (fun g=>g.1≤b.insts.length) (fun g=>b.insts.length - g.1) (0,ii) fT ⟨_,(.refl _),by rw[List.take_zero]<;>rfl⟩ (yw _) ?_
  rintro ⟨m,ii⟩ hm
  try dsimp only at *
  have hil:=iX (l:=l) (n:=bc f.blocks k) (m:=m) (r:=b.insts)
  have hif:=l4 (bO l (bc f.blocks k) (b.insts.take m))
  refine aj<|aB Z Z<|z7<|za<|zq Z (fun cm=>?_) (fun cm=>?_)
  ·have hm2:m<b.insts.length:=by simp at cm;omega
   obtain ⟨x,hx⟩:∃x,b.insts[m]?=some x:=⟨_,yt hm2⟩
   have hdt:=iW (l:=l) (n:=bc f.blocks k) hx
   have hct:bI (b.insts.take (m+1))=bI (b.insts.take m)+nI x:=by rw[iN hx,iL];rfl
   obtain ⟨q,hq⟩:∃q,bc f.blocks k+bI (b.insts.take m)=q:=⟨_,rfl⟩
   have hq2:bc f.blocks k+bI (b.insts.take (m+1))=q+nI x:=by omega
   rw[hq] at hdt
   rw[hq]
   refine ze<|za<|zh<|aj<|z8 (eO m ja jh Z Z Z hx)<|aa Z7 jh Z Z<|zo (cs:=[.int .i64 0,.int .i64 0,.raw (.slice none 0 0),.int .i64 0]) Z1 Z Z<|fun i13=>zm jh Z Z Z Z Z Z .head Z<|z7<|zz (ye (t:=13) Z .head) ?_
   by_cases cc:f7 x=true
   ·have hlt:=sK hb hx cc
    rw[hq,←hl] at hlt
    have hc1:nI x=1:=if_pos cc
    have hg:eT l q x=gb l q:=by unfold eT;rw[cc];rfl
    rw[hg] at hdt
    refine aj<|ae Z<|z7<|za<|aj<|ax wz Z jx Z Z<|aP Z3 Z<|zc (fw x.op) Z<|z7<|y9 Z cc<|aj<|aY Z<|ab Z<|z8 (eO q Za sizeOf4 Z Z Z (wI hlt))<|z8 (Gv.load1F (c:=.bool _) isAgg4 Z)<|ae Z<|z7<|bA<|ab Z<|aI Z Z<|aw Z<|z7<|aj<|ah Z<|aJ Z<|z7<|zn Z (fun cg=>?_) (fun cg=>?_)
    ·have cg:gb l (q:Int)=false:=by simpa using cg
     rw[cg,if_neg (by decide)] at hdt
     refine zx (fun j=>Nat.beq j 10) (by kernel_rfl) Z (yd (.l (.r (.rest _))))<|aR 0 Z (xD Z)<|aR 1 Z (xD Z)<|aR 2 Z (Gv.nilCheckO Z)<|aR 3 Z (zf wy Z jl (by decide) Z Z)<|aR 4 Z (Gv.load1G (c:=_) Z0 Z ⟨_,.head⟩ (k6 hPl 2))<|aR 5 Z (ya Z7 jh Z Z)<|eZ 6 Z<|yb (rows:=[[_,_,_,_]]) iB Z Z Z Z Z<|z7<|eZ 7 Z<|yi (k:=4) ja type67 Z Z Z Z Z (fun _=>.head) hif (by decide) Z (by show (_+_)*48≤_;simp<;>omega) (by simp<;>omega)<|fun i71=>z7<|bl.takeK (i:=8) Z (by kernel_rfl) (by kernel_rfl) (by kernel_rfl) (by kernel_rfl) (Gv.nilCheckO Z)<|aR 9 Z (zf wy Z jl (by decide) Z Z)<|bl.writes<|cB.one (i:=10) Z (by kernel_rfl) (by kernel_rfl)<|aq.storeGN (new:=P++(([.str b.name,.fro 3 (b.phis.map bm),.own i71 ((bO l (bc f.blocks k) (b.insts.take m)).length+1),.int .i64 b.term.kind,.int .i64 b.term.var,.int .i64 b.term.to0,.int .i64 b.term.to1]:List AV)++S)) jl Z Z Z Z Z .head (show k*7+2<_ from Nat.lt_of_lt_of_eq (m:=f.blocks.length*7) (by omega) (hcl _).symm) (iT hPl 2 _)<|z7<|cB.done (by kernel_rfl)<|zz (yf (yh .t3))<|zz (yf (yh .t3))<|zz (yf (yh .t2))<|zz (yf (yh .t3))<|bA<|aI Z Z<|ab Z<|z7 ?_
     exact ⟨(m+1,i71),sd,⟨rfl,congrArg (AV.int .i64) (by rw[hq2,hc1]<;>rfl),trivial⟩,⟨_,(.refl _),by dsimp only;rw[hdt,fL,yz];rfl⟩,hm2,by dsimp only;omega⟩
    ·have cg:gb l (q:Int)=true:=by simpa using cg
     rw[cg,if_pos rfl,List.append_nil] at hdt
     refine ze<|bA<|aI Z Z<|ab Z<|z7 ?_
     exact ⟨(m+1,ii),sd,⟨rfl,congrArg (AV.int .i64) (by rw[hq2,hc1]<;>rfl),trivial⟩,⟨_,(.refl _),by dsimp only;rw[hdt]<;>rfl⟩,hm2,by dsimp only;omega⟩
   ·have hc1:nI x=0:=if_neg cc
    have hg:eT l q x=false:=by unfold eT;rw[Bool.eq_false_iff.2 cc];rfl
    rw[hg,if_neg (by decide)] at hdt
    refine aj<|ae Z<|z7<|za<|aj<|ax wz Z jx Z Z<|aP Z3 Z<|zc (fw x.op) Z<|z7<|y7 Z (Bool.eq_false_iff.2 cc)<|ze<|aj<|ah Z<|aJ Z<|z7<|y9 Z Z<|zx (fun j=>Nat.beq j 10) (by kernel_rfl) Z (yd (.l (.r (.rest _))))<|aR 0 Z (xD Z)<|aR 1 Z (xD Z)<|aR 2 Z (Gv.nilCheckO Z)<|aR 3 Z (zf wy Z jl (by decide) Z Z)<|aR 4 Z (Gv.load1G (c:=_) Z0 Z ⟨_,.head⟩ (k6 hPl 2))<|aR 5 Z (ya Z7 jh Z Z)<|eZ 6 Z<|yb (rows:=[[_,_,_,_]]) iB Z Z Z Z Z<|z7<|eZ 7 Z<|yi (k:=4) ja type67 Z Z Z Z Z (fun _=>.head) hif (by decide) Z (by show (_+_)*48≤_;simp<;>omega) (by simp<;>omega)<|fun i71=>z7<|bl.takeK (i:=8) Z (by kernel_rfl) (by kernel_rfl) (by kernel_rfl) (by kernel_rfl) (Gv.nilCheckO Z)<|aR 9 Z (zf wy Z jl (by decide) Z Z)<|bl.writes<|cB.one (i:=10) Z (by kernel_rfl) (by kernel_rfl)<|aq.storeGN (new:=P++(([.str b.name,.fro 3 (b.phis.map bm),.own i71 ((bO l (bc f.blocks k) (b.insts.take m)).length+1),.int .i64 b.term.kind,.int .i64 b.term.var,.int .i64 b.term.to0,.int .i64 b.term.to1]:List AV)++S)) jl Z Z Z Z Z .head (show k*7+2<_ from Nat.lt_of_lt_of_eq (m:=f.blocks.length*7) (by omega) (hcl _).symm) (iT hPl 2 _)<|z7<|cB.done (by kernel_rfl)<|zz (yf (yh .t3))<|zz (yf (yh .t3))<|zz (yf (yh .t2))<|zz (yf (yh .t3)) ?_
    refine bA<|aI Z Z<|ab Z<|z7 ?_
    exact ⟨(m+1,i71),sd,⟨rfl,congrArg (AV.int .i64) (by rw[hq2,hc1]<;>rfl),trivial⟩,⟨_,(.refl _),by dsimp only;rw[hdt,fL,yz];rfl⟩,hm2,by dsimp only;omega⟩
  ·obtain rfl:m=b.insts.length:=by simp at cm;omega
   rw[yy]
   refine zz (bt.knowG (j:=ib) (off:=k*7+2) (rows:=(bO l (bc f.blocks k) b.insts).map aW) .head .head (sQ hPl 2) (iT hPl 2 _) (fun r hr=>by obtain ⟨z,_,rfl⟩:=List.mem_map.1 hr;rfl) (by decide) (List.length_map ..)) ?_
   have hcell2:(((bV l f).blocks.take (k+1)++f.blocks.drop (k+1)).map aO).flatten=P++(([.str b.name,.fro 3 (b.phis.map bm),.fro 4 ((bO l (bc f.blocks k) b.insts).map aW),.int .i64 b.term.kind,.int .i64 b.term.var,.int .i64 b.term.to0,.int .i64 b.term.to1]:List AV)++S):=by
    rw[iU hb,yv,List.map_append,List.flatten_append,hP,List.singleton_append,List.map_cons,List.flatten_cons,hS];rfl
   refine zu<|bA<|aI Z Z<|ab Z<|z7 ?_
   exact ⟨k+1,iv,⟨rfl,congrArg (AV.int .i64) (by rw[hnb]),trivial⟩,⟨_,(.refl _),by rw[hcell2]<;>rfl⟩,hk2,by omega⟩
 ·obtain rfl:k=f.blocks.length:=by simp at ck;omega
  have he:(bV l f).blocks.take f.blocks.length++f.blocks.drop f.blocks.length=(bV l f).blocks:=by rw[List.take_of_length_le (Nat.le_of_eq d6),List.drop_length,List.append_nil]
  rw[he]
  refine zz (bt.knowC (off:=2) (rows:=(bV l f).blocks.map aO) .head .head Z (by intro r hr;obtain ⟨z,_,rfl⟩:=List.mem_map.1 hr;rfl) (by decide) (by rw[List.length_map,d6]))<|zu<|aj<|z8 (Gv.loadWC j9 j5 Z ⟨_,.head⟩ Z)<|zm j5 Z Z Z Z Z Z .t1 Z<|aw Z<|z7<|zd<|bC.c1t (y:=.int _ _) Z Z ⟨_,.t1⟩ j9 j5 Z ?_
  rfl
end
section
open Go.Proofs.Tryz
open Go.Proofs Go.Lib Go.Shelf Go.RowKit
variable {E:World}
set_option maxRecDepth 20000
theorem rF {f:ap} (h:cI f):∀b∈f.blocks,∀x∈b.insts,0≤x.op∧x.op≤26:=fun b hb x hx=>by
 obtain ⟨h1,h2,_⟩:=(h.2.2.2.2.2 b hb).2.1 x hx
 exact ⟨h1,h2⟩
set_option maxHeartbeats 4000000 in
theorem ke (f:ap) (hw:lO f) (hL:ac E) (hlv:aQ prog E 5 [] (.bool true)) (l:List Bool) (hll:l.length≤9223372036854775807):aQ prog E 3 [.agg (bP f),.fro 1 (l.map rv)] (.bool true):=by
 refine zk func3 Z (by decide) Z<|aj<|zy (cs:=_) Z Z Z<|ae Z<|z7<|za<|aj<|zc (hlv) Z<|aJ Z<|ah Z ?_
 by_cases c1:sN f=true
 ·have hf:=((iR f).1 c1).small
  refine z6 Z Z Z<|aa j9 j5 Z Z<|z6 Z Z Z<|zc (f9 f hw) Z<|z6 Z Z Z<|aJ Z<|ak Z Z Z<|ah Z<|z6 Z Z (by rw[c1];rfl)<|aY Z<|z6 Z Z (by rw[c1];rfl)<|ad Za Z<|z6 Z Z (by rw[c1];rfl)<|z8 (ym Z Z)<|z8 (ux Z (by rw[c1];rfl) Z)<|z7<|zn Z (fun c5=>?_) (fun c5=>?_)
  ·refine aj<|zc (hlv) Z<|ae Z<|z7<|zd<|zg (x:=.bool _) Z ?_
   rfl
  ·by_cases ht:b8 f=true
   ·have hS:=lX ht
    have hop:=rF hS
    have hps:=eV hf f.blocks.length
    rw[yy] at hps
    by_cases hl:l.length=(pA 0 f.blocks).length
    ·refine ze<|aj<|aa j9 j5 Z Z<|aY Z<|zc (rE f hf hL ht l hl) Z<|z8 (xK Z)<|z8 (yr (v:=.agg _) Z Z)<|z8 (wx Z Z)<|zo (cs:=[.raw (.slice none 0 0),.raw (.slice none 0 0),.raw (.slice none 0 0)]) jv Z Z<|fun i5=>zm j5 Z Z Z Z Z Z .head Z<|yq (ye (t:=5) Z .head)<|aw Z<|z7<|aj<|aa j9 j5 Z Z<|zc (dx f hf hL ht) Z<|z8 (uv Z)<|z7<|za<|aj<|aa j9 j5 Z Z<|zc (dX f hw hL) Z<|aJ Z<|z7<|y7 Z (by rw[c1,ht];rfl)<|ze<|aj<|aa j9 j5 Z Z<|zc (em f hf hop) Z<|z8 (uv Z)<|z7<|za<|aj<|aY Z<|ad jo Z<|aY Z<|ad jo Z<|aD Z Z<|z7<|y7 Z (by simp) ?_
     refine ze<|za<|aj<|aY Z<|ad jo Z<|ab Z<|z7<|zh<|zt (γ:=Nat) [1,2,5,6,7,8,55] (fun n=>[(56,.int .i64 n)]) (fun n=>[]) (fun n=>n≤(pA 0 f.blocks).length) (fun n=>(pA 0 f.blocks).length - n) 0 bg aX (yw _) ?_
     rintro n hn
     refine aj<|aB Z Z<|z7<|za<|zq Z (fun cn=>?_) (fun cn=>?_)
     ·have hn2:n<(pA 0 f.blocks).length:=by simp at cn;omega
      obtain ⟨z,hz⟩:∃z,(pA 0 f.blocks)[n]?=some z:=⟨_,yt hn2⟩
      refine ze<|za<|zh<|aj<|ab Z<|aw Z<|z7<|za<|zx (fun j=>false) (by kernel_rfl) Z (yd (.rest _))<|aR 0 Z (uj Z)<|aR 1 Z (jR Z)<|aR 2 Z (eO n jo jk Z Z Z hz)<|aR 3 Z (ya isAgg35 jk Z Z)<|aR 4 Z (uj Z)<|aR 5 Z (jR Z)<|aR 6 Z (eO n jo jk Z Z Z hz)<|aR 7 Z (ya isAgg35 jk Z Z)<|aR 8 Z (Gv.neqP (xs:=[.int _ _,.int _ _]) (ys:=[.int _ _,.int _ _]) (by kernel_rfl) Z Z (fun w=>eP _ _ _ _ w))<|jQ<|y7 Z (by simp)<|ze<|bA<|aI Z Z<|ab Z<|z7 ?_
      exact ⟨n+1,jT,bg,aX,hn2,by omega⟩
     ·refine zu<|za<|aj<|aY Z<|ad Za Z<|aY Z<|ad jo Z<|aD Z Z<|z7<|y7 Z (by rw[hl];simp)<|ze<|za<|zx (fun j=>false) (by kernel_rfl) Z (yd (.rest _))<|aR 0 Z (jR Z)<|aR 1 Z (Gv.eqlI Z Z)<|aR 2 Z (ww Z)<|gP 3 Z Z Z Z (ya j9 j5 Z Z)<|gP 4 Z Z Z Z (ya j9 j5 Z Z)<|gP 5 Z Z Z Z (uj Z)<|eZ 6 Z<|z6 Z Z Z<|zc (mW f hf hop l hl) Z<|z7<|eZ 7 Z<|z6 Z Z Z<|zc (kP (bV l f) (bV l f) (mQ hf).ok) Z<|z7<|aR 8 Z (uw Z Z Z)<|aR 9 Z (wW Z)<|jQ<|zd<|zg (x:=.bool _) Z ?_
      exact jb (by simp)
    ·refine ze<|aj<|aa j9 j5 Z Z<|aY Z<|zc (mX f hf hL ht l hl hll) Z<|z8 (xK Z)<|z8 (yr (v:=.agg _) Z Z)<|yq (bt.slot (t:=27) (y:=.agg [.fro 2 (([]:List fY).map bz),.fro 1 (([]:List Int).map bX),.fro 7 (([]:List aC).map aO)]) Z (wG.agg (.cons (.nil 2) (.cons (.nil 1) (.cons (.nil 7) .nil)))))<|z8 (wx Z Z)<|zo (cs:=[.raw (.slice none 0 0),.raw (.slice none 0 0),.raw (.slice none 0 0)]) jv Z Z<|fun i5=>zm j5 Z Z Z Z Z Z .head Z<|yq (ye (t:=5) Z .head)<|aw Z<|z7<|aj<|aa j9 j5 Z Z<|zc (dx f hf hL ht) Z<|z8 (uv Z)<|z7<|za<|aj<|aa j9 j5 Z Z<|zc (dX f hw hL) Z<|aJ Z<|z7<|y7 Z (by rw[c1,ht];rfl)<|ze<|aj<|aa j9 j5 Z Z<|zc (em f hf hop) Z<|z8 (uv Z)<|z7<|za<|aj<|aY Z<|ad jo Z<|aY Z<|ad jo Z<|aD Z Z<|z7 ?_
     refine y7 Z (by simp)<|ze<|za<|aj<|aY Z<|ad jo Z<|ab Z<|z7<|zh<|zt (γ:=Nat) [1,2,5,6,7,8,55] (fun n=>[(56,.int .i64 n)]) (fun n=>[]) (fun n=>n≤(pA 0 f.blocks).length) (fun n=>(pA 0 f.blocks).length - n) 0 bg aX (yw _) ?_
     rintro n hn
     refine aj<|aB Z Z<|z7<|za<|zq Z (fun cn=>?_) (fun cn=>?_)
     ·have hn2:n<(pA 0 f.blocks).length:=by simp at cn;omega
      obtain ⟨z,hz⟩:∃z,(pA 0 f.blocks)[n]?=some z:=⟨_,yt hn2⟩
      refine ze<|za<|zh<|aj<|ab Z<|aw Z<|z7<|za<|zx (fun j=>false) (by kernel_rfl) Z (yd (.rest _))<|aR 0 Z (uj Z)<|aR 1 Z (jR Z)<|aR 2 Z (eO n jo jk Z Z Z hz)<|aR 3 Z (ya isAgg35 jk Z Z)<|aR 4 Z (uj Z)<|aR 5 Z (jR Z)<|aR 6 Z (eO n jo jk Z Z Z hz)<|aR 7 Z (ya isAgg35 jk Z Z)<|aR 8 Z (Gv.neqP (xs:=[.int _ _,.int _ _]) (ys:=[.int _ _,.int _ _]) (by kernel_rfl) Z Z (fun w=>eP _ _ _ _ w))<|jQ<|y7 Z (by simp)<|ze<|bA<|aI Z Z<|ab Z<|z7 ?_
      exact ⟨n+1,jT,bg,aX,hn2,by omega⟩
     ·refine zu<|za<|aj<|aY Z<|ad Za Z<|aY Z<|ad jo Z<|aD Z Z<|z7<|y9 Z (by simp;omega)<|aj<|ab Z<|aA Z Z<|ah Z<|z6 Z Z Z<|ax j4 Z jp Z Z<|z6 Z Z Z<|aU jw Z<|z6 Z Z Z<|ad j8 Z<|z6 Z Z Z<|aA Z Z<|ai Z Z Z<|ae Z<|z7<|zd<|zg (x:=.bool _) Z ?_
      rfl
   ·have hb:b8 f=false:=Bool.eq_false_iff.2 ht
    refine ze<|aj<|aa j9 j5 Z Z<|aY Z<|zc (sR f hf hL hb l) Z<|z8 (xK Z)<|z8 (yr (v:=.agg _) Z Z)<|yq (bt.slot (t:=27) (y:=.agg [.fro 2 (([]:List fY).map bz),.fro 1 (([]:List Int).map bX),.fro 7 (([]:List aC).map aO)]) Z (wG.agg (.cons (.nil 2) (.cons (.nil 1) (.cons (.nil 7) .nil)))))<|z8 (wx Z Z)<|zo (cs:=[.raw (.slice none 0 0),.raw (.slice none 0 0),.raw (.slice none 0 0)]) jv Z Z<|fun i5=>zm j5 Z Z Z Z Z Z .head Z<|yq (ye (t:=5) Z .head)<|aw Z<|z7<|aj<|aa j9 j5 Z Z<|zc (l3 f hf hL hb) Z<|yq (bt.slot (t:=30) (y:=.fro 2 (([]:List (Int × Int)).map d7)) Z (wG.nil 2))<|z8 (uv Z)<|z7<|za<|aj<|aa j9 j5 Z Z<|zc (dX f hw hL) Z<|aJ Z<|z7<|y9 Z (by rw[c1,hb];rfl)<|aj<|ab Z<|aA Z Z<|ah Z<|z6 Z Z Z<|ax j4 Z jp Z Z<|z6 Z Z Z<|aU jw Z<|z6 Z Z Z<|ad j8 Z<|z6 Z Z Z<|aA Z Z<|ai Z Z Z ?_
    refine ah Z<|z6 Z Z Z<|aY Z<|z6 Z Z Z<|ad jo Z<|z6 Z Z Z<|aA Z Z<|ai Z Z Z<|ae Z<|z7<|zd<|zg (x:=.bool _) Z ?_
    rfl
 ·refine z6 Z Z Z<|aa j9 j5 Z Z<|z6 Z Z Z<|zc (f9 f hw) Z<|z6 Z Z Z<|aJ Z<|ak Z Z Z<|ah Z<|z2 Z Z (by rw[Bool.eq_false_iff.2 c1]<;>rfl)<|z2 Z Z (by rw[Bool.eq_false_iff.2 c1]<;>rfl)<|z2 Z Z (by rw[Bool.eq_false_iff.2 c1]<;>rfl)<|z8 (uw Z (by rw[Bool.eq_false_iff.2 c1]<;>rfl) Z)<|z7<|y9 Z Z<|aj<|zc (hlv) Z<|ae Z<|z7<|zd<|zg (x:=.bool _) Z ?_
  rfl
end
section
open Go.Proofs.Tryz
open Go.Proofs Go.Lib Go.Shelf Go.RowKit Go.WideShapes
set_option maxRecDepth 20000
variable {W:World}
theorem sS:cU prog W 3 bX (fun x=>(Lit.int .i64 x).wf=true):=cU.int underlying3
theorem nO:cU prog W 23 (fun l:List Int=>[.fro 1 (l.map bX)]) wL:=fun en held fuel cs x h=>by
 obtain ⟨l,hl,r⟩:=cU.slice (k:=1) j6 sS (by kernel_rfl) (by decide) en held fuel cs x h
 exact ⟨l,hl.2,r⟩
theorem w3:cU prog W 73 bz (fun _=>True):=fun en held fuel cs x h=>by
 obtain ⟨xs,n,_,_,hl,hxl,hf⟩:=DataW.trod_struct ju h
 have hl:cs.length=2:=hl.trans (by kernel_rfl)
 have hxl:xs.length=2:=hxl
 obtain ⟨a,_,ra⟩:=cU.at (o:=0) (k:=1) (hf 0 _ rfl) (cU.str jr) (by omega) rfl (by kernel_rfl)
 obtain ⟨b,_,rb⟩:=cU.at (o:=1) (k:=1) (hf 1 _ rfl) (cU.int underlying71) (by omega) rfl (by kernel_rfl)
 exact ⟨⟨a,b⟩,trivial,yj (o:=0) ra (yj rb (RepL.fin hl))⟩
theorem w4:cU prog W 77 bm xN:=fun en held fuel cs x h=>by
 obtain ⟨xs,n,_,_,hl,hxl,hf⟩:=DataW.trod_struct jd h
 have hl:cs.length=3:=hl.trans (by kernel_rfl)
 have hxl:xs.length=3:=hxl
 obtain ⟨a,_,ra⟩:=cU.at (o:=0) (k:=1) (hf 0 _ rfl) sS (by omega) rfl (by kernel_rfl)
 obtain ⟨b,hb,rb⟩:=cU.at (o:=1) (k:=1) (hf 1 _ rfl) nO (by omega) rfl (by kernel_rfl)
 obtain ⟨c,hc,rc⟩:=cU.at (o:=2) (k:=1) (hf 2 _ rfl) nO (by omega) rfl (by kernel_rfl)
 exact ⟨⟨a,b,c⟩,⟨hb,hc⟩,yj (o:=0) ra (yj rb (yj rc (RepL.fin hl)))⟩
def xT (x:aN):Prop:=wL x.args∧(Lit.int .i64 x.num).wf=true
theorem uY:cU prog W 67 aW xT:=fun en held fuel cs x h=>by
 obtain ⟨xs,n,_,_,hl,hxl,hf⟩:=DataW.trod_struct wz h
 have hl:cs.length=4:=hl.trans (by kernel_rfl)
 have hxl:xs.length=4:=hxl
 obtain ⟨a,_,ra⟩:=cU.at (o:=0) (k:=1) (hf 0 _ rfl) (cU.int underlying65) (by omega) rfl (by kernel_rfl)
 obtain ⟨b,_,rb⟩:=cU.at (o:=1) (k:=1) (hf 1 _ rfl) sS (by omega) rfl (by kernel_rfl)
 obtain ⟨c,hc,rc⟩:=cU.at (o:=2) (k:=1) (hf 2 _ rfl) nO (by omega) rfl (by kernel_rfl)
 obtain ⟨d,hd,rd⟩:=cU.at (o:=3) (k:=1) (hf 3 _ rfl) (cU.int underlying2) (by omega) rfl (by kernel_rfl)
 exact ⟨⟨a,b,c,d⟩,⟨hc,hd⟩,yj (o:=0) ra (yj rb (yj rc (yj rd (RepL.fin hl))))⟩
theorem uZ:cU prog W 60 kM (fun _=>True):=fun en held fuel cs x h=>by
 obtain ⟨xs,n,_,_,hl,hxl,hf⟩:=DataW.trod_struct j7 h
 have hl:cs.length=4:=hl.trans (by kernel_rfl)
 have hxl:xs.length=3:=hxl
 obtain ⟨a,_,ra⟩:=cU.at (o:=0) (k:=1) (hf 0 _ rfl) (cU.int underlying58) (by omega) rfl (by kernel_rfl)
 obtain ⟨b,_,rb⟩:=cU.at (o:=1) (k:=1) (hf 1 _ rfl) sS (by omega) rfl (by kernel_rfl)
 obtain ⟨c,_,rc⟩:=cU.at (o:=2) (k:=2) (hf 2 _ rfl) (cU.pair (k:=1) jm sS (by kernel_rfl) (by kernel_rfl)) (by omega) rfl (by kernel_rfl)
 exact ⟨⟨a,b,c.1,c.2⟩,trivial,yj (o:=0) ra (yj rb (yj rc (RepL.fin hl)))⟩
def xU (f:ap):Prop:=∀b∈f.blocks,∀x∈b.insts,mK x.num
def xV (b:aC):Prop:=xO b∧∀x∈b.insts,-9223372036854775808≤x.num∧x.num≤9223372036854775807
theorem u0:cU prog W 62 aO xV:=fun en held fuel cs x h=>by
 obtain ⟨xs,n,_,_,hl,hxl,hf⟩:=DataW.trod_struct wy h
 have hl:cs.length=7:=hl.trans (by kernel_rfl)
 have hxl:xs.length=4:=hxl
 obtain ⟨a,_,ra⟩:=cU.at (o:=0) (k:=1) (hf 0 _ rfl) (cU.str jr) (by omega) rfl (by kernel_rfl)
 obtain ⟨b,hb,rb⟩:=cU.at (o:=1) (k:=1) (hf 1 _ rfl) (cU.slice (k:=3) ji w4 (by kernel_rfl) (by decide)) (by omega) rfl (by kernel_rfl)
 obtain ⟨c,hc,rc⟩:=cU.at (o:=2) (k:=1) (hf 2 _ rfl) (cU.slice (k:=4) ja uY (by kernel_rfl) (by decide)) (by omega) rfl (by kernel_rfl)
 obtain ⟨d,_,rd⟩:=cU.at (o:=3) (k:=4) (hf 3 _ rfl) uZ (by omega) rfl (by kernel_rfl)
 exact ⟨⟨a,b,c,d⟩,⟨⟨hb.2,hc.2,hb.1,fun x hx=>(hc.1 x hx).1⟩,fun x hx=>by simpa [Lit.wf,IntKind.min,IntKind.max,IntKind.signed,IntKind.bits] using (hc.1 x hx).2⟩,yj (o:=0) ra (yj rb (yj rc (yj rd (RepL.fin hl))))⟩
theorem xW:cU prog W 26 bP (fun f=>lO f∧xU f):=fun en held fuel cs x h=>by
 obtain ⟨xs,n,_,_,hl,hxl,hf⟩:=DataW.trod_struct j4 h
 have hl:cs.length=3:=hl.trans (by kernel_rfl)
 have hxl:xs.length=3:=hxl
 obtain ⟨a,ha,ra⟩:=cU.at (o:=0) (k:=1) (hf 0 _ rfl) (cU.slice (k:=2) jn w3 (by kernel_rfl) (by decide)) (by omega) rfl (by kernel_rfl)
 obtain ⟨b,hb,rb⟩:=cU.at (o:=1) (k:=1) (hf 1 _ rfl) nO (by omega) rfl (by kernel_rfl)
 obtain ⟨c,hc,rc⟩:=cU.at (o:=2) (k:=1) (hf 2 _ rfl) (cU.slice (k:=7) j8 u0 (by kernel_rfl) (by decide)) (by omega) rfl (by kernel_rfl)
 exact ⟨⟨a,b,c⟩,⟨⟨ha.2,hb,hc.2,fun x hx=>(hc.1 x hx).1⟩,fun x hx=>(hc.1 x hx).2⟩,yj (o:=0) ra (yj rb (yj rc (RepL.fin hl)))⟩
theorem sT {H:Type} {enc:TypeId × Value→H} {held:Bool} {α:Type} {T e:TypeId} {k:Nat} {g:α→List (List AV)} {ok:α→Prop} {base:Nat} {v:Value} {d:DataW H} {p:List MemPlace} (hd:cU prog W T (fun a=>[.fro k (g a)]) ok) (ht:prog.underlying T=some (.slice e))
  (hv:Value.okWide prog W .any base T v) (h:DataW.Trod enc prog W 0 (fun _=>true) held T v d p):∃a,ok a∧bu (I0 W) (.fro k (g a)) v:=by
 obtain ⟨a,len,cap,rfl⟩:=okWide_slice ht hv
 obtain ⟨fuel,h⟩:=h
 obtain ⟨a,h1,v,_,e,h2,h3⟩:=hd enc held fuel _ _ h
 cases e
 exact ⟨a,h1,h2⟩
theorem rG {H:Type} {enc:TypeId × Value→H} {held:Bool} {α:Type} {T:TypeId} {e:α→List AV} {ok:α→Prop} {fs:Array Field} {base:Nat} {v:Value} {d:DataW H} {p:List MemPlace} (hd:cU prog W T e ok) (ht:prog.underlying T=some (.struct fs))
  (hv:Value.okWide prog W .any base T v) (h:DataW.Trod enc prog W 0 (fun _=>true) held T v d p):∃a,ok a∧bu (I0 W) (.agg (e a)) v:=by
 obtain ⟨cs,rfl,_⟩:=okWide_struct ht hv
 obtain ⟨fuel,h⟩:=h
 obtain ⟨a,h1,h2⟩:=hd enc held fuel _ _ h
 exact ⟨a,h1,cs.toList,by simp,h2⟩
theorem Ac:RExtra prog Tryz.lays200_ren:=⟨by kernel_rfl,by kernel_rfl,by kernel_rfl,by kernel_rfl,by kernel_rfl,by kernel_rfl,by kernel_rfl,by kernel_rfl⟩
theorem mY (h:Lib.VarReads prog W "unicode.properties" (Lib.tabData .u8 Lib.propertiesTab)) (h2:Lib.VarReads prog W "unicode.Letter" (Lib.rtabData letterT)):ac W:=
 ⟨iF (g:=0) (by kernel_rfl) (by kernel_rfl) underlying168 underlying5 (by kernel_rfl) (by kernel_rfl) h,
  rvar_of_reads { Tryz.lays200 with } Ac (name:="unicode.Letter") (g:=1) (by kernel_rfl) (by kernel_rfl) h2⟩
end
section
open Go.Proofs.Tryz
inductive Tr (α:Type) where
 |lf
 |nd (v:Option α) (l r:Tr α)
 deriving Inhabited
section
variable {α:Type}
inductive Pa where
 |e
 |l (p:Pa)
 |r (p:Pa)
 deriving DecidableEq
noncomputable def fM (n:Nat):Nat→Pa:=Nat.rec (motive:=fun _=>Nat→Pa) (fun _=>.e) (fun _ ih k=>Bool.rec (Bool.rec (.r (ih (Nat.sub (Nat.div k 2) 1))) (.l (ih (Nat.div k 2))) (Nat.beq (Nat.mod k 2) 1)) .e (Nat.beq k 0)) n
noncomputable def mZ (k:Nat):Pa:=fM (Nat.succ k) k
noncomputable def Tr.getP (p:Pa):Tr α→Option α:=Pa.rec (motive:=fun _=>Tr α→Option α) (fun t=>Tr.rec none (fun v _ _ _ _=>v) t) (fun _ ih t=>Tr.rec none (fun _ l _ _ _=>ih l) t) (fun _ ih t=>Tr.rec none (fun _ _ r _ _=>ih r) t) p
noncomputable def Tr.setP (p:Pa):Tr α→Option α→Tr α:=Pa.rec (motive:=fun _=>Tr α→Option α→Tr α) (fun t v=>Tr.rec (.nd v .lf .lf) (fun _ l r _ _=>.nd v l r) t) (fun _ ih t v=>Tr.rec (.nd none (ih .lf v) .lf) (fun u l r _ _=>.nd u (ih l v) r) t) (fun _ ih t v=>Tr.rec (.nd none .lf (ih .lf v)) (fun u l r _ _=>.nd u l (ih r v)) t) p
noncomputable def Tr.get (t:Tr α) (k:Nat):Option α:=Tr.getP (mZ k) t
noncomputable def Tr.set (t:Tr α) (k:Nat) (v:Option α):Tr α:=Tr.setP (mZ k) t v
theorem nP {β:Type} (a b:Nat) (x y:β):(bif Nat.beq a b then x else y)=if a=b then x else y:=by
 by_cases h:a=b
 ·rw[if_pos h,h,show Nat.beq b b=true from Nat.beq_refl b];rfl
 ·rw[if_neg h,show Nat.beq a b=false from by cases e:Nat.beq a b<;>simp_all];rfl
def Pa.val:Pa→Nat
 |.e=>0
 |.l p=>2*p.val+1
 |.r p=>2*p.val+2
theorem gc:∀(n k:Nat),k<n→(fM n k).val=k
 |0,_,h=>absurd h (Nat.not_lt_zero _)
 |n+1,k,h=>by
  have e:fM (n+1) k=bif Nat.beq k 0 then Pa.e else bif Nat.beq (k % 2) 1 then Pa.l (fM n (k / 2)) else Pa.r (fM n (k / 2 - 1)):=by
   show (Bool.rec (Bool.rec (Pa.r (fM n (k / 2 - 1))) (Pa.l (fM n (k / 2))) (Nat.beq (k % 2) 1)) Pa.e (Nat.beq k 0):Pa)=_
   cases Nat.beq k 0<;>cases Nat.beq (k % 2) 1<;>rfl
  rw[e,nP,nP]
  by_cases h0:k=0
  ·rw[if_pos h0,h0];rfl
  ·rw[if_neg h0]
   by_cases h1:k % 2=1
   ·rw[if_pos h1]
    show 2*(fM n (k / 2)).val+1=k
    rw[gc n _ (by omega)];omega
   ·rw[if_neg h1]
    show 2*(fM n (k / 2 - 1)).val+2=k
    rw[gc n _ (by omega)];omega
theorem iY (k:Nat):(mZ k).val=k:=gc (k+1) k (Nat.lt_succ_self k)
theorem Tr.getP_lf:∀p:Pa,Tr.getP p (Tr.lf:Tr α)=none
 |.e=>rfl
 |.l _=>rfl
 |.r _=>rfl
theorem Tr.get_lf (k:Nat):(Tr.lf:Tr α).get k=none:=Tr.getP_lf _
theorem Tr.getP_set:∀(p q:Pa) (t:Tr α) (v:Option α),Tr.getP q (Tr.setP p t v)=if q=p then v else Tr.getP q t
 |.e,.e,t,v=>by rw[if_pos rfl];cases t<;>rfl
 |.e,.l q,t,v=>by
  rw[if_neg (by simp)]
  cases t with
  |lf=>exact Tr.getP_lf q
  |nd=>rfl
 |.e,.r q,t,v=>by
  rw[if_neg (by simp)]
  cases t with
  |lf=>exact Tr.getP_lf q
  |nd=>rfl
 |.l p,.e,t,v=>by rw[if_neg (by simp)];cases t<;>rfl
 |.r p,.e,t,v=>by rw[if_neg (by simp)];cases t<;>rfl
 |.l p,.r q,t,v=>by
  rw[if_neg (by simp)]
  cases t with
  |lf=>exact Tr.getP_lf q
  |nd=>rfl
 |.r p,.l q,t,v=>by
  rw[if_neg (by simp)]
  cases t with
  |lf=>exact Tr.getP_lf q
  |nd=>rfl
 |.l p,.l q,t,v=>by
  have e:(Pa.l q=Pa.l p)=(q=p):=by simp
  simp only[e]
  cases t with
  |lf=>exact (Tr.getP_set p q .lf v).trans (by rw[Tr.getP_lf];rfl)
  |nd u l r=>exact Tr.getP_set p q l v
 |.r p,.r q,t,v=>by
  have e:(Pa.r q=Pa.r p)=(q=p):=by simp
  simp only[e]
  cases t with
  |lf=>exact (Tr.getP_set p q .lf v).trans (by rw[Tr.getP_lf];rfl)
  |nd u l r=>exact Tr.getP_set p q r v
theorem Tr.get_set (t:Tr α) (k:Nat) (v:Option α) (j:Nat):(t.set k v).get j=if j=k then v else t.get j:=by
 unfold Tr.get Tr.set
 rw[Tr.getP_set]
 by_cases h:j=k
 ·rw[if_pos h,if_pos (by rw[h])]
 ·rw[if_neg h,if_neg fun e=>h (by rw[←iY j,←iY k,e])]
end
inductive Cp where
 |ex (m:Nat)
 |en
 |un
inductive EV where
 |u
 |b (x:Bool)
 |i (k:IntKind) (n:Int)
 |s (x:ByteArray)
 |np
 |p (b off:Nat)
 |ns
 |sl (b off n k:Nat) (c:Cp)
 |ag (l:List EV)
 |tu (l:List EV)
 |fn (f:Nat) (a c:List EV)
 |nf
 |ifc (t:Nat) (v:EV)
 |ni
 |m (b:Nat)
 |nm
 |vr (b:Nat)
 |us (lo hi:Nat)
instance:Inhabited EV:=⟨.u⟩
structure nQ where
 r:Nat
 sh:Nat
 κ:Nat
abbrev bD:=Nat→Option nQ
def nQ.num (q:nQ):Int:=(q.r:Int) - (q.sh:Int)
def bD.le (φ ψ:bD):Prop:=∀b q,φ b=some q→ψ b=some q
theorem bD.le.refl (φ:bD):φ.le φ:=fun _ _ h=>h
theorem bD.le.trans {φ ψ χ:bD} (h:φ.le ψ) (k:ψ.le χ):φ.le χ:=fun b q e=>k b q (h b q e)
def bD.put (φ:bD) (b:Nat) (q:nQ):bD:=fun x=>if x=b then some q else φ x
theorem bD.put_same (φ:bD) (b:Nat) (q:nQ):φ.put b q b=some q:=if_pos rfl
theorem bD.le_put {φ:bD} {b:Nat} (h:φ b=none) (q:nQ):φ.le (φ.put b q):=fun x q' e=>by
 unfold bD.put;split
 ·rename_i e';subst e';rw[h] at e;cases e
 ·exact e
def xX (q:nQ) (off k:Nat):Cp→Nat→Prop
 |.ex m,cap=>cap=m
 |.en,cap=>q.sh+off+cap*k=q.κ
 |.un,_=>True
mutual
def aL (φ:bD):EV→Value→Prop
 |.u,_=>True
 |.b x,v=>v=.bool x
 |.i k n,v=>v=.int k n
 |.s x,v=>v=.string x
 |.np,v=>v=.pointer none
 |.p b off,v=>∃q,φ b=some q∧v=.pointer (some ⟨q.r,q.sh+off,none⟩)
 |.ns,v=>v=.slice none 0 0
 |.sl b off n k c,v=>∃q o cap,φ b=some q∧v=.slice (some ⟨q.r,o,none⟩) n cap∧n≤cap∧(cap≠0→o=q.sh+off)∧xX q off k c cap
 |.ag l,v=>∃vs:List Value,v=.agg vs.toArray∧RelVs φ l vs
 |.tu l,v=>∃vs:List Value,v=.tuple vs.toArray∧RelVs φ l vs
 |.fn f a c,v=>∃vs us:List Value,v=.func (.func f) vs.toArray us.toArray∧RelVs φ a vs∧RelVs φ c us
 |.nf,v=>v=.nilFunc
 |.ifc t x,v=>∃u,v=.iface t u∧aL φ x u
 |.ni,v=>v=.nilIface
 |.m b,v=>∃q,φ b=some q∧v=.map (some q.r)
 |.nm,v=>v=.map none
 |.vr b,v=>∃q,φ b=some q∧v=.int .i64 q.num
 |.us lo hi,v=>∃s:ByteArray,v=.string s∧lo≤s.data.toList.length∧s.data.toList.length≤hi
def RelVs (φ:bD):List EV→List Value→Prop
 |[],vs=>vs=[]
 |x::xs,vs=>∃v us,vs=v::us∧aL φ x v∧RelVs φ xs us
end
mutual
theorem aL.mono {φ ψ:bD} (h:φ.le ψ):∀(x:EV) (v:Value),aL φ x v→aL ψ x v
 |.u,_,_=>trivial
 |.b _,_,e=>e
 |.i _ _,_,e=>e
 |.s _,_,e=>e
 |.np,_,e=>e
 |.p _ _,_,⟨q,a,e⟩=>⟨q,h _ _ a,e⟩
 |.ns,_,e=>e
 |.sl _ _ _ _ _,_,⟨q,o,cap,a,e⟩=>⟨q,o,cap,h _ _ a,e⟩
 |.ag l,_,⟨vs,e,k⟩=>⟨vs,e,RelVs.mono h l vs k⟩
 |.tu l,_,⟨vs,e,k⟩=>⟨vs,e,RelVs.mono h l vs k⟩
 |.fn _ a c,_,⟨vs,us,e,k1,k2⟩=>⟨vs,us,e,RelVs.mono h a vs k1,RelVs.mono h c us k2⟩
 |.nf,_,e=>e
 |.ifc _ x,_,⟨u,e,k⟩=>⟨u,e,aL.mono h x u k⟩
 |.ni,_,e=>e
 |.m _,_,⟨q,a,e⟩=>⟨q,h _ _ a,e⟩
 |.nm,_,e=>e
 |.vr _,_,⟨q,a,e⟩=>⟨q,h _ _ a,e⟩
 |.us _ _,_,e=>e
theorem RelVs.mono {φ ψ:bD} (h:φ.le ψ):∀(x:List EV) (v:List Value),RelVs φ x v→RelVs ψ x v
 |[],_,e=>e
 |x::xs,_,⟨v,us,e,h1,h2⟩=>⟨v,us,e,aL.mono h x v h1,RelVs.mono h xs us h2⟩
end
section
variable {φ ψ:bD}
theorem RelVs.length:∀{xs:List EV} {vs:List Value},RelVs φ xs vs→vs.length=xs.length
 |[],_,e=>by simp[RelVs] at e;simp[e]
 |x::xs,_,⟨v,us,e,_,h2⟩=>by subst e;simp[RelVs.length h2]
theorem RelVs.get:∀{xs:List EV} {vs:List Value},RelVs φ xs vs→∀{j:Nat} {x:EV},xs[j]?=some x→∃v,vs[j]?=some v∧aL φ x v
 |[],_,_,j,x,hj=>by simp at hj
 |y::ys,_,⟨v,us,e,h1,h2⟩,j,x,hj=>by
  subst e
  cases j with
  |zero=>simp at hj;subst hj;exact ⟨v,rfl,h1⟩
  |succ j=>simp at hj;simpa using RelVs.get h2 hj
theorem RelVs.take:∀{xs:List EV} {vs:List Value},RelVs φ xs vs→∀n,RelVs φ (xs.take n) (vs.take n)
 |[],_,e,n=>by simp[RelVs] at e;simp[e,RelVs]
 |y::ys,_,⟨v,us,e,h1,h2⟩,n=>by
  subst e
  cases n with
  |zero=>simp[RelVs]
  |succ n=>exact ⟨v,us.take n,by simp,h1,RelVs.take h2 n⟩
theorem RelVs.drop:∀{xs:List EV} {vs:List Value},RelVs φ xs vs→∀n,RelVs φ (xs.drop n) (vs.drop n)
 |[],_,e,n=>by simp[RelVs] at e;simp[e,RelVs]
 |y::ys,_,⟨v,us,e,h1,h2⟩,n=>by
  subst e
  cases n with
  |zero=>exact ⟨v,us,rfl,h1,h2⟩
  |succ n=>simpa using RelVs.drop h2 n
theorem RelVs.append:∀{xs ys:List EV} {vs us:List Value},RelVs φ xs vs→RelVs φ ys us→RelVs φ (xs++ys) (vs++us)
 |[],_,_,_,e,h=>by simp[RelVs] at e;simpa [e] using h
 |y::ys,_,_,_,⟨v,us,e,h1,h2⟩,h=>by subst e;exact ⟨v,_,rfl,h1,RelVs.append h2 h⟩
theorem RelVs.one {x:EV} {v:Value} (h:aL φ x v):RelVs φ [x] [v]:=⟨v,[],rfl,h,rfl⟩
def EV.cell:EV→Bool
 |.u | .ag _ | .tu _=>false
 |_=>true
theorem EV.cell_rel {x:EV} {v:Value} (h:aL φ x v) (hc:x.cell=true):v.oneCell'=true:=by
 cases x<;>simp only[aL,EV.cell] at h hc
 all_goals first
  |(cases hc;done)
  |(subst h;rfl)
  |(obtain ⟨_,_,_,_,e,_⟩:=h;subst e;rfl)
  |(obtain ⟨_,_,e,_⟩:=h;subst e;rfl)
  |(obtain ⟨_,e,_⟩:=h;subst e;rfl)
  |(obtain ⟨_,_,e⟩:=h;subst e;rfl)
theorem EV.cells_rel {xs:List EV} {vs:List Value} (h:RelVs φ xs vs) (hc:xs.all EV.cell=true):∀u∈vs,u.oneCell'=true:=by
 intro u hu
 obtain ⟨j,hj⟩:=List.getElem?_of_mem hu
 have hlt:=(List.getElem?_eq_some_iff.1 hj).1
 rw[h.length] at hlt
 obtain ⟨v,hv,hr⟩:=h.get (yt hlt)
 rw[hj] at hv;cases hv
 exact EV.cell_rel hr (List.all_eq_true.1 hc _ (yx hlt))
def EV.cs:EV→List EV
 |.ag l=>l
 |x=>[x]
def EV.sto:EV→Bool
 |.u | .tu _=>false
 |_=>true
theorem EV.cs_rel {x:EV} {v:Value} (h:aL φ x v) (hs:x.sto=true):RelVs φ x.cs v.cells.toList:=by
 cases x<;>simp only[EV.sto] at hs
 all_goals first
  |(cases hs;done)
  |(obtain ⟨vs,rfl,h2⟩:=h;simpa [EV.cs,Value.cells] using h2)
  |skip
 all_goals (
  have hc:=EV.cell_rel h rfl
  have hv:v.cells=#[v]:=by cases v<;>first|rfl|(simp[Value.oneCell'] at hc)
  rw[hv];exact RelVs.one h)
end
inductive VO where
 |cells (ex:Bool) (cs:List EV)
 |kn (cs:List EV)
 |it (s:ByteArray) (p:Nat)
 |mp (es:List (EV × EV))
abbrev Hp:=Tr VO
def bJ (φ:bD):List (EV × EV)→List MapEntry→Prop
 |[],es=>es=[]
 |x::xs,es=>∃e r,es=e::r∧aL φ x.1 e.key∧aL φ x.2 e.val∧bJ φ xs r
theorem bJ.mono {φ ψ:bD} (h:φ.le ψ):∀{x:List (EV × EV)} {v:List MapEntry},bJ φ x v→bJ ψ x v
 |[],_,e=>e
 |_::_,_,⟨e,r,a,b,c,d⟩=>⟨e,r,a,b.mono h,c.mono h,bJ.mono h d⟩
def gJ (ms:List MapEntry):Prop:=∀(j:Nat) (e:MapEntry),ms[j]?=some e→e.born=j
def dJ (I:aF) (φ:bD) (k:Nat) (o:VO) (A:List (Nat × Obj)):Prop:=
 match o with
 |.cells ex cs=>∃q T vs junk,φ k=some q∧q.sh=0∧RelVs φ cs vs∧(∀u∈vs++junk,u.oneCell'=true)∧(vs++junk).length=q.κ∧(ex=true→junk=[])∧A=[(q.r,.cells (vs++junk).toArray T (0,0))]
 |.kn cs=>∃q vs,φ k=some q∧RelVs φ cs vs∧(∀u∈vs,u.oneCell'=true)∧(∀(j:Nat) u,vs[j]?=some u→qY I q.r (q.sh+j) u)∧A=[]
 |.it s p=>∃q,φ k=some q∧q.sh=0∧A=[(q.r,.stringIter s p)]
 |.mp es=>∃q ms,φ k=some q∧(bJ φ es ms∧gJ ms)∧A=[(q.r,.map ms.toArray ms.length)]
theorem dJ.mono {I J:aF} {φ ψ:bD} (hI:I.le J) (h:φ.le ψ) {k:Nat} {o:VO} {A:List (Nat × Obj)} (hb:dJ I φ k o A):dJ J ψ k o A:=by
 cases o<;>simp only[dJ] at *
 ·obtain ⟨q,T,vs,junk,h1,h2,h3,h4⟩:=hb;exact ⟨q,T,vs,junk,h _ _ h1,h2,h3.mono h,h4⟩
 ·obtain ⟨q,vs,h1,h2,h3,h4,h5⟩:=hb;exact ⟨q,vs,h _ _ h1,h2.mono h,h3,fun j u e=>(h4 j u e).mono hI,h5⟩
 ·obtain ⟨q,h1,h2⟩:=hb;exact ⟨q,h _ _ h1,h2⟩
 ·obtain ⟨q,ms,h1,h2,h3⟩:=hb;exact ⟨q,ms,h _ _ h1,⟨h2.1.mono h,h2.2⟩,h3⟩
theorem dJ.phi {I:aF} {φ:bD} {k:Nat} {o:VO} {A:List (Nat × Obj)} (hb:dJ I φ k o A):∃q,φ k=some q:=by
 cases o<;>simp only[dJ] at hb
 ·obtain ⟨q,T,vs,junk,h1,_⟩:=hb;exact ⟨q,h1⟩
 ·obtain ⟨q,vs,h1,_⟩:=hb;exact ⟨q,h1⟩
 ·obtain ⟨q,h1,_⟩:=hb;exact ⟨q,h1⟩
 ·obtain ⟨q,ms,h1,_⟩:=hb;exact ⟨q,h1⟩
def dK (I:aF) (φ:bD):List (Nat × VO)→List (Nat × Obj)→Prop
 |[],L=>L=[]
 |x::xs,L=>∃A B,L=A++B∧dJ I φ x.1 x.2 A∧dK I φ xs B
theorem dK.mono {I J:aF} {φ ψ:bD} (hI:I.le J) (h:φ.le ψ):∀{M:List (Nat × VO)} {L:List (Nat × Obj)},dK I φ M L→dK J ψ M L
 |[],_,e=>e
 |_::_,_,⟨A,B,e,h1,h2⟩=>⟨A,B,e,h1.mono hI h,dK.mono hI h h2⟩
theorem dK.perm {I:aF} {φ:bD} {M M':List (Nat × VO)} (h:M.Perm M'):∀{L},dK I φ M L→∃L',dK I φ M' L'∧L.Perm L':=by
 induction h with
 |nil=>exact fun h=>⟨_,h,.refl _⟩
 |cons x _ ih=>
  rintro L ⟨A,B,rfl,h1,h2⟩
  obtain ⟨B',h3,h4⟩:=ih h2
  exact ⟨A++B',⟨A,B',rfl,h1,h3⟩,h4.append_left A⟩
 |swap x y _=>
  rintro L ⟨A,B,rfl,h1,C,D,rfl,h2,h3⟩
  exact ⟨C++(A++D),⟨C,A++D,rfl,h2,A,D,rfl,h1,h3⟩,by
   rw[←yv,←yv]
   exact List.perm_append_comm.append_right D⟩
 |trans _ _ ih1 ih2=>
  intro L h
  obtain ⟨L1,h1,p1⟩:=ih1 h
  obtain ⟨L2,h2,p2⟩:=ih2 h1
  exact ⟨L2,h2,p1.trans p2⟩
theorem dK.phi {I:aF} {φ:bD}:∀{M:List (Nat × VO)} {L:List (Nat × Obj)},dK I φ M L→∀x∈M,∃q,φ x.1=some q
 |_::_,_,⟨_,_,_,h1,h2⟩,x,hx=>by
  rcases List.mem_cons.1 hx with rfl|hx
  ·exact h1.phi
  ·exact dK.phi h2 x hx
def kg (I:aF) (φ:bD) (H:Hp) (k:Nat) (L:List (Nat × Obj)):Prop:=
 ∃M,(M.map (·.1)).Nodup∧(∀j o,(j,o)∈M↔j≠k∧H.get j=some o)∧dK I φ M L
structure bR (I:aF) (φ:bD) (H:Hp) (nx:Nat) (F:List (Nat × Obj)) (E w:World):Prop where
 top:∀j,nx≤j→φ j=none
 ex:∃M L,(M.map (·.1)).Nodup∧(∀j o,(j,o)∈M↔H.get j=some o)∧dK I φ M L∧SL I (L++F) E w
section
variable {I J:aF} {φ ψ:bD} {H:Hp} {nx:Nat} {F:List (Nat × Obj)} {E w:World} {k:Nat} {o:VO} {L A:List (Nat × Obj)}
theorem kg.mono (hI:I.le J) (h:φ.le ψ) (hr:kg I φ H k L):kg J ψ H k L:=let ⟨M,a,b,c⟩:=hr;⟨M,a,b,c.mono hI h⟩
theorem bR.pick (h:bR I φ H nx F E w) (hk:H.get k=some o):∃A L,dJ I φ k o A∧kg I φ H k L∧SL I (A++(L++F)) E w:=by
 obtain ⟨M,L,hn,hm,hr,hS⟩:=h.ex
 have hmem:=(hm k o).2 hk
 obtain ⟨M1,M2,rfl⟩:=List.append_of_mem hmem
 obtain ⟨L',hr',hp⟩:=hr.perm (M':=(k,o)::(M1++M2)) List.perm_middle
 obtain ⟨A,B,rfl,h1,h2⟩:=hr'
 have hn2:(((k,o)::(M1++M2)).map (·.1)).Nodup:=((List.perm_middle (a:=(k,o)) (l₁:=M1) (l₂:=M2)).map (·.1)).nodup_iff.1 hn
 simp only[List.map_cons,List.nodup_cons] at hn2
 refine ⟨A,B,h1,⟨M1++M2,hn2.2,fun j o'=>?_,h2⟩,hS.perm ?_⟩
 ·rw[←hm j o']
  constructor
  ·intro hj
   refine ⟨fun e=>hn2.1 (List.mem_map.2 ⟨(j,o'),hj,e⟩),?_⟩
   rw[(List.perm_middle (a:=(k,o)) (l₁:=M1) (l₂:=M2)).mem_iff]
   exact List.mem_cons_of_mem _ hj
  ·rintro ⟨hne,hj⟩
   rw[(List.perm_middle (a:=(k,o)) (l₁:=M1) (l₂:=M2)).mem_iff] at hj
   rcases List.mem_cons.1 hj with e|hj
   ·cases e;exact absurd rfl hne
   ·exact hj
 ·rw[←yv];exact (hp.append_right F).symm
theorem bR.close (hr:kg I φ H k L) (hb:dJ I φ k o A) (hS:SL I (A++(L++F)) E w) (ht:∀j,nx≤j→φ j=none):bR I φ (H.set k (some o)) nx F E w:=by
 obtain ⟨M,hn,hm,hr⟩:=hr
 refine ⟨ht,(k,o)::M,A++L,?_,fun j o'=>?_,⟨A,L,Z,hb,hr⟩,by rw[yv];exact hS⟩
 ·simp only[List.map_cons,List.nodup_cons]
  refine ⟨fun hk=>?_,hn⟩
  obtain ⟨x,hx,e⟩:=List.mem_map.1 hk
  exact ((hm x.1 x.2).1 hx).1 e
 ·rw[Tr.get_set,List.mem_cons,hm j o']
  by_cases e:j=k
  ·rw[if_pos e];subst e;simp[eq_comm]
  ·rw[if_neg e];simp[e]
theorem bR.gone (hr:kg I φ H k L) (hS:SL I (L++F) E w) (ht:∀j,nx≤j→φ j=none):bR I φ (H.set k none) nx F E w:=by
 obtain ⟨M,hn,hm,hr⟩:=hr
 refine ⟨ht,M,L,hn,fun j o'=>?_,hr,hS⟩
 rw[Tr.get_set,hm j o']
 by_cases e:j=k
 ·rw[if_pos e];simp[e]
 ·rw[if_neg e];simp[e]
theorem bR.mono (h:bR I φ H nx F E w) {n':Nat} (hn:nx≤n'):bR I φ H n' F E w:=⟨fun j hj=>h.top j (Nat.le_trans hn hj),h.ex⟩
theorem bR.drew (h:bR I φ H nx F E w):bR I φ H nx F E w.drew:=let ⟨M,L,a,b,c,d⟩:=h.ex;⟨h.top,M,L,a,b,c,d.drew⟩
theorem bR.sl (h:bR I φ H nx F E w):SL I F E w:=let ⟨_,_,_,_,_,d⟩:=h.ex;d.dropAll
def VO.cs?:VO→Option (List EV)
 |.cells _ cs=>some cs
 |.kn cs=>some cs
 |_=>none
theorem bR.read (h:bR I φ H nx F E w) (hk:H.get k=some o) {cs:List EV} (hc:o.cs?=some cs) {q:nQ} (hq:φ k=some q) :
  ∃vs,RelVs φ cs vs∧(∀u∈vs,u.oneCell'=true)∧∀(j:Nat) v,vs[j]?=some v→w.cell? ⟨q.r,q.sh+j,none⟩=some v:=by
 obtain ⟨A,L,hb,_,hS⟩:=h.pick hk
 cases o<;>simp only[VO.cs?] at hc
 ·cases hc
  obtain ⟨q',T,vs,junk,h1,h2,h3,h4,h5,h6,rfl⟩:=hb
  rw[hq] at h1;cases h1
  refine ⟨vs,h3,fun u hu=>h4 u (List.mem_append_left _ hu),fun j v hj=>?_⟩
  rw[SL.cell_own (c:=(vs++junk).toArray) (T:=T) (f:=(0,0)) (O:=L++F) hS,h2,Nat.zero_add,List.getElem?_toArray,List.getElem?_append_left (List.getElem?_eq_some_iff.1 hj).1]
  exact hj
 ·cases hc
  obtain ⟨q',vs,h1,h2,h3,h4,rfl⟩:=hb
  rw[hq] at h1;cases h1
  exact ⟨vs,h2,h3,fun j v hj=>hS.at_ ((h4 j v hj).at_ _)⟩
 ·cases hc
 ·cases hc
end
def cP (φ:bD) (g:Nat→EV) (ρ:bn):Prop:=∀t,aL φ (g t) (ρ t)
theorem cP.mono {φ ψ:bD} (h:φ.le ψ) {g:Nat→EV} {ρ:bn} (hr:cP φ g ρ):cP ψ g ρ:=fun t=>(hr t).mono h
set_option linter.defProp false
def yg:=@bD.put_same
def yn:=@bR.close
def yo:=@bD.le_put
end
end Go.Proofs.YtbconpmnckokoaaGreatDoor
