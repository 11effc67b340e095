/- The document's machine: is there a place, does a check pass. Of programs as they are run. -/
import Derived.Test.YtbconpmnckokoaaGreatDoorZh
import Derived.Test.YtbconpmnckokoaaGreatDoorZe
import Derived.Test.YtbconpmnckokoaaGreatDoorZg
import Derived.Test.YtbconpmnckokoaaGreatDoorZf
set_option linter.unusedVariables false
set_option linter.unusedSimpArgs false
set_option linter.unusedSectionVars false
namespace Go.Proofs.YtbconpmnckokoaaGreatDoor
section
open Go.Proofs.Tryz
open Go.Proofs Go.Lib Go.Shelf Go.RowKit
variable {E:World}
set_option maxRecDepth 20000
theorem nl {α:Type} {P R:List α} {n:Nat} (h:P.length=n) (j:Nat):(P++R).drop (n+j)=R.drop j:=by
 subst h;rw[List.drop_append,List.drop_eq_nil_of_le (by omega),List.nil_append,Nat.add_sub_cancel_left]
theorem lz {α:Type} {P R:List α} {n:Nat} (h:P.length=n) (j:Nat) (v:α):(P++R).set (n+j) v=P++R.set j v:=by
 subst h;rw[List.set_append_right _ _ (by omega),Nat.add_sub_cancel_left]
theorem wN {α:Type} {P R:List α} {n:Nat} (h:P.length=n) (j:Nat):(P++R)[n+j]?=R[j]?:=by
 subst h;rw[List.getElem?_append_right (by omega),Nat.add_sub_cancel_left]
def BZ (l:List Bool) (n:Nat) (b:aI):aI:={ b with insts:=bA l n b.insts }
theorem vp {l:List Bool} {f:ai} {k:Nat} {b:aI} (h:f.blocks[k]?=some b):(ba l f).blocks[k]?=some (BZ l (bb f.blocks k) b):=by
 show (eE l 0 f.blocks)[k]?=_
 rw[fA,h,Nat.zero_add];rfl
theorem lA {l:List Bool} {f:ai} {k:Nat} {b:aI} (h:f.blocks[k]?=some b):(ba l f).blocks.take (k+1)=(ba l f).blocks.take k++[BZ l (bb f.blocks k) b]:=by
 obtain ⟨h1,h2⟩:=List.getElem?_eq_some_iff.1 (vp (l:=l) h)
 rw[qp h1,h2]
theorem lB {l:List Bool} {f:ai} {k:Nat} (h:k≤f.blocks.length):((ba l f).blocks.take k).length=k:=by rw[qw,dF];omega
theorem lC {l:List Bool} {n m:Nat} {r:List aD} {x:aD} (h:r[m]?=some x):bA l n (r.take (m+1))=bA l n (r.take m)++if cx l (n+bQ (r.take m)) x=true then[] else[x]:=by
 rw[fC h,fe]
 unfold bA bA
 rw[List.append_nil]
theorem lD {l:List Bool} {n m:Nat} {r:List aD}:(bA l n (r.take m)).length≤m:=by
 have:=(df l (r.take m) n).length_le
 rw[qw] at this;omega
theorem il (l:List aD) (x:aD):(((l++[x]).map bf).flatten)=((l.map bf).flatten)++bf x:=by rw[List.map_append,List.flatten_append];simp
theorem oB (l:List aD):((l.map bf).flatten).length=l.length*4:=dC (k:=4) (fun _=>rfl) l
theorem iI (l:List aI):((l.map bc).flatten).length=l.length*7:=dC (k:=7) (fun _=>rfl) l
theorem vq (l:List aI) (x:aI):(((l++[x]).map bc).flatten)=((l.map bc).flatten)++bc x:=by rw[List.map_append,List.flatten_append];simp
theorem wQ {l:List Bool} {n:Nat} (h:n<l.length):l[n]?=some (gb l (n:Int)):=by
 unfold gb;rw[Int.toNat_natCast,qo h];rfl
set_option maxHeartbeats 8000000 in
theorem Cw (f:ai) (hf:small f) (hop:∀b∈f.blocks,∀x∈b.insts,0≤x.op∧x.op≤26) (l:List Bool) (hl:l.length=(pA 0 f.blocks).length):aV prog E 12 [.agg (bW f),.fro 1 (l.map zW)] (.agg (bW (ba l f))):=by
 obtain ⟨hf1,hf2,hf3,hf4,hf5⟩:=id hf
 refine zr func12 Z (by decide) Z<|ao<|yf (cs:=_) Z Z Z<|zz (cs:=[.raw (.slice none 0 0),.raw (.slice none 0 0),.raw (.slice none 0 0)]) Zu Z Z<|fun i4=>z6<|ao<|ac jq jl Z Z<|zz (cs:=[.raw (.slice none 0 0),.raw (.slice none 0 0),.raw (.slice none 0 0)]) Zu Z Z<|fun i5=>zx jl Z Z Z Z Z Z .head Z<|z6<|ao<|z8 (za jj Z Z6 (by decide) Z Z)<|y8 (l:=[_]) (new:=[_,_,_]) Z6 Z Z Z Z Z Z .head Z Z<|z6<|dM (off:=2) (k:=7) (T:=62) (fun _=>.head) Z<|fun ib=>zb<|ao<|aw jj Z Z6 Z Z<|aT Zk Z<|aj jp Z<|aa Z<|z6<|zy (zj (zn .t2))<|zy (zj (zn .t2))<|zy (zj (zn .t2))<|zk<|yd (γ:=Nat × Nat) [1,2,4,5,15,16] (fun g=>[(17,.int .i64 g.1)]) (fun g=>[(g.2,.grow 7 62 (((ba l f).blocks.take g.1).map bc).flatten),(i5,.cells 26 [.fro 2 (f.vars.map bU),.fro 1 (f.params.map bS),.own g.2 g.1]),(i4,.cells 26 [.raw (.slice none 0 0),.raw (.slice none 0 0),.raw (.slice none 0 0)])]) (fun g=>g.1≤f.blocks.length) (fun g=>f.blocks.length - g.1) (0,ib) aY aS (qr _) ?_
 rintro ⟨k,ib⟩ hk
 try dsimp only at *
 refine ao<|ay Z Z<|z6<|zb<|zp Z (fun ck=>?_) (fun ck=>?_)
 ·have hk2:k<f.blocks.length:=by simp at ck;omega
  obtain ⟨b,hb⟩:∃b,f.blocks[k]?=some b:=⟨_,qo hk2⟩
  have hbm:=qv hb
  obtain ⟨hb0,hb1,hb2,hb3,hb4⟩:=hf5 b hbm
  have hbf:=iI ((ba l f).blocks.take k)
  rw[lB (l:=l) hk] at hbf
  refine zg<|zb<|zk<|ao<|aa Z<|z8 (dj k jp ju Z Z Z hb)<|ac Y0 ju Z Z<|zz (cs:=[.str ⟨#[]⟩,.raw (.slice none 0 0),.raw (.slice none 0 0),.int .i64 0,.int .i64 0,.int .i64 0,.int .i64 0]) Ze Z Z<|fun i7=>ax Z<|zx ju Z Z Z Z Z Z .head Z<|z6<|zy (yo (t:=7) Z .head)<|ao<|ac Y0 ju Z Z<|zz (cs:=[.str ⟨#[]⟩,.raw (.slice none 0 0),.raw (.slice none 0 0),.int .i64 0,.int .i64 0,.int .i64 0,.int .i64 0]) Ze Z Z<|fun i8=>zx ju Z Z Z Z Z Z .head Z<|z6<|ao<|z8 (za j9 Z jw (by decide) Z Z)<|y8 (l:=[_]) (new:=[_,_,_,_,_,_,_]) jw Z Z Z Z Z Z .head Z Z<|z6<|dM (off:=2) (k:=4) (T:=67) (fun _=>.head) Z<|fun ii=>zb<|ao<|aw j9 Z jw Z Z<|aT Zb Z<|aj jm Z<|aa Z<|z6<|zy (zj (zn .t4))<|zy (zj (zn .t4))<|zy (zj (zn .t4))<|zy (zj (zn .t4))<|zy (zj (zn .t4))<|zk<|yd (γ:=Nat × Nat) [1,2,4,5,6,8,15,16,17,25,26] (fun g=>[(27,.int .i64 g.1)]) (fun g=>[(g.2,.grow 4 67 ((bA l (bb f.blocks k) (b.insts.take g.1)).map bf).flatten),(i8,.cells 62 [.str b.name,.fro 3 (b.phis.map bD),.own g.2 (bA l (bb f.blocks k) (b.insts.take g.1)).length,.int .i64 b.term.kind,.int .i64 b.term.var,.int .i64 b.term.to0,.int .i64 b.term.to1]),(ib,.grow 7 62 (((ba l f).blocks.take k).map bc).flatten),(i5,.cells 26 [.fro 2 (f.vars.map bU),.fro 1 (f.params.map bS),.own ib k]),(i4,.cells 26 [.raw (.slice none 0 0),.raw (.slice none 0 0),.raw (.slice none 0 0)])]) (fun g=>g.1≤b.insts.length) (fun g=>b.insts.length - g.1) (0,ii) aY ⟨_,(.refl _),by rw[List.take_zero]<;>rfl⟩ (qr _) ?_
  rintro ⟨m,ii⟩ hm
  try dsimp only at *
  have hil:=lD (l:=l) (n:=bb f.blocks k) (m:=m) (r:=b.insts)
  have hif:=oB (bA l (bb f.blocks k) (b.insts.take m))
  refine ao<|ay Z Z<|z6<|zb<|zp Z (fun cm=>?_) (fun cm=>?_)
  ·have hm2:m<b.insts.length:=by simp at cm;omega
   obtain ⟨x,hx⟩:∃x,b.insts[m]?=some x:=⟨_,qo hm2⟩
   have hnm:=ij (E:=E) f hf hop k m
   have hdt:=lC (l:=l) (n:=bb f.blocks k) hx
   obtain ⟨q,hq⟩:∃q,bb f.blocks k+bQ (b.insts.take m)=q:=⟨_,rfl⟩
   rw[hq] at hdt
   rw[gc hb hx,hq] at hnm
   refine zg<|zb<|zk<|ao<|aa Z<|z8 (dj m jm jv Z Z Z hx)<|ac Zr jv Z Z<|zz (cs:=[.int .i64 0,.int .i64 0,.raw (.slice none 0 0),.int .i64 0]) Zs Z Z<|fun i10=>ax Z<|zx jv Z Z Z Z Z Z .head Z<|z6<|zy (yo (t:=10) Z .head) ?_
   by_cases cc:gK x=true
   ·have hlt:=pz hb hx cc
    rw[hq,←hl] at hlt
    rw[if_pos cc] at hnm
    have hg:cx l q x=gb l q:=by unfold cx;rw[cc];rfl
    rw[hg] at hdt
    refine ao<|ac jq jl Z Z<|aa Z<|aa Z<|zh (hnm) Z<|ax Z<|z6<|ao<|aa Z<|ay Z Z<|ah Z<|z7 Z Z (by simp)<|z8 (eR Z)<|z7 Z Z (by simp)<|aa Z<|z7 Z Z (by simp)<|z8 (dj q jk Z8 Z Z Z (wQ hlt))<|z7 Z Z (by simp)<|z8 (qi (c:=.bool _) Ye Z)<|z7 Z Z (by simp)<|aE Z<|z8 (yT Z (by simp) Z)<|z6<|zw Z (fun cg=>?_) (fun cg=>?_)
    ·have cg:gb l (q:Int)=false:=by simpa using cg
     rw[cg,if_neg (by decide)] at hdt
     refine bj<|z8 (za j9 Z jw (by decide) Z Z)<|z8 (zd (c:=.own _ _) Zb Z ⟨_,.t1⟩ Z)<|ac Zr jv Z Z<|yk (rows:=[[_,_,_,_]]) kT Z Z Z Z Z<|yt (k:=4) jm type67 Z Z Z Z Z (fun _=>.head) hif (by decide) Z (by show (_+_)*48≤_;simp<;>omega) (by simp<;>omega)<|fun i49=>z8 (za j9 Z jw (by decide) Z Z)<|y8 (l:=[_]) (new:=[_,_,_,_,_,_,_]) jw Z Z Z Z Z Z .t1 Z Z<|z6<|bj<|aF Z Z<|aa Z<|z6 ?_
     exact ⟨(m+1,i49),jJ,aY,⟨_,(.refl _),by dsimp only;rw[hdt,il,qu];rfl⟩,hm2,by dsimp only;omega⟩
    ·have cg:gb l (q:Int)=true:=by simpa using cg
     rw[cg,if_pos rfl,List.append_nil] at hdt
     refine zg<|bj<|aF Z Z<|aa Z<|z6 ?_
     exact ⟨(m+1,ii),jJ,aY,⟨_,(.refl _),by dsimp only;rw[hdt]<;>rfl⟩,hm2,by dsimp only;omega⟩
   ·rw[if_neg cc] at hnm
    have hg:cx l q x=false:=by unfold cx;rw[Bool.eq_false_iff.2 cc];rfl
    rw[hg,if_neg (by decide)] at hdt
    refine ao<|ac jq jl Z Z<|aa Z<|aa Z<|zh (hnm) Z<|ax Z<|z6<|ao<|aa Z<|ay Z Z<|ah Z<|z2 Z Z Z<|z2 Z Z Z<|z2 Z Z Z<|z2 Z Z Z<|z2 Z Z Z<|ap Z Z Z<|z6<|yq Z Z<|bj<|z8 (za j9 Z jw (by decide) Z Z)<|z8 (zd (c:=.own _ _) Zb Z ⟨_,.t1⟩ Z)<|ac Zr jv Z Z<|yk (rows:=[[_,_,_,_]]) kT Z Z Z Z Z<|yt (k:=4) jm type67 Z Z Z Z Z (fun _=>.head) hif (by decide) Z (by show (_+_)*48≤_;simp<;>omega) (by simp<;>omega)<|fun i49=>z8 (za j9 Z jw (by decide) Z Z)<|y8 (l:=[_]) (new:=[_,_,_,_,_,_,_]) jw Z Z Z Z Z Z .t1 Z Z<|z6<|bj<|aF Z Z<|aa Z<|z6 ?_
    exact ⟨(m+1,i49),jJ,aY,⟨_,(.refl _),by dsimp only;rw[hdt,il,qu];rfl⟩,hm2,by dsimp only;omega⟩
  ·obtain rfl:m=b.insts.length:=by simp at cm;omega
   rw[qt]
   refine zy (aZ.knowC (off:=2) (rows:=(bA l (bb f.blocks k) b.insts).map bf) .head .head Z (by intro r hr;obtain ⟨z,_,rfl⟩:=List.mem_map.1 hr;rfl) (by decide) (by rw[List.length_map]))<|yc<|bj<|z8 (za jj Z Z6 (by decide) Z Z)<|z8 (zd (c:=.own _ _) Zk Z ⟨_,.t2⟩ Z)<|z8 (Gv.loadWC Y0 ju Z ⟨_,.head⟩ Z)<|yk (rows:=[[_,_,_,_,_,_,_]]) wi Z Z Z Z Z<|yt (k:=7) jp type62 Z Z Z Z Z (fun _=>.t1) hbf (by decide) Z (by show (_+_)*96≤_;simp<;>omega) (by simp<;>omega)<|fun i56=>z8 (za jj Z Z6 (by decide) Z Z)<|y8 (l:=[_]) (new:=[_,_,_]) Z6 Z Z Z Z Z Z .t2 Z Z<|z6<|bj<|aF Z Z<|aa Z<|z6 ?_
   exact ⟨(k+1,i56),oY,aY,⟨_,(.drop (.refl _)),by dsimp only;rw[lA hb,vq];rfl⟩,hk2,by dsimp only;omega⟩
 ·obtain rfl:k=f.blocks.length:=by simp at ck;omega
  have he:(ba l f).blocks.take f.blocks.length=(ba l f).blocks:=List.take_of_length_le (Nat.le_of_eq dF)
  rw[he]
  refine zy (aZ.knowC (off:=2) (rows:=(ba l f).blocks.map bc) .head .head Z (by intro r hr;obtain ⟨z,_,rfl⟩:=List.mem_map.1 hr;rfl) (by decide) (by rw[List.length_map,dF]))<|yc<|ao<|z8 (Gv.loadWC jq jl Z ⟨_,.head⟩ Z)<|zx jl Z Z Z Z Z Z .t1 Z<|z6<|ze<|bM.c1 Z ⟨_,.t1⟩ jq jl Z ?_
  rfl
theorem Ac {l:List Bool} {f:ai} {k:Nat} {b:aI} (h:f.blocks[k]?=some b):((ba l f).blocks.take k++f.blocks.drop k)=(ba l f).blocks.take k++b::f.blocks.drop (k+1):=by
 obtain ⟨h1,rfl⟩:=List.getElem?_eq_some_iff.1 h
 rw[←List.drop_eq_getElem_cons h1]
set_option maxHeartbeats 8000000 in
theorem vt (f:ai) (hf:small f) (hL:ae E) (ht:cK f=true) (l:List Bool) (hl:l.length=(pA 0 f.blocks).length):aV prog E 7 [.agg (bW f),.fro 1 (l.map zW)] (.tup [.agg (bW (ba l f)),.int .i64 0]):=by
 obtain ⟨hf1,hf2,hf3,hf4,hf5⟩:=id hf
 have hty:=lj (E:=E) f hf hL
 rw[if_pos ht] at hty
 have hpl:=hZ hf f.blocks.length
 rw[qt] at hpl
 refine zr func7 Z (by decide) Z<|ao<|yf (cs:=_) Z Z Z<|zz (cs:=[.raw (.slice none 0 0),.raw (.slice none 0 0),.raw (.slice none 0 0)]) Zu Z Z<|fun i4=>ax Z<|z6<|zb<|ao<|ac jq jl Z Z<|zh (hty) Z<|ax Z<|z6<|ao<|aa Z<|z8 (yl Z Z)<|z6<|yv Z Z<|zg<|zb<|ao<|z8 (eR Z)<|aj jk Z<|ac jq jl Z Z<|zh (nj f hf hL ht) Z<|aj Y6 Z<|z8 (yl Z Z)<|z6<|yv Z (by rw[hl];simp)<|zg<|ao<|ac jq jl Z Z<|yr Z (zq (.r (.rest _))) ((uV f hf).exact) ?_
 rintro r29 O29 ⟨ib,rfl,rfl,_⟩
 refine zz (cs:=[.raw (.slice none 0 0),.raw (.slice none 0 0),.raw (.slice none 0 0)]) Zu Z Z<|fun i7=>zx jl Z Z Z Z Z Z .head Z<|z6<|ao<|ax Z<|z6<|zb<|ao<|z8 (za jj Z Z6 (by decide) Z Z)<|z8 (zd (c:=.own _ _) Zk Z ⟨_,.head⟩ Z)<|z8 (Gv.lenO jp Z)<|aa Z<|z6<|zy (zj (zn .t2))<|zy (zj (zn .t1))<|zy (zj (zn .t2)) ?_
 have hz:(ba l f).blocks.take 0++f.blocks.drop 0=f.blocks:=by rw[List.take_zero,List.drop_zero];rfl
 refine zk<|yd (γ:=Nat) [1,4,7,32] (fun k=>[(33,.int .i64 k),(8,.int .i64 (bb f.blocks k:Nat))]) (fun k=>[(ib,.grow 7 62 (((ba l f).blocks.take k++f.blocks.drop k).map bc).flatten),(i7,.cells 26 [.fro 2 (f.vars.map bU),.fro 1 (f.params.map bS),.own ib f.blocks.length]),(i4,.cells 26 [.raw (.slice none 0 0),.raw (.slice none 0 0),.raw (.slice none 0 0)])]) (fun k=>k≤f.blocks.length) (fun k=>f.blocks.length - k) 0 dX ⟨_,(.refl _),by rw[hz]<;>rfl⟩ (qr _) ?_
 rintro k hk
 refine ao<|ay Z Z<|z6<|zb<|zp Z (fun ck=>?_) (fun ck=>?_)
 ·have hk2:k<f.blocks.length:=by simp at ck;omega
  obtain ⟨b,hb⟩:∃b,f.blocks[k]?=some b:=⟨_,qo hk2⟩
  have hbm:=qv hb
  obtain ⟨hb0,hb1,hb2,hb3,hb4⟩:=hf5 b hbm
  obtain ⟨P,hP⟩:∃P,(((ba l f).blocks.take k).map bc).flatten=P:=⟨_,rfl⟩
  obtain ⟨S,hS⟩:∃S,((f.blocks.drop (k+1)).map bc).flatten=S:=⟨_,rfl⟩
  have hPl:P.length=k*7:=by rw[←hP,iI,lB hk]
  have hSl:S.length=(f.blocks.length - (k+1))*7:=by rw[←hS,iI,List.length_drop]
  have hcell:(((ba l f).blocks.take k++f.blocks.drop k).map bc).flatten=P++(([.str b.name,.fro 3 (b.phis.map bD),.fro 4 (b.insts.map bf),.int .i64 b.term.kind,.int .i64 b.term.var,.int .i64 b.term.to0,.int .i64 b.term.to1]:List AV)++S):=by
   rw[Ac hb,List.map_append,List.flatten_append,hP,List.map_cons,List.flatten_cons,hS];rfl
  have hcl:∀x,(P++(([.str b.name,.fro 3 (b.phis.map bD),x,.int .i64 b.term.kind,.int .i64 b.term.var,.int .i64 b.term.to0,.int .i64 b.term.to1]:List AV)++S)).length=f.blocks.length*7:=fun x=>by
   rw[qu,qu,hPl,hSl]
   show k*7+(7+_)=_
   omega
  have hnb:=py hb
  rw[hcell]
  refine zg<|zb<|zk<|ao<|aa Z<|ax Z<|z6<|ao<|z8 (za jj Z Z6 (by decide) Z Z)<|z8 (zd (c:=.own _ _) Zk Z ⟨_,.t1⟩ Z)<|aa Z<|z8 (Gv.idxO (j:=k) jp ju Z Z Z ⟨_,.head⟩ (fun h=>by have:=hcl (.fro 4 []);have h2:=congrArg List.length h;simp at h2) hk2)<|z8 (yJ Z)<|z6<|ao<|bd Z<|z8 (zf Z)<|z8 (za j9 Z jw (by decide) Z Z)<|z8 (Gv.load1G (c:=_) Zb Z ⟨_,.head⟩ (nl hPl 2))<|z8 (BS Z)<|z6<|ao<|bd Z<|z8 (zf Z)<|z8 (za j9 Z jw (by decide) Z Z)<|ak.storeGN (new:=P++(([.str b.name,.fro 3 (b.phis.map bD),.raw (.slice none 0 0),.int .i64 b.term.kind,.int .i64 b.term.var,.int .i64 b.term.to0,.int .i64 b.term.to1]:List AV)++S)) jw Z Z Z Z Z .head (show k*7+2<_ from Nat.lt_of_lt_of_eq (m:=f.blocks.length*7) (by omega) (hcl _).symm) (lz hPl 2 _)<|z6<|ao<|z8 (eR Z)<|aj jm Z<|aa Z<|z6<|vn (off:=k*7+2) (k:=4) (T:=67) (fun _=>.head) (fun _=>lz hPl 2 _) (wN hPl 2)<|fun ii=>zk<|yd (γ:=Nat × Nat) [1,4,7,10,32,33,47,48] (fun g=>[(49,.int .i64 g.1),(8,.int .i64 ((bb f.blocks k+bQ (b.insts.take g.1):Nat):Int))]) (fun g=>[(g.2,.grow 4 67 ((bA l (bb f.blocks k) (b.insts.take g.1)).map bf).flatten),(ib,.grow 7 62 (P++(([.str b.name,.fro 3 (b.phis.map bD),.own g.2 (bA l (bb f.blocks k) (b.insts.take g.1)).length,.int .i64 b.term.kind,.int .i64 b.term.var,.int .i64 b.term.to0,.int .i64 b.term.to1]:List AV)++S))),(i7,.cells 26 [.fro 2 (f.vars.map bU),.fro 1 (f.params.map bS),.own ib f.blocks.length]),(i4,.cells 26 [.raw (.slice none 0 0),.raw (.slice none 0 0),.raw (.slice none 0 0)])]) (fun g=>g.1≤b.insts.length) (fun g=>b.insts.length - g.1) (0,ii) dX ⟨_,(.refl _),by rw[List.take_zero]<;>rfl⟩ (qr _) ?_
  rintro ⟨m,ii⟩ hm
  try dsimp only at *
  have hil:=lD (l:=l) (n:=bb f.blocks k) (m:=m) (r:=b.insts)
  have hif:=oB (bA l (bb f.blocks k) (b.insts.take m))
  refine ao<|ay Z Z<|z6<|zb<|zp Z (fun cm=>?_) (fun cm=>?_)
  ·have hm2:m<b.insts.length:=by simp at cm;omega
   obtain ⟨x,hx⟩:∃x,b.insts[m]?=some x:=⟨_,qo hm2⟩
   have hdt:=lC (l:=l) (n:=bb f.blocks k) hx
   have hct:bQ (b.insts.take (m+1))=bQ (b.insts.take m)+qZ x:=by rw[fC hx,ll];rfl
   obtain ⟨q,hq⟩:∃q,bb f.blocks k+bQ (b.insts.take m)=q:=⟨_,rfl⟩
   have hq2:bb f.blocks k+bQ (b.insts.take (m+1))=q+qZ x:=by omega
   rw[hq] at hdt
   rw[hq]
   refine zg<|zb<|zk<|ao<|z8 (dj m jm jv Z Z Z hx)<|ac Zr jv Z Z<|zz (cs:=[.int .i64 0,.int .i64 0,.raw (.slice none 0 0),.int .i64 0]) Zs Z Z<|fun i13=>zx jv Z Z Z Z Z Z .head Z<|z6<|zy (yo (t:=13) Z .head) ?_
   by_cases cc:gK x=true
   ·have hlt:=pz hb hx cc
    rw[hq,←hl] at hlt
    have hc1:qZ x=1:=if_pos cc
    have hg:cx l q x=gb l q:=by unfold cx;rw[cc];rfl
    rw[hg] at hdt
    refine ao<|ab Z<|z6<|zb<|ao<|aw jd Z Z7 Z Z<|aN Zh Z<|zh (gM x.op) Z<|z6<|yq Z cc<|ao<|z8 (eR Z)<|aa Z<|z8 (dj q jk Z8 Z Z Z (wQ hlt))<|z8 (qi (c:=.bool _) Ye Z)<|ab Z<|z6<|bj<|aa Z<|aF Z Z<|ax Z<|z6<|ao<|ah Z<|aE Z<|z6<|zw Z (fun cg=>?_) (fun cg=>?_)
    ·have cg:gb l (q:Int)=false:=by simpa using cg
     rw[cg,if_neg (by decide)] at hdt
     refine zo (fun j=>Nat.beq j 10) (by kernel_rfl) Z (zq (.l (.r (.rest _))))<|ad 0 Z (dh Z)<|ad 1 Z (dh Z)<|ad 2 Z (zf Z)<|ad 3 Z (za j9 Z jw (by decide) Z Z)<|ad 4 Z (Gv.load1G (c:=_) Zb Z ⟨_,.head⟩ (nl hPl 2))<|ad 5 Z (yu Zr jv Z Z)<|bl 6 Z<|yk (rows:=[[_,_,_,_]]) kT Z Z Z Z Z<|z6<|bl 7 Z<|yt (k:=4) jm type67 Z Z Z Z Z (fun _=>.head) hif (by decide) Z (by show (_+_)*48≤_;simp<;>omega) (by simp<;>omega)<|fun i71=>z6<|yj (i:=8) Z (by kernel_rfl) (by kernel_rfl) (by kernel_rfl) (by kernel_rfl) (zf Z)<|ad 9 Z (za j9 Z jw (by decide) Z Z)<|ya<|yg (i:=10) Z (by kernel_rfl) (by kernel_rfl)<|ak.storeGN (new:=P++(([.str b.name,.fro 3 (b.phis.map bD),.own i71 ((bA l (bb f.blocks k) (b.insts.take m)).length+1),.int .i64 b.term.kind,.int .i64 b.term.var,.int .i64 b.term.to0,.int .i64 b.term.to1]:List AV)++S)) jw Z Z Z Z Z .head (show k*7+2<_ from Nat.lt_of_lt_of_eq (m:=f.blocks.length*7) (by omega) (hcl _).symm) (lz hPl 2 _)<|z6<|ye (by kernel_rfl)<|zy (zj (zn .t3))<|zy (zj (zn .t3))<|zy (zj (zn .t2))<|zy (zj (zn .t3))<|bj<|aF Z Z<|aa Z<|z6 ?_
     exact ⟨(m+1,i71),oZ,⟨rfl,congrArg (AV.int .i64) (by rw[hq2,hc1]<;>rfl),trivial⟩,⟨_,(.refl _),by dsimp only;rw[hdt,il,qu];rfl⟩,hm2,by dsimp only;omega⟩
    ·have cg:gb l (q:Int)=true:=by simpa using cg
     rw[cg,if_pos rfl,List.append_nil] at hdt
     refine zg<|bj<|aF Z Z<|aa Z<|z6 ?_
     exact ⟨(m+1,ii),oZ,⟨rfl,congrArg (AV.int .i64) (by rw[hq2,hc1]<;>rfl),trivial⟩,⟨_,(.refl _),by dsimp only;rw[hdt]<;>rfl⟩,hm2,by dsimp only;omega⟩
   ·have hc1:qZ x=0:=if_neg cc
    have hg:cx l q x=false:=by unfold cx;rw[Bool.eq_false_iff.2 cc];rfl
    rw[hg,if_neg (by decide)] at hdt
    refine ao<|ab Z<|z6<|zb<|ao<|aw jd Z Z7 Z Z<|aN Zh Z<|zh (gM x.op) Z<|z6<|yv Z (Bool.eq_false_iff.2 cc)<|zg<|ao<|ah Z<|aE Z<|z6<|yq Z Z<|zo (fun j=>Nat.beq j 10) (by kernel_rfl) Z (zq (.l (.r (.rest _))))<|ad 0 Z (dh Z)<|ad 1 Z (dh Z)<|ad 2 Z (zf Z)<|ad 3 Z (za j9 Z jw (by decide) Z Z)<|ad 4 Z (Gv.load1G (c:=_) Zb Z ⟨_,.head⟩ (nl hPl 2))<|ad 5 Z (yu Zr jv Z Z)<|bl 6 Z<|yk (rows:=[[_,_,_,_]]) kT Z Z Z Z Z<|z6<|bl 7 Z<|yt (k:=4) jm type67 Z Z Z Z Z (fun _=>.head) hif (by decide) Z (by show (_+_)*48≤_;simp<;>omega) (by simp<;>omega)<|fun i71=>z6<|yj (i:=8) Z (by kernel_rfl) (by kernel_rfl) (by kernel_rfl) (by kernel_rfl) (zf Z)<|ad 9 Z (za j9 Z jw (by decide) Z Z)<|ya<|yg (i:=10) Z (by kernel_rfl) (by kernel_rfl)<|ak.storeGN (new:=P++(([.str b.name,.fro 3 (b.phis.map bD),.own i71 ((bA l (bb f.blocks k) (b.insts.take m)).length+1),.int .i64 b.term.kind,.int .i64 b.term.var,.int .i64 b.term.to0,.int .i64 b.term.to1]:List AV)++S)) jw Z Z Z Z Z .head (show k*7+2<_ from Nat.lt_of_lt_of_eq (m:=f.blocks.length*7) (by omega) (hcl _).symm) (lz hPl 2 _)<|z6<|ye (by kernel_rfl)<|zy (zj (zn .t3))<|zy (zj (zn .t3))<|zy (zj (zn .t2))<|zy (zj (zn .t3)) ?_
    refine bj<|aF Z Z<|aa Z<|z6 ?_
    exact ⟨(m+1,i71),oZ,⟨rfl,congrArg (AV.int .i64) (by rw[hq2,hc1]<;>rfl),trivial⟩,⟨_,(.refl _),by dsimp only;rw[hdt,il,qu];rfl⟩,hm2,by dsimp only;omega⟩
  ·obtain rfl:m=b.insts.length:=by simp at cm;omega
   rw[qt]
   refine zy (aZ.knowG (j:=ib) (off:=k*7+2) (rows:=(bA l (bb f.blocks k) b.insts).map bf) .head .head (wN hPl 2) (lz hPl 2 _) (fun r hr=>by obtain ⟨z,_,rfl⟩:=List.mem_map.1 hr;rfl) (by decide) (List.length_map ..)) ?_
   have hcell2:(((ba l f).blocks.take (k+1)++f.blocks.drop (k+1)).map bc).flatten=P++(([.str b.name,.fro 3 (b.phis.map bD),.fro 4 ((bA l (bb f.blocks k) b.insts).map bf),.int .i64 b.term.kind,.int .i64 b.term.var,.int .i64 b.term.to0,.int .i64 b.term.to1]:List AV)++S):=by
    rw[lA hb,qq,List.map_append,List.flatten_append,hP,List.singleton_append,List.map_cons,List.flatten_cons,hS];rfl
   refine yc<|bj<|aF Z Z<|aa Z<|z6 ?_
   exact ⟨k+1,f0,⟨rfl,congrArg (AV.int .i64) (by rw[hnb]),trivial⟩,⟨_,(.refl _),by rw[hcell2]<;>rfl⟩,hk2,by omega⟩
 ·obtain rfl:k=f.blocks.length:=by simp at ck;omega
  have he:(ba l f).blocks.take f.blocks.length++f.blocks.drop f.blocks.length=(ba l f).blocks:=by rw[List.take_of_length_le (Nat.le_of_eq dF),List.drop_length,List.append_nil]
  rw[he]
  refine zy (aZ.knowC (off:=2) (rows:=(ba l f).blocks.map bc) .head .head Z (by intro r hr;obtain ⟨z,_,rfl⟩:=List.mem_map.1 hr;rfl) (by decide) (by rw[List.length_map,dF]))<|yc<|ao<|z8 (Gv.loadWC jq jl Z ⟨_,.head⟩ Z)<|zx jl Z Z Z Z Z Z .t1 Z<|ax Z<|z6<|ze<|bM.c1t (y:=.int _ _) Z Z ⟨_,.t1⟩ jq jl Z ?_
  rfl
end
section
open Go.Proofs.Tryz
open Go.Proofs
variable {E:World}
set_option maxRecDepth 20000
end
section
open Go.Proofs.Tryz
open Go.Proofs
variable {E:World}
set_option maxRecDepth 20000
theorem pH {k:Nat} (hk:k≤2) {x y:Int} (hx:bT x) (hy:bT y):aV prog E 67 [.int .i64 k,.int .i64 x,.int .i64 y] (.bool (decide (d5 k x y))):=by
 have hx1:=hx;have hy1:=hy
 unfold bT at hx1 hy1
 refine zr func67 Z (by decide) Z<|ao<|ab Z<|z6<|zb<|ao<|aa Z<|z6<|zk<|ao<|az Z Z<|ab Z<|z6<|zp Z (fun c0=>?_) (fun c0=>?_)
 ·have hk0:k=0:=by omega
  subst hk0
  refine ao<|aa Z<|z8 (q3 Z Z)<|ah Z<|zm (s:=16) Z (fun c1=>?_) (fun c1=>?_)
  ·refine z7 Z Z c1<|aa Z<|z7 Z Z c1<|aa Z<|z7 Z Z c1<|z8 (qn Z Z (by unfold ft;simp at *;omega))<|z7 Z Z c1<|z8 (q3 Z Z)<|ap Z c1 Z<|aE Z<|ah Z<|zm (s:=23) Z (fun c2=>?_) (fun c2=>?_)
   ·refine z7 Z Z c2<|aa Z<|z7 Z Z c2<|ay Z Z<|z7 Z Z c2<|ah Z<|zm (s:=26) Z (fun c3=>?_) (fun c3=>?_)
    ·refine z7 Z Z c3<|aa Z<|z7 Z Z c3<|aa Z<|z7 Z Z c3<|z8 (qn Z Z (by unfold ft;simp at *;omega))<|z7 Z Z c3<|ay Z Z<|z7 Z Z c2<|ap Z c3 Z<|z7 Z Z c2<|aE Z<|ap Z c2 Z<|ab Z<|z6<|ze<|zi (x:=.bool _) Z ?_
     exact jb (by rw[Bool.eq_iff_iff];unfold d5 nT bT;simp at *<;>omega)
    ·refine z2 Z Z c3<|z2 Z Z c3<|z2 Z Z c3<|z2 Z Z c3<|z7 Z Z c2<|aq Z c3 Z<|z7 Z Z c2<|aE Z<|ap Z c2 Z<|ab Z<|z6<|ze<|zi (x:=.bool _) Z ?_
     exact jb (by rw[Bool.eq_iff_iff];unfold d5 nT bT;simp at *<;>omega)
   ·refine z2 Z Z c2<|z2 Z Z c2<|z2 Z Z c2<|zc Z Z<|zc Z Z<|zc Z Z<|zc Z Z<|z2 Z Z c2<|z2 Z Z c2<|aq Z c2 Z<|ab Z<|z6<|ze<|zi (x:=.bool _) Z ?_
    exact jb (by rw[Bool.eq_iff_iff];unfold d5 nT bT;simp at *<;>omega)
  ·refine z2 Z Z c1<|z2 Z Z c1<|z2 Z Z c1<|z2 Z Z c1<|aq Z c1 Z<|aE Z<|ah Z<|z7 Z Z Z<|aa Z<|z7 Z Z Z<|ay Z Z<|z7 Z Z Z<|ah Z<|zm (s:=26) Z (fun c4=>?_) (fun c4=>?_)
   ·refine z7 Z Z c4<|aa Z<|z7 Z Z c4<|aa Z<|z7 Z Z c4<|z8 (qn Z Z (by unfold ft;simp at *;omega))<|z7 Z Z c4<|ay Z Z<|z7 Z Z Z<|ap Z c4 Z<|z7 Z Z Z<|aE Z<|ap Z Z Z<|ab Z<|z6<|ze<|zi (x:=.bool _) Z ?_
    exact jb (by rw[Bool.eq_iff_iff];unfold d5 nT bT;simp at *<;>omega)
   ·refine z2 Z Z c4<|z2 Z Z c4<|z2 Z Z c4<|z2 Z Z c4<|z7 Z Z Z<|aq Z c4 Z<|z7 Z Z Z<|aE Z<|ap Z Z Z<|ab Z<|z6<|ze<|zi (x:=.bool _) Z ?_
    exact jb (by rw[Bool.eq_iff_iff];unfold d5 nT bT;simp at *<;>omega)
 ·refine ao<|az Z Z<|ab Z<|z6<|zp Z (fun c1=>?_) (fun c1=>?_)
  ·have hk1:k=1:=by omega
   subst hk1
   refine ao<|aa Z<|ay Z Z<|ah Z<|zm (s:=38) Z (fun c5=>?_) (fun c5=>?_)
   ·refine z7 Z Z c5<|aa Z<|z7 Z Z c5<|aa Z<|z7 Z Z c5<|z8 (Gv.add Z Z (by unfold ft;simp at *;omega))<|z7 Z Z c5<|z8 (q3 Z Z)<|ap Z c5 Z<|aE Z<|ah Z<|zm (s:=45) Z (fun c6=>?_) (fun c6=>?_)
    ·refine z7 Z Z c6<|aa Z<|z7 Z Z c6<|z8 (q3 Z Z)<|z7 Z Z c6<|ah Z<|zm (s:=48) Z (fun c7=>?_) (fun c7=>?_)
     ·refine z7 Z Z c7<|aa Z<|z7 Z Z c7<|aa Z<|z7 Z Z c7<|z8 (Gv.add Z Z (by unfold ft;simp at *;omega))<|z7 Z Z c7<|ay Z Z<|z7 Z Z c6<|ap Z c7 Z<|z7 Z Z c6<|aE Z<|ap Z c6 Z<|ab Z<|z6<|ze<|zi (x:=.bool _) Z ?_
      exact jb (by rw[Bool.eq_iff_iff];unfold d5 nT bT;simp at *<;>omega)
     ·refine z2 Z Z c7<|z2 Z Z c7<|z2 Z Z c7<|z2 Z Z c7<|z7 Z Z c6<|aq Z c7 Z<|z7 Z Z c6<|aE Z<|ap Z c6 Z<|ab Z<|z6<|ze<|zi (x:=.bool _) Z ?_
      exact jb (by rw[Bool.eq_iff_iff];unfold d5 nT bT;simp at *<;>omega)
    ·refine z2 Z Z c6<|z2 Z Z c6<|z2 Z Z c6<|zc Z Z<|zc Z Z<|zc Z Z<|zc Z Z<|z2 Z Z c6<|z2 Z Z c6<|aq Z c6 Z<|ab Z<|z6<|ze<|zi (x:=.bool _) Z ?_
     exact jb (by rw[Bool.eq_iff_iff];unfold d5 nT bT;simp at *<;>omega)
   ·refine z2 Z Z c5<|z2 Z Z c5<|z2 Z Z c5<|z2 Z Z c5<|aq Z c5 Z<|aE Z<|ah Z<|z7 Z Z Z<|aa Z<|z7 Z Z Z<|z8 (q3 Z Z)<|z7 Z Z Z<|ah Z<|zm (s:=48) Z (fun c8=>?_) (fun c8=>?_)
    ·refine z7 Z Z c8<|aa Z<|z7 Z Z c8<|aa Z<|z7 Z Z c8<|z8 (Gv.add Z Z (by unfold ft;simp at *;omega))<|z7 Z Z c8<|ay Z Z<|z7 Z Z Z<|ap Z c8 Z<|z7 Z Z Z<|aE Z<|ap Z Z Z<|ab Z<|z6<|ze<|zi (x:=.bool _) Z ?_
     exact jb (by rw[Bool.eq_iff_iff];unfold d5 nT bT;simp at *<;>omega)
    ·refine z2 Z Z c8<|z2 Z Z c8<|z2 Z Z c8<|z2 Z Z c8<|z7 Z Z Z<|aq Z c8 Z<|z7 Z Z Z<|aE Z<|ap Z Z Z<|ab Z<|z6<|ze<|zi (x:=.bool _) Z ?_
     exact jb (by rw[Bool.eq_iff_iff];unfold d5 nT bT;simp at *<;>omega)
  ·have hk2:k=2:=by omega
   subst hk2
   refine zg<|zb<|zb<|yp (γ:=Bool) [1,2] (fun u=>[(61,.bool u)]) (fun u=>[]) (fun u=>u=decide (x=0∨y=0)) ?_ (fun _ _ h=>h) ?_
   ·refine bj<|aa Z<|az Z Z<|ah Z<|zm (s:=58) Z (fun c9=>?_) (fun c9=>?_)
    ·refine z2 Z Z c9<|z2 Z Z c9<|ap Z c9 Z<|z6 ?_
     exact ⟨_,dX,aY,aS,by simp_all⟩
    ·refine z7 Z Z c9<|aa Z<|z7 Z Z c9<|az Z Z<|aq Z c9 Z<|z6 ?_
     exact ⟨_,dX,aY,aS,by simp_all⟩
   ·rintro u hu
    subst hu
    refine zp Z (fun cz=>?_) (fun cz=>?_)
    ·refine ao<|ab Z<|z6<|ze<|zi (x:=.bool _) Z ?_
     exact jb (by rw[qx];unfold d5;rw[show nT 2 x y=x*y from rfl];rcases cz with h|h<;>rw[h]<;>simp[bT])
    ·have hx0:x≠0:=fun e=>cz (.inl e)
     have hy0:y≠0:=fun e=>cz (.inr e)
     refine zg<|ao<|aa Z<|ay Z Z<|aa Z<|ay Z Z<|z8 (Gv.eqlB underlying4 Z Z)<|ab Z<|z6<|ao<|aa Z<|z8 (Gv.conv Zf Z9 Z)<|aa Z<|z8 (Gv.conv Zf Z9 Z)<|ax Z<|ax Z<|z6<|zb<|ao<|aa Z<|ay Z Z<|z6<|yp (γ:=Int) [2,7,9] (fun u=>[(8,.int .u64 u)]) (fun u=>[]) (fun u=>u=(x.natAbs:Int)) ?_ (fun _ _ h=>h) ?_
     ·refine zp Z (fun c=>?_) (fun c=>?_)
      ·refine bj<|aa Z<|z8 (Gv.neg Z)<|ax Z<|z6 ?_
       exact ⟨_,gB,aY,aS,by have:=g6 hx;rwa [if_pos c] at this⟩
      ·refine zg ?_
       exact ⟨_,gB,aY,aS,by have:=g6 hx;rwa [if_neg c] at this⟩
     ·rintro u hu
      subst hu
      refine zb<|ao<|aa Z<|ay Z Z<|z6<|yp (γ:=Int) [7,8] (fun u=>[(9,.int .u64 u)]) (fun u=>[]) (fun u=>u=(y.natAbs:Int)) ?_ (fun _ _ h=>h) ?_
      ·refine zp Z (fun c=>?_) (fun c=>?_)
       ·refine bj<|aa Z<|z8 (Gv.neg Z)<|ax Z<|z6 ?_
        exact ⟨_,dX,aY,aS,by have:=g6 hy;rwa [if_pos c] at this⟩
       ·refine zg ?_
        exact ⟨_,dX,aY,aS,by have:=g6 hy;rwa [if_neg c] at this⟩
      ·rintro u hu
       subst hu
       refine ao<|ax Z<|z6<|zb<|ao<|ah Z<|aE Z<|z6<|yp (γ:=Int) [8,9] (fun u=>[(10,.int .u64 u)]) (fun u=>[]) (fun u=>u=(if (decide (x<0) == decide (y<0))=true then 9223372036854775807 else 9223372036854775808)) ?_ (fun _ _ h=>h) ?_
       ·refine zw Z (fun c=>?_) (fun c=>?_)
        ·refine bj<|ax Z<|z6 ?_
         exact ⟨_,dX,aY,aS,by rw[if_neg (by simpa using c)]⟩
        ·refine zg ?_
         exact ⟨_,dX,aY,aS,by rw[if_pos (by simpa using c)]⟩
       ·rintro u hu
        subst hu
        refine ao<|aa Z<|aa Z<|aa Z<|z8 (Gv.quo Z Z (by omega))<|z8 (Gv.leq Z Z)<|ab Z<|z6<|ze<|zi (x:=.bool _) Z ?_
        exact jb (Ey hx hx0 hy0)
theorem Dx {k:Nat} (hk:k≤2) {x y:Int}:aV prog E 45 [.int .i64 k,.int .i64 x,.int .i64 y] (.int .i64 (IntKind.i64.wrap (nT k x y))):=by
 refine zr func45 Z (by decide) Z<|ao<|ax Z<|z6<|zb<|ao<|aa Z<|z6<|zk<|ao<|az Z Z<|ab Z<|z6<|zp Z (fun c0=>?_) (fun c0=>?_)
 ·have hk0:k=0:=by omega
  subst hk0
  refine ao<|aa Z<|z8 (Gv.conv Zf Z9 Z)<|aa Z<|z8 (Gv.conv Zf Z9 Z)<|z8 (Gv.addW Z Z)<|z8 (Gv.conv Z9 Zf Z)<|ax Z<|z6<|ze<|zi (x:=.int _ _) Z ?_
  exact congrArg (AV.int .i64) (u5 x y)
 ·refine ao<|az Z Z<|ab Z<|z6<|zp Z (fun c1=>?_) (fun c1=>?_)
  ·have hk1:k=1:=by omega
   subst hk1
   refine ao<|aa Z<|z8 (Gv.conv Zf Z9 Z)<|aa Z<|z8 (Gv.conv Zf Z9 Z)<|z8 (Gv.subW Z Z)<|z8 (Gv.conv Z9 Zf Z)<|ax Z<|z6<|ze<|zi (x:=.int _ _) Z ?_
   exact congrArg (AV.int .i64) (u6 x y)
  ·have hk2:k=2:=by omega
   subst hk2
   refine zg<|ao<|aa Z<|z8 (Gv.conv Zf Z9 Z)<|aa Z<|z8 (Gv.conv Zf Z9 Z)<|z8 (Gv.mulW Z Z)<|z8 (Gv.conv Z9 Zf Z)<|ax Z<|z6<|ze<|zi (x:=.int _ _) Z ?_
   exact congrArg (AV.int .i64) (u7 x y)
theorem Dy {x y:Int} (hy:y≠0):aV prog E 46 [.int .i64 x,.int .i64 y] (.tup [.int .i64 (IntKind.i64.wrap (x.tdiv y)),.int .i64 (if y=-1 then 0 else IntKind.i64.wrap (x - IntKind.i64.wrap (IntKind.i64.wrap (x.tdiv y)*y)))]):=by
 refine zr func46 Z (by decide) Z<|ao<|ax Z<|ax Z<|z6<|zb<|ao<|aa Z<|az Z Z<|z6<|zp Z (fun c=>?_) (fun c=>?_)
 ·refine ao<|aa Z<|z8 (Gv.conv Zf Z9 Z)<|z8 (Gv.neg Z)<|z8 (Gv.conv Z9 Zf Z)<|ax Z<|ax Z<|z6<|ze<|bM.t2 (x:=.int _ _) (y:=.int _ _) Z Z ?_
  rw[if_pos c,c,u9];try rfl
 ·refine zg<|zb<|zo (fun j=>false) (by kernel_rfl) Z (zq (.rest _))<|ad 0 Z (cG Z)<|ad 1 Z (cG Z)<|ad 2 Z (Gv.quo Z Z (by omega))<|ad 3 Z (cG Z)<|ad 4 Z (cG Z)<|ad 5 Z (cG Z)<|ad 6 Z (Gv.quo Z Z (by omega))<|ad 7 Z (cG Z)<|ad 8 Z (Gv.mulW Z Z)<|ad 9 Z (Gv.subW Z Z)<|ad 10 Z (yR Z)<|ad 11 Z (yR Z)<|dU<|ze<|bM.t2 (x:=.int _ _) (y:=.int _ _) Z Z ?_
  rw[if_neg c];try rfl
end
section
open Go.Proofs.Tryz
def fg (P:Program) (E:World) (l:List Oper) (Q:aH→OL→Prop) (fuel:Nat) (listed:Array Bool) (env:aH) (R Om:OL):Prop:=
 ∀I F ρ w Lr,db I env ρ→bu I R Lr→eQ I Om (Lr++F) E w→bw P l.toArray (cL I.k Lr E) (cL I.k Lr E) (fun _=>false) (fW I F E Q) fuel listed ρ w
section
variable {E:World} {P:Program} {n:Nat} {l:List Oper} {Q:aH→OL→Prop} {fuel:Nat} {listed:Array Bool} {env:aH} {O R Om:OL}
variable {d ty:Nat} {op:Op} {pos:String} {af:Array Edge}
theorem b9.regionDrawR {Q:Exit→aH→OL→Prop} {id:Nat} (hm:P.follows .mixedOrders=true) (hd:dK n l=true) (hO:O.Perm (Om++R)) (h:fg P E l (Q .normal) l.length (Array.replicate l.length false) env R Om):b9 P E n (.region id l.toArray true) Q env O:=fun I F ρ w h1 h2=>by
 obtain ⟨Lr,hLr,h3⟩:=h2.split hO
 refine WP.regionDraw (cL I.k Lr E) (cL I.k Lr E) (fun _=>false) hm hd fun w' hw=>?_
 subst hw
 refine h I F ρ _ Lr h1 hLr ?_
 obtain ⟨ht,L,hL,hS⟩:=h3
 exact ⟨ht,L,hL,hS.drew⟩
theorem fg.takeK {i:Nat} {x:AV} (hi:l[i]?=some (Oper.mk (some d) op ty pos af none)) (hs:Region.noSelect l.toArray=true) (hf:Region.free .any l.toArray listed i=true)
  (hr:(Region.ready .any l.toArray listed).contains i=true) (hg:Gv P env R (Oper.mk (some d) op ty pos af none) x)
  (h:fg P E l Q fuel (listed.setIfInBounds i true) (bz env d x) R Om):fg P E l Q (fuel+1) listed env R Om:=fun I F ρ w Lr h1 hLr h2=>by
 obtain ⟨v,hv,hrun⟩:=hg I Lr E ρ h1 hLr
 exact bw.takeK hi hs hf hr rfl h2.here (.inr h2.here) (fun w ⟨J,L',a,b,c⟩=>hrun w J L' a b c) (h I F _ w Lr (h1.upd d hv) hLr h2)
theorem fg.one {i:Nat} {o:Oper} (hi:l[i]?=some o) (hr:Region.ready .any l.toArray listed=[i])
  (h:ak P E l.toArray (fun env' Om'=>fg P E l Q fuel (listed.setIfInBounds i true) env' R Om') [o] env Om):fg P E l Q (fuel+1) listed env R Om:=fun I F ρ w Lr h1 hLr h2=>
 bw.one hi hr (q4 (fun ρ' w' ⟨J,env',Om',a,b,c,d⟩=>by
  have hst:cL I.k Lr E w':=by
   obtain ⟨J',L',h3,h4,h5⟩:=c.here
   exact ⟨J',L',a.k.trans h3,h4,h5⟩
  refine ⟨⟨hst,.inr hst⟩,bw.mono ?_ ?_ (fun _ _=>q9 a) _ _ _ _ (d J F ρ' w' Lr b (hLr.mono a) c)⟩
  ·rintro w ⟨J',L',h3,h4⟩;exact ⟨J',L',a.k.trans h3,h4⟩
  ·rintro w ⟨J',L',h3,h4⟩;exact ⟨J',L',a.k.trans h3,h4⟩) _ _ _ (h I (Lr++F) ρ w h1 h2))
theorem fg.done (hr:Region.ready .any l.toArray listed=[]) (h:Q env (R++Om)):fg P E l Q fuel listed env R Om:=fun I F ρ w Lr h1 hLr h2=>
 bw.done hr ⟨I,env,R++Om,.refl _,h1,eQ.together hLr h2,h⟩
end
end
section
open Go.Proofs.Tryz
open Go.Proofs Go.Lib Go.Shelf Go.RowKit
variable {E:World}
set_option maxRecDepth 20000
def eF (ids:List Nat) (rs:List (List Int)):List AV:=List.zipWith (fun i r=>AV.own i r.length) ids rs
def Ad (i:Nat) (r:List Int):Nat × aW:=(i,.grow 1 2 (cI r))
def lE (ids:List Nat) (rs:List (List Int)):OL:=List.zipWith Ad ids rs
theorem fh {ids:List Nat} {rs:List (List Int)} (h:ids.length=rs.length):(eF ids rs).length=rs.length:=by unfold eF;simp[h]
theorem fj:∀{ids:List Nat} {rs:List (List Int)} {j i:Nat} {r:List Int},ids[j]?=some i→rs[j]?=some r→(eF ids rs).drop j=.own i r.length::(eF ids rs).drop (j+1)
 |[],_,_,_,_,h,_=>by simp at h
 |_::_,[],_,_,_,_,h=>by simp at h
 |i::ids,r::rs,0,_,_,h1,h2=>by
  simp at h1 h2
  subst h1 h2;rfl
 |_::ids,_::rs,j+1,i,r,h1,h2=>fj (ids:=ids) (rs:=rs) (by simpa using h1) (by simpa using h2)
theorem nn {ids:List Nat} {rs:List (List Int)} (h:ids.length=rs.length) {j:Nat} (hj:j<rs.length):∃i,ids[j]?=some i:=⟨_,qo (by omega)⟩
theorem me {l:List Int} {k:Nat} (h:k<l.length):l[k]?=some ((l[k]?).getD 0):=by
 rw[qo h];rfl
abbrev nU (f:ai) (ja jb jc jo jt:Nat) (s:GS):List AV:=bW f++[.own ja f.vars.length,.own jb f.vars.length,.own jc f.vars.length,.own jo s.arrays.length,.int .i64 s.blk,.int .i64 s.pc,.int .i64 s.en,.int .i64 s.val,.int .i64 s.tr,.own jt s.trace.length,.int .i64 s.st,.int .i64 (s.ck 0),.int .i64 (s.ck 1),.int .i64 (s.ck 2),.int .i64 (s.ck 3),.int .i64 (s.ck 4),.int .i64 (s.ck 5),.int .i64 (s.ck 6),.int .i64 (s.ck 7),.bool s.ended]
abbrev wR (ja jb jc jo jt:Nat) (ids:List Nat) (s:GS):OL:=[(ja,.grow 1 2 (cI s.ints)),(jb,.grow 1 4 (cB s.bools)),(jc,.grow 1 3 (cI s.arrs)),(jo,.grow 1 49 (eF ids s.arrays)),(jt,.grow 1 2 (cI s.trace)),(0,Aa (lE ids s.arrays))]
abbrev wO (f:ai) (iw ja jb jc jo jt:Nat) (ids:List Nat) (s:GS):OL:=(iw,.cells 55 (nU f ja jb jc jo jt s))::wR ja jb jc jo jt ids s
theorem cP (f:ai) (iw ja jb jc jo jt:Nat) (ids:List Nat) (s:GS) (e:Int):bC prog E 30 [.po iw 0,.int .i64 e] (wO f iw ja jb jc jo jt ids s) (fun y O=>y=.tup []∧O=wO f iw ja jb jc jo jt ids (cu s e)):=by
 refine zr func30 Z (by decide) Z<|bj<|bd Z<|bd Z<|aa Z<|z8 (zf Z)<|z8 (za j8 Z jz (by decide) Z Z)<|z8 (za jf Z sizeOf50 (by decide) Z Z)<|y8 (l:=[_]) (new:=[_,_,_,_,_,_,_,_,_,_,_,_,_,_,_,_,_,_,_,_,_,_,_]) sizeOf50 Z Z Z Z Z Z .head Z Z<|z8 (zf Z)<|z8 (za j8 Z Z8 (by decide) Z Z)<|y8 (l:=[_]) (new:=[_,_,_,_,_,_,_,_,_,_,_,_,_,_,_,_,_,_,_,_,_,_,_]) Z8 Z Z Z Z Z Z .head Z Z<|z6<|yw ?_
 exact ⟨rfl,rfl⟩
theorem gg (f:ai) (iw ja jb jc jo jt:Nat) (ids:List Nat) (s:GS) (a i:Int) (hids:ids.length=s.arrays.length):bC prog E 47 [.po iw 0,.int .i64 a,.int .i64 i] (wO f iw ja jb jc jo jt ids s) (fun y O=>y=.bool (dE s a i)∧O=wO f iw ja jb jc jo jt ids s):=by
 refine zr func47 Z (by decide) Z<|ao<|ab Z<|z6<|ao<|aa Z<|z8 (qg Z Z)<|ah Z<|zm (s:=9) Z (fun c1=>?_) (fun c1=>?_)
 ·have h1:0≤a:=by simpa using c1
  refine z7 Z Z c1<|aa Z<|z7 Z Z c1<|bd Z<|z7 Z Z c1<|z8 (zf Z)<|z7 Z Z c1<|z8 (za j8 Z Zl (by decide) Z Z)<|z7 Z Z c1<|z8 (zd (c:=.own _ _) Y1 Z ⟨_,.head⟩ Z)<|z7 Z Z c1<|z8 (Gv.lenO Z2 Z)<|z7 Z Z c1<|ay Z Z<|ap Z c1 Z<|ah Z<|zm (s:=18) Z (fun c2=>?_) (fun c2=>?_)
  ·have h2:a<s.arrays.length:=by simpa using c2
   refine z7 Z Z c2<|aa Z<|z7 Z Z c2<|z8 (qg Z Z)<|ap Z c2 Z<|ah Z<|zm (s:=22) Z (fun c3=>?_) (fun c3=>?_)
   ·have h3:0≤i:=by simpa using c3
    obtain ⟨q,hq⟩:=nn hids (j:=a.toNat) (by omega)
    refine z7 Z Z c3<|aa Z<|z7 Z Z c3<|bd Z<|z7 Z Z c3<|z8 (zf Z)<|z7 Z Z c3<|z8 (za j8 Z Zl (by decide) Z Z)<|z7 Z Z c3<|z8 (zd (c:=.own _ _) Y1 Z ⟨_,.head⟩ Z)<|z7 Z Z c3<|aa Z<|z7 Z Z c3<|z8 (ym (j:=a.toNat) Z2 Z3 Z Z (by omega) ⟨_,.t4⟩ (fh hids) (by omega))<|z7 Z Z c3<|z8 (Gv.load1G (c:=_) Zc Z ⟨_,.t4⟩ (fj hq (eT h1 h2)))<|z7 Z Z c3<|z8 (Gv.lenO jg Z)<|z7 Z Z c3<|ay Z Z<|ap Z c3 Z<|ab Z<|z6<|ze<|zi (x:=.bool _) Z ?_
    exact ⟨congrArg AV.bool (by unfold dE;simp[h1,h2,h3]),rfl⟩
   ·have h3:¬0≤i:=by simpa using c3
    refine z2 Z Z c3<|z2 Z Z c3<|z2 Z Z c3<|z2 Z Z c3<|z2 Z Z c3<|z2 Z Z c3<|z2 Z Z c3<|z2 Z Z c3<|z2 Z Z c3<|z2 Z Z c3<|aq Z c3 Z<|ab Z<|z6<|ze<|zi (x:=.bool _) Z ?_
    exact ⟨congrArg AV.bool (by unfold dE;simp[h1,h2,h3]),rfl⟩
  ·have h2:¬a<s.arrays.length:=by simpa using c2
   refine z2 Z Z c2<|z2 Z Z c2<|aq Z c2 Z<|ah Z<|z2 Z Z Z<|z2 Z Z Z<|z2 Z Z Z<|z2 Z Z Z<|z2 Z Z Z<|z2 Z Z Z<|z2 Z Z Z<|z2 Z Z Z<|z2 Z Z Z<|z2 Z Z Z<|aq Z Z Z<|ab Z<|z6<|ze<|zi (x:=.bool _) Z ?_
   exact ⟨congrArg AV.bool (by unfold dE;simp[h1,h2]),rfl⟩
 ·have h1:¬0≤a:=by simpa using c1
  refine z2 Z Z c1<|z2 Z Z c1<|z2 Z Z c1<|z2 Z Z c1<|z2 Z Z c1<|z2 Z Z c1<|z2 Z Z c1<|aq Z c1 Z<|ah Z<|z2 Z Z Z<|z2 Z Z Z<|aq Z Z Z<|ah Z<|z2 Z Z Z<|z2 Z Z Z<|z2 Z Z Z<|z2 Z Z Z<|z2 Z Z Z<|z2 Z Z Z<|z2 Z Z Z<|z2 Z Z Z<|z2 Z Z Z<|z2 Z Z Z<|aq Z Z Z<|ab Z<|z6<|ze<|zi (x:=.bool _) Z ?_
  exact ⟨congrArg AV.bool (by unfold dE;simp[h1]),rfl⟩
theorem vu:∀j:Nat,j<27→∀k:Nat,k<27→decide ((bm (j:Int)).1=(bm (k:Int)).1)=decide (j=k):=by decide
theorem aK {op:Int} (h:0≤op∧op≤26) (k:Nat) (hk:k<27) {b:ByteArray} (hb:(bm (k:Int)).1=b):((bm op).1=b)↔op=(k:Int):=by
 subst hb
 obtain ⟨j,rfl⟩:∃j:Nat,op=(j:Int):=⟨op.toNat,by omega⟩
 have:=vu j (by omega) k hk
 rw[decide_eq_decide] at this
 rw[this];omega
def pI (f:ai) (op:Int) (l:List Int):Prop:=18≤op∧op≤24∧0<l.length∧∀v∈l,v<f.vars.length∧0≤v
theorem rl {f:ai} {op:Int} {l:List Int} (h:pI f op l) {k:Nat} (hk:k<l.length):(l[k]?).getD 0<f.vars.length∧0≤(l[k]?).getD 0:=by
 rw[qo hk];exact h.2.2.2 _ (qs hk)
theorem no (f:ai) (iw ja jb jc jo jt:Nat) (ids:List Nat) (s:GS) (op:Int) (l:List Int) (hids:ids.length=s.arrays.length) (hg:bq f s) (ho:pI f op l):bC prog E 44 [.po iw 0,.str (bm op).1,.fro 1 (l.map bS)] (wO f iw ja jb jc jo jt ids s) (fun y O=>y=.bool (eu s op l)∧O=wO f iw ja jb jc jo jt ids s):=by
 have hop:0≤op∧op≤26:=by have:=ho.1;have:=ho.2.1;omega
 obtain ⟨q0,r0⟩:=rl ho ho.2.2.1
 obtain ⟨v0,hv0⟩:∃v,(l[0]?).getD 0=v:=⟨_,rfl⟩
 rw[hv0] at q0 r0
 have hl1:=hg.li
 have hl3:=hg.la
 have ha64:bT (vi s.ints v0):=mz hg.i64
 refine zr func44 Z (by decide) Z<|ao<|ab Z<|z6<|zb<|zo (fun j=>false) (by kernel_rfl) Z (zq (.r (.r (.rest _))))<|ad 0 Z (dh Z)<|ad 1 Z (zf Z)<|ad 2 Z (za j8 Z Z3 (by decide) Z Z)<|ad 3 Z (zd (c:=.own _ _) Zc Z ⟨_,.head⟩ Z)<|ad 4 Z (eR Z)<|ad 5 Z (dj 0 j6 j7 Z Z Z ((me ho.2.2.1).trans (by rw[hv0]))) ?_
 refine ad 6 Z (d8 je Z)<|ad 7 Z (ym (j:=v0.toNat) jg Z0 Z Z (by omega) ⟨_,.t1⟩ ((aO _).trans hl1) (by omega))<|ad 8 Z (qh (j:=v0.toNat) Zz Z ⟨_,.t1⟩ (dO (by omega) r0))<|ad 9 Z (yR Z)<|dU<|ao<|ax Z<|z6<|zb<|ao<|z8 (eR Z)<|aj j6 Z<|z8 (q3 Z Z)<|z6<|yp (γ:=Int) [0,1,2,7] (fun u=>[(8,.int .i64 u)]) (fun u=>wO f iw ja jb jc jo jt ids s) (fun u=>u=BW l s.ints) ?_ (fun _ _ h=>h) ?_
 ·refine zp Z (fun c=>?_) (fun c=>?_)
  ·have c:1<l.length:=by omega
   obtain ⟨q1,r1⟩:=rl ho c
   obtain ⟨v1,hv1⟩:∃v,(l[1]?).getD 0=v:=⟨_,rfl⟩
   rw[hv1] at q1 r1
   refine zo (fun j=>false) (by kernel_rfl) Z (zq (.r (.r (.rest _))))<|ad 0 Z (dh Z)<|ad 1 Z (zf Z)<|ad 2 Z (za j8 Z Z3 (by decide) Z Z)<|ad 3 Z (zd (c:=.own _ _) Zc Z ⟨_,.head⟩ Z)<|ad 4 Z (eR Z)<|ad 5 Z (dj 1 j6 j7 Z Z Z ((me c).trans (by rw[hv1]))) ?_
   refine ad 6 Z (d8 je Z)<|ad 7 Z (ym (j:=v1.toNat) jg Z0 Z Z (by omega) ⟨_,.t1⟩ ((aO _).trans hl1) (by omega))<|ad 8 Z (qh (j:=v1.toNat) Zz Z ⟨_,.t1⟩ (dO (by omega) r1))<|ad 9 Z (yR Z)<|dU ?_
   exact ⟨_,f0,aY,aS,by unfold BW;rw[if_pos c,hv1]⟩
  ·have c:¬1<l.length:=by omega
   refine zg ?_
   exact ⟨_,f0,aY,aS,by unfold BW;rw[if_neg c]⟩
 ·rintro u hu
  have hb64:bT u:=by
   rw[hu];unfold BW;split
   ·exact mz hg.i64
   ·exact ⟨by decide,by decide⟩
  refine zb<|ao<|z8 (yh (v:=.str _) Z)<|z6<|zk<|ao<|z8 (yx Z Z)<|ab Z<|z6<|zp Z (fun c18=>?_) (fun c18=>?_)
  ·have e:op=18:=(aK hop 18 (by decide) rfl).1 c18
   refine zb<|zo (fun j=>false) (by kernel_rfl) Z (zq (.rest _))<|ad 0 Z (dh Z)<|ad 1 Z (dh Z)<|ad 2 Z (zf Z)<|ad 3 Z (za j8 Z jn (by decide) Z Z)<|ad 5 Z (eR Z)<|ad 6 Z (dj 0 j6 j7 Z Z Z ((me ho.2.2.1).trans (by rw[hv0]))) ?_
   refine ad 7 Z (d8 je Z)<|ad 10 Z (cG Z)<|bl 4 Z<|z8 (zd (c:=.own _ _) js Z ⟨_,.head⟩ Z)<|z6<|bl 8 Z<|z8 (ym (j:=v0.toNat) j6 j7 Z Z (by omega) ⟨_,.t3⟩ ((aO _).trans hl3) (by omega))<|z6<|bl 9 Z<|z8 (qh (j:=v0.toNat) je Z ⟨_,.t3⟩ (dO (by omega) r0))<|z6<|bl 11 Z<|yr Z (zq (.l (.l (.l (.l (.l (.l (.l (.rest _))))))))) (gg f iw ja jb jc jo jt ids s (vi s.arrs v0) u hids) ?_
   rintro r44 O44 ⟨rfl,rfl⟩
   refine z6<|ad 12 Z (uQ Z)<|dU<|ze<|zi (x:=.bool _) Z ?_
   exact ⟨by unfold eu;rw[if_pos e,hv0,hu],rfl⟩
  ·have n18:¬op=18:=fun e=>c18 ((aK hop 18 (by decide) rfl).2 e)
   refine ao<|z8 (yx Z Z)<|ab Z<|z6<|zp Z (fun c19=>?_) (fun c19=>?_)
   ·have e:op=19:=(aK hop 19 (by decide) rfl).1 c19
    refine zb<|zo (fun j=>false) (by kernel_rfl) Z (zq (.r (.l (.l (.r (.rest _))))))<|ad 0 Z (dh Z)<|ad 1 Z (zf Z)<|ad 2 Z (za j8 Z jn (by decide) Z Z)<|ad 3 Z (zd (c:=.own _ _) js Z ⟨_,.head⟩ Z)<|ad 4 Z (eR Z)<|ad 5 Z (dj 0 j6 j7 Z Z Z ((me ho.2.2.1).trans (by rw[hv0]))) ?_
    refine ad 6 Z (d8 je Z)<|ad 7 Z (ym (j:=v0.toNat) j6 j7 Z Z (by omega) ⟨_,.t1⟩ ((aO _).trans hl3) (by omega))<|ad 8 Z (qh (j:=v0.toNat) je Z ⟨_,.t1⟩ (dO (by omega) r0))<|ad 9 Z (qg Z Z)<|ad 10 Z (uQ Z)<|dU<|zy (zj (zn .t3))<|zy (zj (zn .t3))<|zy (zj (zn .t2))<|ze<|zi (x:=.bool _) Z ?_
    exact ⟨by unfold eu;rw[if_neg n18,if_pos e,hv0],rfl⟩
   ·have n19:¬op=19:=fun e=>c19 ((aK hop 19 (by decide) rfl).2 e)
    refine ao<|z8 (yx Z Z)<|ab Z<|z6<|zp Z (fun c20=>?_) (fun c20=>?_)
    ·have e:op=20:=(aK hop 20 (by decide) rfl).1 c20
     refine ao<|aa Z<|z8 (yl Z Z)<|ab Z<|z6<|ze<|zi (x:=.bool _) Z ?_
     exact ⟨by unfold eu;rw[if_neg n18,if_neg n19,if_pos e,hv0];simp,rfl⟩
    ·have n20:¬op=20:=fun e=>c20 ((aK hop 20 (by decide) rfl).2 e)
     refine ao<|z8 (yx Z Z)<|ab Z<|z6<|zp Z (fun c21=>?_) (fun c21=>?_)
     ·have e:op=21:=(aK hop 21 (by decide) rfl).1 c21
      refine ao<|aa Z<|aa Z<|zh (pH (k:=0) (by decide) ha64 hb64) Z<|ab Z<|z6<|ze<|zi (x:=.bool _) Z ?_
      exact ⟨by unfold eu;rw[if_neg n18,if_neg n19,if_neg n20,if_pos e,hv0,hu],rfl⟩
     ·have n21:¬op=21:=fun e=>c21 ((aK hop 21 (by decide) rfl).2 e)
      refine ao<|z8 (yx Z Z)<|ab Z<|z6<|zp Z (fun c22=>?_) (fun c22=>?_)
      ·have e:op=22:=(aK hop 22 (by decide) rfl).1 c22
       refine ao<|aa Z<|aa Z<|zh (pH (k:=1) (by decide) ha64 hb64) Z<|ab Z<|z6<|ze<|zi (x:=.bool _) Z ?_
       exact ⟨by unfold eu;rw[if_neg n18,if_neg n19,if_neg n20,if_neg n21,if_pos e,hv0,hu],rfl⟩
      ·have n22:¬op=22:=fun e=>c22 ((aK hop 22 (by decide) rfl).2 e)
       refine ao<|z8 (yx Z Z)<|ab Z<|z6<|zp Z (fun c23=>?_) (fun c23=>?_)
       ·have e:op=23:=(aK hop 23 (by decide) rfl).1 c23
        refine ao<|aa Z<|aa Z<|zh (pH (k:=2) (by decide) ha64 hb64) Z<|ab Z<|z6<|ze<|zi (x:=.bool _) Z ?_
        exact ⟨by unfold eu;rw[if_neg n18,if_neg n19,if_neg n20,if_neg n21,if_neg n22,if_pos e,hv0,hu],rfl⟩
       ·have n23:¬op=23:=fun e=>c23 ((aK hop 23 (by decide) rfl).2 e)
        refine zg<|ao<|aa Z<|z8 (qg Z Z)<|ah Z<|zm (s:=78) Z (fun cz=>?_) (fun cz=>?_)
        ·have h0:0≤vi s.ints v0:=by simpa using cz
         refine z7 Z Z cz<|aa Z<|z7 Z Z cz<|z8 (Gv.leq Z Z)<|ap Z cz Z<|ab Z<|z6<|ze<|zi (x:=.bool _) Z ?_
         exact ⟨congrArg AV.bool (by unfold eu;rw[if_neg n18,if_neg n19,if_neg n20,if_neg n21,if_neg n22,if_neg n23,hv0];simp[h0]),rfl⟩
        ·have h0:¬0≤vi s.ints v0:=by simpa using cz
         refine z2 Z Z cz<|z2 Z Z cz<|aq Z cz Z<|ab Z<|z6<|ze<|zi (x:=.bool _) Z ?_
         exact ⟨congrArg AV.bool (by unfold eu;rw[if_neg n18,if_neg n19,if_neg n20,if_neg n21,if_neg n22,if_neg n23,hv0];simp[h0]),rfl⟩
set_option linter.defProp false
def zu:=@fg.takeK
def qm:=@fg.one
end
end Go.Proofs.YtbconpmnckokoaaGreatDoor
