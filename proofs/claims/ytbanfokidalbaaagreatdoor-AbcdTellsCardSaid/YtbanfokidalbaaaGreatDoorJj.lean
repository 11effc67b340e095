/- The tree of what is above what: made, and asked. Of programs that are little. -/
import Derived.Test.YtbanfokidalbaaaGreatDoorJi
import Derived.Test.YtbanfokidalbaaaGreatDoorJc
import Derived.Test.YtbanfokidalbaaaGreatDoorJh
import Derived.Test.YtbanfokidalbaaaGreatDoorJf
import Derived.LaidEqlPtr
set_option linter.unusedVariables false
set_option linter.unusedSimpArgs false
set_option linter.unusedSectionVars false
namespace Go.Proofs.YtbanfokidalbaaaGreatDoor
section
open Go.Proofs.Tryz
open Go.Proofs Go.Lib Go.Shelf Go.RowKit
variable {E:World}
set_option maxRecDepth 20000
theorem kB (f:ad) (hf:small f) (hL:aE E):aJ prog E 103 [.agg (bL f)] (.bool (aR f)):=by
 refine zo func103 Z (by decide) Z<|ah<|yb (cs:=_) Z Z Z<|ac Z<|z6<|ah<|ab jm jh Z Z<|ze (rv f hf hL) Z<|aj Z Z<|ac Z<|z6<|zg<|zk (x:=.bool _) Z ?_
 cases aR f<;>rfl
theorem bT {f:ad} (h:aR f=true):bF f:=by
 unfold aR at h
 rw[w9,iF] at h
 exact (wb h.1).ends
theorem wx (f:ad) (hf:small f) (hL:aE E) (ht:aR f=true):aJ prog E 73 [.agg (bL f)] (oY eI (da f f.blocks.length)):=by
 have hn:=hf.2.2.1
 refine zo func73 Z (by decide) Z<|ah<|yb (cs:=_) Z Z Z<|bV Z<|z6<|zc<|ah<|ab jm jh Z Z<|ze (kB f hf hL) Z<|aF Z<|z6<|yj Z (by rw[ht];rfl)<|zd<|ah<|ab jm jh Z Z<|ze (rh f (bT ht) (by omega)) Z<|za (iw Z)<|z6<|zg<|zk (x:=.fro _ _) Z ?_
 rfl
theorem oH (f:ad) (hE:bF f) (hn:f.blocks.length≤1000):aJ prog E 114 [.agg (bL f)] (.fro 1 ((aD (ao f) f.blocks.length).map fa)):=
 Ab f hE (by omega) fun l i T h=>wk l i T h
theorem wy (f:ad) (hf:small f) (hL:aE E) (ht:aR f=true):aJ prog E 72 [.agg (bL f)] (.fro 1 ((aD (ao f) f.blocks.length).map fa)):=by
 have hn:=hf.2.2.1
 refine zo func72 Z (by decide) Z<|ah<|yb (cs:=_) Z Z Z<|bV Z<|z6<|zc<|ah<|ab jm jh Z Z<|ze (kB f hf hL) Z<|aF Z<|z6<|yj Z (by rw[ht];rfl)<|zd<|ah<|ab jm jh Z Z<|ze (oH f (bT ht) (by omega)) Z<|za (iw Z)<|z6<|zg<|zk (x:=.fro _ _) Z ?_
 rfl
def uN (x:Bool):List AV:=[.bool x]
theorem Aj (f:ad) (hE:bF f) (hn:f.blocks.length≤1000):aJ prog E 106 [.agg (bL f)] (.fro 1 ((ga (ao f) f.blocks.length).map uN)):=by
 have hG:=hE.grph
 have hol:=fy hG
 refine zo func106 Z (by decide) Z<|ah<|yb (cs:=_) Z Z Z<|bV Z<|z6<|ah<|ae je Z Ze Z Z<|aI Zl Z<|ak jk Z<|az.makeB (m:=f.blocks.length) Za type4 Z Z Z Z Z (by simp) (by simp) (by show (1:Int)*_≤_;omega) (by omega)<|fun i9=>bM Z<|z6<|zc<|ah<|ab jm jh Z Z<|ze (oH f hE hn) Z<|ak j9 Z<|aa Z<|z6<|zh<|ya (γ:=Nat) [3,11,12] (fun k=>[(13,.int .i64 k)]) (fun k=>[(i9,.grow 1 4 (cB (m4 (List.replicate f.blocks.length false) ((aD (ao f) f.blocks.length).take k))))]) (fun k=>k≤(aD (ao f) f.blocks.length).length) (fun k=>(aD (ao f) f.blocks.length).length - k) 0 aG aC (qt _) ?_
 rintro k hk
 refine ah<|aw Z Z<|z6<|zc<|zp Z (fun ck=>?_) (fun ck=>?_)
 ·have hk2:k<(aD (ao f) f.blocks.length).length:=by simp at ck;omega
  obtain ⟨b,hb⟩:∃b,(aD (ao f) f.blocks.length)[k]=b:=⟨_,rfl⟩
  have hr:=dq hG.toEOk (hb▸qu hk2)
  refine zd<|zc<|zh<|ah<|za (bD k j9 ja Z Z Z (by rw[qq hk2,hb])) ?_
  refine ax jc Z<|ay Z<|z6<|aM<|bw Z<|aa Z<|za (q0 (j:=b.toNat) Za Z5 Z Z (by omega) ⟨_,.head⟩ (by rw[bd,jP];simp) (by omega))<|az.storeB (j:=b.toNat) Z5 Z Z .head (by rw[jP];simp;omega)<|z6<|aM<|aA Z Z<|aa Z<|z6 ?_
  exact ⟨k+1,dC,aG,⟨_,(.refl _),by rw[qr hk2,zL,hb]⟩,hk2,by omega⟩
 ·have hkn:k=(aD (ao f) f.blocks.length).length:=by simp at ck;omega
  subst hkn
  rw[qv]
  refine y9<|ah<|bw Z<|bM Z<|z6<|yg (aK.knowB (t:=2) Z .head (by rw[jP];simp))<|zg<|zk (x:=.fro _ _) Z ?_
  rfl
theorem wz (f:ad) (hf:small f) (hL:aE E) (ht:aR f=true):aJ prog E 67 [.agg (bL f)] (.fro 1 ((ga (ao f) f.blocks.length).map uN)):=by
 have hn:=hf.2.2.1
 refine zo func67 Z (by decide) Z<|ah<|yb (cs:=_) Z Z Z<|bV Z<|z6<|zc<|ah<|ab jm jh Z Z<|ze (kB f hf hL) Z<|aF Z<|z6<|yj Z (by rw[ht];rfl)<|zd<|ah<|ab jm jh Z Z<|ze (Aj f (bT ht) (by omega)) Z<|za (iw Z)<|z6<|zg<|zk (x:=.fro _ _) Z ?_
 rfl
theorem wA (xs:List Bool) (v:Bool) (hl:xs.length≤281474976710656):aJ prog E 105 [.fro 1 (xs.map uN),.bool v] (.int .i64 (cU (fun x=>decide (v=x)) xs 0)):=by
 refine zo func105 Z (by decide) Z<|ah<|ay Z<|z6<|zc<|ah<|aU Z<|ak Za Z<|aa Z<|z6<|zh<|ya (γ:=Nat) [0,1,7] (fun k=>[(8,.int .i64 k)]) (fun k=>[]) (fun k=>k≤xs.length∧(xs.take k).all (fun x=>!decide (v=x))) (fun k=>xs.length - k) 0 aG aC (⟨qt _,Z⟩) ?_
 rintro k ⟨hk,hall⟩
 refine ah<|aw Z Z<|z6<|zc<|zp Z (fun ck=>?_) (fun ck=>?_)
 ·have hk2:k<xs.length:=by simp at ck;omega
  refine zd<|zc<|zh<|ah<|aa Z<|ay Z<|z6<|ah<|ai Z<|aU Z<|aa Z<|za (bD k Za Z5 Z Z Z (qq hk2))<|za (yo (c:=.bool _) Zm Z)<|za (Gv.eqlB Zv Z Z)<|z6<|zt Z (fun cp=>?_) (fun cp=>?_)
  ·refine ah<|aa Z<|ay Z<|z6<|zg<|zk (x:=.int _ _) Z ?_
   rw[bR _ xs k hk hall,List.drop_eq_getElem_cons hk2,cU,if_pos (by simpa using cp)]
  ·refine zd<|aM<|aA Z Z<|aa Z<|z6 ?_
   exact ⟨k+1,dC,aG,aC,⟨hk2,by rw[qr hk2,List.all_append,hall];simpa using cp⟩,by omega⟩
 ·have hkn:k=xs.length:=by simp at ck;omega
  refine y9<|ah<|ay Z<|z6<|zg<|zk (x:=.int _ _) Z ?_
  rw[bR _ xs k hk hall,hkn,List.drop_length,cU]
theorem rx (xs:List Bool) (v:Bool) (hl:xs.length≤281474976710656):aJ prog E 66 [.fro 1 (xs.map uN),.bool v] (.bool (xs.contains v)):=by
 refine zo func66 Z (by decide) Z<|ah<|ac Z<|z6<|ah<|aU Z<|ai Z<|ze (wA xs v hl) Z<|za (qa Z Z)<|ac Z<|z6<|zg<|zk (x:=.bool _) Z ?_
 rw[fz];congr 1;rw[qz];simp
theorem KG (xs:List Int) (hl:xs.length≤1000):ba prog E 145 [.fro 1 (xs.map fa)] [] (fun x O'=>∃i:Nat,x=.own i xs.length∧O'=[(i,.grow 1 3 (cI xs))]):=by
 refine zo func145 Z (by decide) Z<|ah<|bV Z<|z6<|zc<|ah<|aU Z<|az.isNil j9 Z Z (fun hnil=>?_) ?_
 ·have hx:xs=[]:=by simpa using hnil
  subst hx
  refine z6<|yt Z Z<|ah<|bV Z<|z6<|zg ?_
  repeat (first|refine br ?_|refine aZ ?_)
  refine Db (s:=2) (k:=1) (T:=3) Z (fun i=>?_)
  refine zk (x:=.own _ _) Z ?_
  exact ⟨i,rfl,rfl⟩
 ·refine z6<|yj Z Z<|zd<|ah<|az.buildSlice0 (k:=1) j9 type3<|fun i5=>aU Z<|yn (k:=1) j9 type3 Z Z Z Z Z (fun _=>.head) (by simp) (by decide) (F3 (fun _=>Z) xs) (by show (_+_)*8≤_;simp<;>omega) (by simp<;>omega)<|fun i7=>bM Z<|z6<|zg<|zk (x:=.own _ _) Z ?_
  exact ⟨i7,(by simp),by rw[←uB];rfl⟩
theorem mG (f:ad) {k:Nat} (h:k<f.blocks.length):(da f f.blocks.length)[k]?=some (bv (ao f) f.blocks.length (k:Int)):=by unfold da;rw[qy,List.getElem?_range h];rfl
theorem wC (f:ad) (hE:bF f) (hf:small f):aJ prog E 104 [.agg (bL f)] (.bool (db f)):=by
 have hn:=hf.2.2.1
 refine zo func104 Z (by decide) Z<|ah<|yb (cs:=_) Z Z Z<|ac Z<|z6<|ah<|ab jm jh Z Z<|ze (rh f hE (by omega)) Z<|za (iw Z)<|z6<|zc<|ah<|ae je Z Ze Z Z<|aI Zl Z<|ak jk Z<|aa Z<|z6<|zh<|ya (γ:=Nat) [3,12,13] (fun k=>[(14,.int .i64 k)]) (fun k=>[]) (fun k=>k≤f.blocks.length∧(List.range k).all (E6 f)=true) (fun k=>f.blocks.length - k) 0 aG aC (⟨qt _,Z⟩) ?_
 rintro k ⟨hk,hall⟩
 refine ah<|aw Z Z<|z6<|zc<|zp Z (fun ck=>?_) (fun ck=>?_)
 ·have hk2:k<f.blocks.length:=by simp at ck;omega
  obtain ⟨b,hbk⟩:∃b,f.blocks[k]=b:=⟨_,rfl⟩
  have hget:f.blocks[k]?=some b:=by rw[qq hk2,hbk]
  obtain ⟨hb0,hb1,hb2,hb3,hb4⟩:=hf.2.2.2.2 b (hbk▸qu hk2)
  refine zd<|zc<|zh<|ah<|aa Z<|za (bD k jk jv Z Z Z hget)<|ab Yk jv Z Z<|zy (cs:=[.str ⟨#[]⟩,.raw (.slice none 0 0),.raw (.slice none 0 0),.int .i64 0,.int .i64 0,.int .i64 0,.int .i64 0]) Zn Z Z<|fun i5=>ay Z<|zq jv Z Z Z Z Z Z .head Z<|zf (yd (t:=5) Z .head)<|z6<|ah<|ae jl Z Yh Z Z<|aI Yt Z<|ak Z2 Z<|aa Z<|z6<|zh<|ya (γ:=Nat) [3,4,12,13,14,20,21] (fun j=>[(22,.int .i64 j)]) (fun j=>[]) (fun j=>j≤b.phis.length∧(b.phis.take j).all (HK f k)=true) (fun j=>b.phis.length - j) 0 aG aC (⟨qt _,Z⟩) ?_
  rintro j ⟨hj,hjall⟩
  refine ah<|aw Z Z<|z6<|zc<|zp Z (fun cj=>?_) (fun cj=>?_)
  ·have hj2:j<b.phis.length:=by simp at cj;omega
   have hpf:=(hb3 _ (qu hj2)).2
   refine zd<|zc<|zh<|ah<|za (bD j Z2 jz Z Z Z (qq hj2))<|ab Yl jz Z Z<|zy (cs:=[.int .i64 0,.raw (.slice none 0 0),.raw (.slice none 0 0)]) Zb Z Z<|fun i7=>zq jz Z Z Z Z Z Z .head Z<|zf (yd (t:=7) Z .head)<|z6<|ah<|ae jt Z jg Z Z<|aI jn Z<|zu Z (zn (.rest _)) (KG b.phis[j].from_ hpf) ?_
   rintro r28 O28 ⟨i8,rfl,rfl⟩
   refine bM Z<|z6<|ah<|bw Z<|zu Z (zn (.l (.rest _))) (wl b.phis[j].from_ i8 _ (by omega)) ?_
   rintro r30 O30 ⟨rfl,rfl⟩
   refine z6<|yg (aK.knowI (t:=8) Z .head (by rw[(eL _).length_eq]))<|ah<|aU Z<|aU Z<|aa Z<|za (bD k jf jg Z Z Z (mG f hk2))<|aI jn Z<|ze (we (kK b.phis[j].from_) (bv (ao f) f.blocks.length (k:Int)) (by unfold sv;rw[(eL _).length_eq];omega)) Z<|aF Z<|z6<|zt Z (fun cq=>?_) (fun cq=>?_)
   ·refine ah<|ac Z<|z6<|zg<|zk (x:=.bool _) Z ?_
    rw[show db f=false from dN hk2 (by rw[lG hget];exact Bool.eq_false_iff.2 (dD hj2 (by simpa [HK] using cq)))]
   ·refine zd<|aM<|aA Z Z<|aa Z<|z6 ?_
    exact ⟨j+1,km,aG,aC,⟨hj2,bZ hj2 hjall (by simpa [HK] using cq)⟩,by omega⟩
  ·have hjn:j=b.phis.length:=by simp at cj;omega
   subst hjn
   rw[qv] at hjall
   refine y9<|aM<|aA Z Z<|aa Z<|z6 ?_
   exact ⟨k+1,dC,aG,aC,⟨hk2,cQ hall (by rw[lG hget];exact hjall)⟩,by omega⟩
 ·have hkn:k=f.blocks.length:=by simp at ck;omega
  subst hkn
  refine y9<|ah<|ac Z<|z6<|zg<|zk (x:=.bool _) Z ?_
  rw[show db f=true from hall]
theorem uO (f:ad) (hf:small f) (hL:aE E):aJ prog E 65 [.agg (bL f)] (.int .i64 (if (aR f&&db f)=true then 0 else 3)):=by
 refine zo func65 Z (by decide) Z<|ah<|yb (cs:=_) Z Z Z<|ay Z<|z6<|zc<|ah<|ab jm jh Z Z<|ze (kB f hf hL) Z<|aF Z<|ai Z<|zm (s:=6) Z (fun ct=>?_) (fun ct=>?_)
 ·refine z7 Z Z ct<|z7 Z Z ct<|z7 Z Z ct<|ap Z ct Z<|z6<|yt Z Z<|ah<|ay Z<|z6<|zg<|zk (x:=.int _ _) Z ?_
  rw[show aR f=false by simpa using ct];rfl
 ·have ht:aR f=true:=by simpa using ct
  refine z8 Z Z ct<|ab jm jh Z Z<|z8 Z Z ct<|ze (wC f (bT ht) hf) Z<|z8 Z Z ct<|aF Z<|aq Z ct Z<|z6<|zt Z (fun cj=>?_) (fun cj=>?_)
  ·refine ah<|ay Z<|z6<|zg<|zk (x:=.int _ _) Z ?_
   rw[show db f=false by simpa using cj];simp
  ·refine zd<|ah<|ay Z<|z6<|zg<|zk (x:=.int _ _) Z ?_
   rw[ht,show db f=true by simpa using cj];rfl
end
section
open Go.Proofs.Tryz
section
variable {S:Int→List Int} {at_:Int→Int} {V:List Int} {N:Int→Int}
theorem DK (hV:sr S at_ V) (hN:jG S at_ V N) {K:Nat} (hK:∀a b,a∈V→b∈V→at_ a+at_ b<K) {x y:Int} (hx:N x≠-1) (hy:N y≠-1) (hlt:at_ y<at_ x) :
  x≠0∧N (N x)≠-1∧at_ (N x)<at_ x∧dP N at_ K x y=dP N at_ K (N x) y:=by
 have h1:=(hV.pos x).1 (hN.mem x hx)
 have h2:=(hV.pos y).1 (hN.mem y hy)
 have h3:=hK x y (hN.mem x hx) (hN.mem y hy)
 have hx0:x≠0:=fun e=>by rw[e,hV.zero] at hlt;omega
 obtain ⟨g1,g2,g3⟩:=hN.near x hx0 hx
 refine ⟨hx0,g2,g3,?_⟩
 obtain ⟨k,rfl⟩:∃k,K=k+1:=⟨K - 1,by omega⟩
 have hm:=lz hV hN k (k+1) (N x) y g2 hy (by omega) (by omega)
 rw[hm]
 show (if x=y then x else if at_ y<at_ x then dP N at_ k (N x) y else dP N at_ k x (N y))=_
 rw[if_neg (fun e=>by rw[e] at hlt;omega),if_pos hlt]
theorem Ak (hV:sr S at_ V) (hN:jG S at_ V N) {K:Nat} (hK:∀a b,a∈V→b∈V→at_ a+at_ b<K) {x y:Int} (hx:N x≠-1) (hy:N y≠-1) (hlt:at_ x<at_ y) :
  y≠0∧N (N y)≠-1∧at_ (N y)<at_ y∧dP N at_ K x y=dP N at_ K x (N y):=by
 have h1:=(hV.pos x).1 (hN.mem x hx)
 have h2:=(hV.pos y).1 (hN.mem y hy)
 have h3:=hK x y (hN.mem x hx) (hN.mem y hy)
 have hy0:y≠0:=fun e=>by rw[e,hV.zero] at hlt;omega
 obtain ⟨g1,g2,g3⟩:=hN.near y hy0 hy
 refine ⟨hy0,g2,g3,?_⟩
 obtain ⟨k,rfl⟩:∃k,K=k+1:=⟨K - 1,by omega⟩
 have hm:=lz hV hN k (k+1) x (N y) hx g2 (by omega) (by omega)
 rw[hm]
 show (if x=y then x else if at_ y<at_ x then dP N at_ k (N x) y else dP N at_ k x (N y))=_
 rw[if_neg (fun e=>by rw[e] at hlt;omega),if_neg (by omega)]
theorem DL {K:Nat} (hK:0<K) (x:Int):dP N at_ K x x=x:=by
 obtain ⟨k,rfl⟩:∃k,K=k+1:=⟨K - 1,by omega⟩
 show (if x=x then x else _)=x
 rw[if_pos rfl]
end
def wD (n:Nat) (V:List Int) (k:Nat):List Int:=((V.take k).zipIdx).foldl (fun l p=>l.set p.1.toNat (p.2:Int)) (List.replicate n (-1))
theorem oc {α:Type} {g:List Int→α→List Int} (h:∀l x,(g l x).length=l.length):∀(ws:List α) (l:List Int),(ws.foldl g l).length=l.length
 |[],_=>rfl
 |w::ws,l=>by rw[List.foldl_cons,oc h ws,h]
theorem ry (n:Nat) (V:List Int) (k:Nat):(wD n V k).length=n:=by unfold wD;rw[oc (fun l x=>List.length_set)];simp
theorem DM {n:Nat} {V:List Int} {k:Nat} (h:k<V.length):(wD n V k).set V[k].toNat (k:Int)=wD n V (k+1):=by
 unfold wD;rw[lH h,List.foldl_append];rfl
theorem wE (n:Nat) (V:List Int):wD n V V.length=dU n V:=by unfold wD dU;rw[qv]
section
variable {S:Int→List Int} {at_ V:List Int} {preds:Int→List Int} {n:Nat}
def rz (at_:List Int) (K:Nat) (preds:Int→List Int) (V l:List Int) (q:Nat):List Int:=((V.drop 1).take q).foldl (jN at_ K preds) l
theorem Al {K q:Nat} {l:List Int} (h:q<(V.drop 1).length):rz at_ K preds V l (q+1)=jN at_ K preds (rz at_ K preds V l q) (V.drop 1)[q]:=by
 unfold rz;rw[qr h,List.foldl_append];rfl
theorem DN {K:Nat} {l:List Int}:rz at_ K preds V l (V.drop 1).length=s7 at_ K preds V l:=by
 unfold rz s7;rw[qv,List.drop_one]
theorem DO {K q:Nat} (l:List Int):(rz at_ K preds V l q).length=l.length:=pO K _ _
end
section
variable {E:Int→List Int} {n:Nat}
theorem tM (hE:f8 E n) {b p:Int} (h:p∈bv E n b):0≤p∧p<n:=by
 unfold bv at h
 obtain ⟨i,h1,h2⟩:=List.mem_flatMap.1 h
 obtain ⟨c,_,rfl⟩:=List.mem_map.1 h2
 exact ii.1 h1
def bu (E:Int→List Int) (n:Nat):List Int:=(cW E n).set 0 (-1)
theorem fF (E:Int→List Int) (n:Nat):(bu E n).length=n:=by unfold bu;rw[List.length_set,lB]
theorem gm {b:Int} (h0:0≤b) (hb:b≠0):gi (bu E n) b=gi (cW E n) b:=by
 unfold bu gi
 rw[if_pos h0,if_pos h0,List.getElem?_set_ne (by omega)]
theorem uP (hn:0<n):gi (bu E n) 0=-1:=by
 unfold bu gi
 rw[if_pos (Int.le_refl _)]
 simp[lB,hn]
end
theorem Am (N at_:Int→Int) (K:Nat) (p:Int) (ps:List Int) (m:Int):fW N at_ K (p::ps) m=fW N at_ K ps (if at_ p=-1∨N p=-1 then m else if m=-1 then p else dP N at_ K m p):=rfl
end
section
open Go.Proofs.Tryz
open Go.Proofs
variable {E:World}
set_option maxRecDepth 20000
theorem DP {S:Int→List Int} {V nr al:List Int} {n K i j:Nat} {T T':TypeId} (hV:sr S (gi al) V) (hN:jG S (gi al) V (gi nr)) (hK:∀a b,a∈V→b∈V→gi al a+gi al b<K) (hK0:0<K) (hnl:nr.length=n) (hal:al.length=n) (hlt:∀b∈V,b<n) {a b:Int} (ha:gi nr a≠-1) (hb:gi nr b≠-1) :
  ba prog E 116 [.agg [.own i n,.own j n],.int .i64 a,.int .i64 b] [(j,.grow 1 T' (cI al)),(i,.grow 1 T (cI nr))]
   fun r O=>r=.int .i64 (dP (gi nr) (gi al) K a b)∧O=[(j,.grow 1 T' (cI al)),(i,.grow 1 T (cI nr))]:=by
 have hget:∀x,gi nr x≠-1→0≤x∧x.toNat<n:=fun x hx=>by
  have hm:=hN.mem x hx
  have:=hV.nn x hm
  have:=hlt x hm
  omega
 have hNl:∀x,gi nr x≠-1→nr[x.toNat]?=some (gi nr x):=fun x hx=>f7 (hget x hx).1 (by rw[hnl];exact (hget x hx).2)
 have hAl:∀x,gi nr x≠-1→al[x.toNat]?=some (gi al x):=fun x hx=>f7 (hget x hx).1 (by rw[hal];exact (hget x hx).2)
 have hpos:∀x,gi nr x≠-1→0≤gi al x:=fun x hx=>(hV.pos x).1 (hN.mem x hx)
 refine zo func116 Z (by decide) Z<|ah<|yq (cs:=_) Z Z Z Z<|fun i3=>ay Z<|z6<|zc<|zh<|ya (γ:=Int × Int) [3] (fun g=>[(1,.int .i64 g.1),(2,.int .i64 g.2)]) (fun g=>[(i3,.cells 202 [.own i n,.own j n]),(j,.grow 1 T' (cI al)),(i,.grow 1 T (cI nr))]) (fun g=>gi nr g.1≠-1∧gi nr g.2≠-1∧dP (gi nr) (gi al) K g.1 g.2=dP (gi nr) (gi al) K a b) (fun g=>(gi al g.1+gi al g.2).toNat) (a,b) di aC (⟨ha,hb,Z⟩) ?_
 rintro ⟨x,y⟩ ⟨hx,hy,hm⟩
 try dsimp only at *
 refine zc<|ah<|aa Z<|aa Z<|aH Z Z<|z6<|zt Z (fun cxy=>?_) (fun cxy=>?_)
 ·have hxy:x≠y:=by simpa using cxy
  refine zd<|zh<|zc<|zh<|ya (γ:=Int) [2,3] (fun u=>[(1,.int .i64 u)]) (fun u=>[(i3,.cells 202 [.own i n,.own j n]),(j,.grow 1 T' (cI al)),(i,.grow 1 T (cI nr))]) (fun u=>gi nr u≠-1∧dP (gi nr) (gi al) K u y=dP (gi nr) (gi al) K a b∧(u=x∨gi al u<gi al x)) (fun u=>(gi al u).toNat) x aG aC (⟨hx,hm,.inl Z⟩) ?_
  rintro u ⟨hu,hmu,hux⟩
  refine zc<|zc<|y7 (fun j=>false) (by kernel_rfl) Z (zn (.r (.r (.r (.rest _)))))<|au 0 Z (zr Zs Z jg (by decide) Z Z)<|au 1 Z (zw (c:=.own _ _) jn Z ⟨_,.head⟩ Z)<|au 2 Z (cG Z)<|au 3 Z (q0 (j:=u.toNat) j9 ja Z Z (by have:=hget u hu;omega) ⟨_,.t1⟩ (by first|rfl|(simp[bf,bd];done)|(simp[bf,bd];omega)) (hget u hu).2)<|au 4 Z (qh (j:=u.toNat) jc Z ⟨_,.t1⟩ (hAl u hu))<|au 5 Z (zr Zs Z jg (by decide) Z Z)<|au 6 Z (zw (c:=.own _ _) jn Z ⟨_,.head⟩ Z)<|au 7 Z (cG Z)<|au 8 Z (q0 (j:=y.toNat) j9 ja Z Z (by have:=hget y hy;omega) ⟨_,.t1⟩ (by first|rfl|(simp[bf,bd];done)|(simp[bf,bd];omega)) (hget y hy).2)<|au 9 Z (qh (j:=y.toNat) jc Z ⟨_,.t1⟩ (hAl y hy))<|au 10 Z (Gv.gtr Z Z)<|bY<|zt Z (fun c1=>?_) (fun c1=>?_)
  ·have c1:gi al y<gi al u:=by simpa using c1
   obtain ⟨h1,h2,h3,h4⟩:=DK hV hN hK hu hy c1
   have hp:=hpos u hu
   have hp':=hpos _ h2
   refine zd<|zh<|aM<|za (zr Zs Z jg (by decide) Z Z)<|za (zw (c:=.own _ _) jn Z ⟨_,.head⟩ Z)<|aa Z<|za (q0 (j:=u.toNat) j9 ja Z Z (by have:=hget u hu;omega) ⟨_,.t2⟩ (by first|rfl|(simp[bf,bd];done)|(simp[bf,bd];omega)) (hget u hu).2)<|za (qh (j:=u.toNat) jc Z ⟨_,.t2⟩ (hNl u hu))<|ay Z<|z6 ?_
   exact ⟨gi nr u,di,aG,aC,⟨h2,by rw[←h4];exact hmu,.inr (by rcases hux with rfl|h<;>omega)⟩,by omega⟩
  ·have c1:¬gi al y<gi al u:=by simpa using c1
   refine y9<|zh<|ya (γ:=Int) [1,3] (fun z=>[(2,.int .i64 z)]) (fun z=>[(i3,.cells 202 [.own i n,.own j n]),(j,.grow 1 T' (cI al)),(i,.grow 1 T (cI nr))]) (fun z=>gi nr z≠-1∧dP (gi nr) (gi al) K u z=dP (gi nr) (gi al) K a b∧(z=y∨gi al z<gi al y)) (fun z=>(gi al z).toNat) y aG aC (⟨hy,hmu,.inl Z⟩) ?_
   rintro z ⟨hz,hmz,hzy⟩
   refine zc<|zc<|y7 (fun j=>false) (by kernel_rfl) Z (zn (.r (.r (.r (.rest _)))))<|au 0 Z (zr Zs Z jg (by decide) Z Z)<|au 1 Z (zw (c:=.own _ _) jn Z ⟨_,.head⟩ Z)<|au 2 Z (cG Z)<|au 3 Z (q0 (j:=z.toNat) j9 ja Z Z (by have:=hget z hz;omega) ⟨_,.t1⟩ (by first|rfl|(simp[bf,bd];done)|(simp[bf,bd];omega)) (hget z hz).2)<|au 4 Z (qh (j:=z.toNat) jc Z ⟨_,.t1⟩ (hAl z hz))<|au 5 Z (zr Zs Z jg (by decide) Z Z)<|au 6 Z (zw (c:=.own _ _) jn Z ⟨_,.head⟩ Z)<|au 7 Z (cG Z)<|au 8 Z (q0 (j:=u.toNat) j9 ja Z Z (by have:=hget u hu;omega) ⟨_,.t1⟩ (by first|rfl|(simp[bf,bd];done)|(simp[bf,bd];omega)) (hget u hu).2)<|au 9 Z (qh (j:=u.toNat) jc Z ⟨_,.t1⟩ (hAl u hu))<|au 10 Z (Gv.gtr Z Z)<|bY<|zt Z (fun c2=>?_) (fun c2=>?_)
   ·have c2:gi al u<gi al z:=by simpa using c2
    obtain ⟨h1,h2,h3,h4⟩:=Ak hV hN hK hu hz c2
    have hp:=hpos z hz
    have hp':=hpos _ h2
    refine zd<|zh<|aM<|za (zr Zs Z jg (by decide) Z Z)<|za (zw (c:=.own _ _) jn Z ⟨_,.head⟩ Z)<|aa Z<|za (q0 (j:=z.toNat) j9 ja Z Z (by have:=hget z hz;omega) ⟨_,.t2⟩ (by first|rfl|(simp[bf,bd];done)|(simp[bf,bd];omega)) (hget z hz).2)<|za (qh (j:=z.toNat) jc Z ⟨_,.t2⟩ (hNl z hz))<|ay Z<|z6 ?_
    exact ⟨gi nr z,di,aG,aC,⟨h2,by rw[←h4];exact hmz,.inr (by rcases hzy with rfl|h<;>omega)⟩,by omega⟩
   ·have c2:¬gi al u<gi al z:=by simpa using c2
    have hp1:=hpos x hx
    have hp2:=hpos y hy
    have hp3:=hpos u hu
    have hp4:=hpos z hz
    have hin:gi al x=gi al y→x=y:=fun e=>hV.inj x y (hN.mem x hx) (hN.mem y hy) e
    refine y9 ?_
    exact ⟨(u,z),aG,di,aC,⟨hu,hz,hmz⟩,by dsimp only;rcases hux with rfl|hux<;>rcases hzy with rfl|hzy<;>omega⟩
 ·have hxy:x=y:=by simpa using cxy
  subst hxy
  rw[DL hK0] at hm
  refine y9<|ah<|aa Z<|ay Z<|z6<|yg (qi .head)<|zg<|zk (x:=.int _ _) Z ?_
  exact ⟨by rw[hm],rfl⟩
end
section
open Go.Proofs.Tryz
open Go.Proofs
theorem L5:el prog 202 #[(0,1),(1,1)] [.raw (.slice none 0 0),.raw (.slice none 0 0)]:=⟨_,_,Zs,zeroValue202,fun w=>by kernel_rfl,rfl⟩
variable {E:World}
set_option maxRecDepth 20000
theorem uQ (f:ad) (hE:bF f) (hn:f.blocks.length≤1000):ba prog E 74 [.fro 1 ((aD (ao f) f.blocks.length).map fa),oY eI (da f f.blocks.length),.int .i64 f.blocks.length] []
  fun x O'=>∃i:Nat,x=.own i f.blocks.length∧O'=[(i,.grow 1 3 (cI (bu (ao f) f.blocks.length)))]:=by
 have hG:=hE.grph
 have hk:=hG.gok
 have hpos:=hG.npos
 have hol:=fy hG
 obtain ⟨n,hnn⟩:∃n,f.blocks.length=n:=⟨_,rfl⟩
 obtain ⟨S,hS⟩:∃S,ao f=S:=⟨_,rfl⟩
 have hrow:∀k,k<n→(da f n)[k]?=some (bv S n (k:Int)):=fun k h=>by rw[←hnn,←hS];exact mG f (by omega)
 rw[hnn] at hk hG hpos hol hn ⊢
 rw[hS] at hk hG hol ⊢
 obtain ⟨V,hVe⟩:∃V,aD S n=V:=⟨_,rfl⟩
 have hNG:s9 (dU n V) V (bv S n) n=cW S n:=by rw[←hVe];rfl
 rw[hVe] at hk hol ⊢
 have hVp:=hk.pos
 have hK:=hk.K
 have hdl:(V.drop 1).length+1=V.length:=by simp;omega
 refine zo func74 Z (by decide) Z<|ah<|bV Z<|z6<|ah<|y8 (rows:=[[_]]) cZ Z Z Z Z Z<|aa Z<|zu Z (zn (.rest _)) (aL (-1) n (by omega) hpos) ?_
 rintro r18 O18 ⟨i18,rfl,rfl⟩
 refine y8 (rows:=[[_]]) cZ Z Z Z Z Z<|aa Z<|zu Z (zn (.r (.rest _))) (aL (-1) n (by omega) hpos) ?_
 rintro r21 O21 ⟨i21,rfl,rfl⟩
 refine za (zz (cps:=[(0,[_]),(1,[_])]) (rs:=[_,_]) L5 Z Z Z)<|zy (cs:=[.raw (.slice none 0 0),.raw (.slice none 0 0)]) zeroValue202 Z Z<|fun i7=>zq sizeOf202 Z Z Z Z Z Z .head Z<|z6<|zc<|ah<|aU Z<|ak j9 Z<|aa Z<|z6<|zh<|ya (γ:=Nat) [0,1,7,23,24] (fun k=>[(25,.int .i64 k)]) (fun k=>[(i7,.cells 202 [.own i18 n,.own i21 n]),(i21,.grow 1 3 (cI (wD n V k))),(i18,.grow 1 3 (cI (List.replicate n (-1))))]) (fun k=>k≤V.length) (fun k=>V.length - k) 0 aG aC (qt _) ?_
 rintro k hkl
 refine ah<|aw Z Z<|z6<|zc<|zp Z (fun ck=>?_) (fun ck=>?_)
 ·have hk2:k<V.length:=by simp at ck;omega
  have hb:=hk.lt _ (qu hk2)
  have hb0:=hk.ord.nn _ (qu hk2)
  refine zd<|zc<|zh<|ah<|aa Z<|za (bD k j9 ja Z Z Z (qq hk2))<|ax jc Z<|ay Z<|ay Z<|z6<|aM<|za (zr Zs Z jg (by decide) Z Z)<|za (zw (c:=.own _ _) jn Z ⟨_,.head⟩ Z)<|aa Z<|aa Z<|za (q0 (j:=V[k].toNat) j9 ja Z Z (by omega) ⟨_,.t1⟩ (by rw[bf,ry]) (by omega))<|az.storeI (j:=V[k].toNat) ja Z Z .t1 (by rw[ry];omega)<|z6<|aM<|aA Z Z<|aa Z<|z6 ?_
  exact ⟨k+1,iT,aG,⟨_,(.refl _),by rw[DM hk2]⟩,hk2,by omega⟩
 ·have hkn:k=V.length:=by simp at ck;omega
  subst hkn
  rw[wE]
  have hatl:(dU n V).length=n:=by rw[←wE];exact ry n V _
  have hatg:∀x:Int,0≤x→x<n→(dU n V)[x.toNat]?=some (gi (dU n V) x):=fun x h1 h2=>f7 h1 (by omega)
  refine y9<|ah<|za (zr Zs Z jg (by decide) Z Z)<|za (zw (c:=.own _ _) jn Z ⟨_,.head⟩ Z)<|za (q0 (j:=0) j9 ja Z Z Z ⟨_,.t2⟩ (by first|rfl|(simp[bf,bd];done)|(simp[bf,bd];omega)) (by omega))<|az.storeI (j:=0) ja Z Z .t2 (by first|omega|(simp;omega))<|z6<|zc<|ah<|ac Z<|z6<|zh<|ya (γ:=Nat × Bool × List Int) [0,1,7] (fun g=>[(10,.bool g.2.1)]) (fun g=>[(i7,.cells 202 [.own i18 n,.own i21 n]),(i21,.grow 1 3 (cI (dU n V))),(i18,.grow 1 3 (cI g.2.2))]) (fun g=>mQ S (gi (dU n V)) V (gi g.2.2) g.1 1∧g.2.2.length=n∧(g.2.1=true→g.1≤V.length)∧(g.2.1=false→g.2.2=cW S n)) (fun g=>(if g.2.1=true then V.length+1 - g.1 else 0)) (0,true,fp n) aG aC (⟨hk.begin,mj n,fun _=>qt _,fun h=>by cases h⟩) ?_
  rintro ⟨j,again,l⟩ ⟨hR,hl,hj,hfin⟩
  try dsimp only at *
  refine zc<|ah<|ai Z<|z6<|zt Z (fun ca=>?_) (fun ca=>?_)
  ·have ca:again=true:=by simpa using ca
   subst ca
   have hj:=hj rfl
   refine zd<|zh<|ah<|ac Z<|z6<|ah<|aU Z<|za (Gv.cutLoM (j:=1) j9 ja Z Z Z (by omega))<|ak j9 Z<|aa Z<|z6<|zh<|ya (γ:=Nat × Bool × List Int) [0,1,7,41,42] (fun g=>[(43,.int .i64 g.1),(10,.bool g.2.1)]) (fun g=>[(i7,.cells 202 [.own i18 n,.own i21 n]),(i21,.grow 1 3 (cI (dU n V))),(i18,.grow 1 3 (cI g.2.2))]) (fun g=>g.1≤(V.drop 1).length∧g.2.2=rz (dU n V) (2*V.length) (bv S n) V l g.1∧mQ S (gi (dU n V)) V (gi g.2.2) j ((g.1+1:Nat):Int)∧(g.2.1=true→j<V.length)∧(g.2.1=false→g.2.2=l)) (fun g=>(V.drop 1).length - g.1) (0,false,l) di aC (⟨qt _,Z,hR,fun h=>(by cases h),fun _=>Z⟩) ?_
   rintro ⟨q,ag,l'⟩ ⟨hq,hl',hR',hag,hsame⟩
   try dsimp only at *
   have hl'n:l'.length=n:=by rw[hl',DO,hl]
   refine ah<|aw Z Z<|z6<|zc<|zp Z (fun cq=>?_) (fun cq=>?_)
   ·have hq2:q<(V.drop 1).length:=by simpa using cq
    obtain ⟨b,hb⟩:∃b,(V.drop 1)[q]=b:=⟨_,rfl⟩
    have hbV:V[q+1]?=some b:=by rw[←hb,List.getElem_drop,Nat.add_comm];exact qq (by simp at hq2;omega)
    obtain ⟨hs1,hs2,hs3,hbm,hb0⟩:=hk.step hl'n (Nat.succ_pos q) hbV hR'
    have hblt:=hk.lt b hbm
    have hbnn:=hk.ord.nn b hbm
    have hpr:∀p∈bv S n b,0≤p∧p<n:=fun p hp=>tM hG hp
    have hsucc:=Al (at_:=dU n V) (K:=2*V.length) (preds:=bv S n) (l:=l) hq2
    rw[hb,←hl'] at hsucc
    have hgl:∀x:Int,0≤x→x<n→l'[x.toNat]?=some (gi l' x):=fun x h1 h2=>f7 h1 (by omega)
    have hrb:(da f n)[b.toNat]?=some (bv S n b):=by
     have:=hrow b.toNat (by omega)
     rwa [show ((b.toNat:Nat):Int)=b by omega] at this
    obtain ⟨ps,hps⟩:∃ps,bv S n b=ps:=⟨_,rfl⟩
    have hpsl:ps.length≤2*n:=by rw[←hps,←hS];exact iD f b n
    rw[hps] at hpr hrb
    refine zd<|zc<|zh<|ah<|za (bD q j9 ja Z Z Z (by rw[qq hq2,hb])) ?_
    refine ax jc Z<|ay Z<|z6<|ah<|ay Z<|z6<|zc<|ah<|aU Z<|aa Z<|za (bD b.toNat jf jg Z Z (by omega) hrb)<|aI jn Z<|ak j9 Z<|aa Z<|z6<|zh<|ya (γ:=Nat × Int) [0,1,7,10,12,41,42,43,50,51] (fun g=>[(52,.int .i64 g.1),(13,.int .i64 g.2)]) (fun g=>[(i7,.cells 202 [.own i18 n,.own i21 n]),(i21,.grow 1 3 (cI (dU n V))),(i18,.grow 1 3 (cI l'))]) (fun g=>g.1≤ps.length∧fW (gi l') (gi (dU n V)) (2*V.length) (ps.drop g.1) g.2=fW (gi l') (gi (dU n V)) (2*V.length) ps (-1)∧(g.2=-1∨gi l' g.2≠-1)) (fun g=>ps.length - g.1) (0,-1) di aC (⟨qt _,Z,.inl Z⟩) ?_
    rintro ⟨m,best⟩ ⟨hm,hbst,hbn⟩
    try dsimp only at *
    refine ah<|aw Z Z<|z6<|zc<|zp Z (fun cm=>?_) (fun cm=>?_)
    ·have hm2:m<ps.length:=by simp at cm;omega
     obtain ⟨p,hp⟩:∃p,ps[m]=p:=⟨_,rfl⟩
     obtain ⟨hp0,hpn⟩:=hpr p (hp▸qu hm2)
     have hbst:fW (gi l') (gi (dU n V)) (2*V.length) (ps.drop (m+1)) (if gi (dU n V) p=-1∨gi l' p=-1 then best else if best=-1 then p else dP (gi l') (gi (dU n V)) (2*V.length) best p)=fW (gi l') (gi (dU n V)) (2*V.length) ps (-1):=by
      rw[←hbst,List.drop_eq_getElem_cons hm2,Am,hp]
     refine zd<|zc<|zh<|ah<|za (bD m j9 ja Z Z Z (by rw[qq hm2,hp])) ?_
     refine ax jc Z<|ay Z<|z6<|zh<|ah<|za (zr Zs Z jg (by decide) Z Z)<|za (zw (c:=.own _ _) jn Z ⟨_,.head⟩ Z)<|aa Z<|za (q0 (j:=p.toNat) j9 ja Z Z (by omega) ⟨_,.t1⟩ (by first|rfl|(simp[bf,bd];done)|(simp[bf,bd];omega)) (by omega))<|za (qh (j:=p.toNat) jc Z ⟨_,.t1⟩ (hatg p hp0 hpn))<|aj Z Z<|ai Z<|zm (s:=67) Z (fun c1=>?_) (fun c1=>?_)
     ·have d1:gi (dU n V) p=-1:=by simpa using c1
      rw[if_pos (.inl d1)] at hbst
      refine z7 Z Z c1<|z7 Z Z c1<|z7 Z Z c1<|z7 Z Z c1<|z7 Z Z c1<|z7 Z Z c1<|ap Z c1 Z<|ac Z<|z6<|yt Z Z<|zd<|aM<|aA Z Z<|aa Z<|z6 ?_
      exact ⟨(m+1,best),iy,di,aC,⟨hm2,hbst,hbn⟩,by dsimp only;omega⟩
     ·have d1:¬gi (dU n V) p=-1:=by simpa using c1
      refine z8 Z Z c1<|za (zr Zs Z jg (by decide) Z Z)<|z8 Z Z c1<|za (zw (c:=.own _ _) jn Z ⟨_,.head⟩ Z)<|z8 Z Z c1<|aa Z<|z8 Z Z c1<|za (q0 (j:=p.toNat) j9 ja Z Z (by omega) ⟨_,.t2⟩ (by first|rfl|(simp[bf,bd];done)|(simp[bf,bd];omega)) (by omega))<|z8 Z Z c1<|za (qh (j:=p.toNat) jc Z ⟨_,.t2⟩ (hgl p hp0 hpn))<|z8 Z Z c1<|aj Z Z<|aq Z c1 Z<|ac Z<|z6<|zt Z (fun c2=>?_) (fun c2=>?_)
      ·have d2:gi l' p=-1:=by simpa using c2
       rw[if_pos (.inr d2)] at hbst
       refine zd<|aM<|aA Z Z<|aa Z<|z6 ?_
       exact ⟨(m+1,best),iy,di,aC,⟨hm2,hbst,hbn⟩,by dsimp only;omega⟩
      ·have d2:¬gi l' p=-1:=by simpa using c2
       rw[if_neg (by rintro (h|h);exact d1 h;exact d2 h)] at hbst
       refine ah<|aa Z<|aj Z Z<|ac Z<|z6<|zt Z (fun c3=>?_) (fun c3=>?_)
       ·have c3:best=-1:=by simpa using c3
        rw[if_pos c3] at hbst
        refine aM<|aa Z<|ay Z<|z6<|aM<|aA Z Z<|aa Z<|z6 ?_
        exact ⟨(m+1,p),iy,di,aC,⟨hm2,hbst,.inr d2⟩,by dsimp only;omega⟩
       ·have c3:¬best=-1:=by simpa using c3
        rw[if_neg c3] at hbst
        have hbb:gi l' best≠-1:=by rcases hbn with h|h;exact absurd h c3;exact h
        refine aM<|za (q8 isAgg202 sizeOf202 Z ⟨_,.head⟩ Z)<|aa Z<|aa Z<|zu Z (zn (.r (.l (.l (.rest _))))) (DP hk.ord hR'.inv hK (by omega) hl'n hatl hk.lt hbb d2) ?_
        rintro r59 O59 ⟨rfl,rfl⟩
        refine ay Z<|z6<|yg (zi (zj .t2))<|aM<|aA Z Z<|aa Z<|z6 ?_
        exact ⟨(m+1,dP (gi l') (gi (dU n V)) (2*V.length) best p),iy,di,aC,⟨hm2,hbst,.inr (mP hk.ord hR'.inv _ best p hbb d2 (hK best p (hR'.inv.mem _ hbb) (hR'.inv.mem _ d2))).1⟩,by dsimp only;omega⟩
    ·have hmn:m=ps.length:=by simp at cm;omega
     subst hmn
     rw[List.drop_length] at hbst
     have hbst:best=fW (gi l') (gi (dU n V)) (2*V.length) ps (-1):=hbst
     have hst:jN (dU n V) (2*V.length) (bv S n) l' b=l'.set b.toNat best:=by unfold jN;rw[hps,←hbst]
     rw[hst] at hs1 hs2 hsucc
     refine y9<|ah<|za (zr Zs Z jg (by decide) Z Z)<|za (zw (c:=.own _ _) jn Z ⟨_,.head⟩ Z)<|aa Z<|za (q0 (j:=b.toNat) j9 ja Z Z (by omega) ⟨_,.t2⟩ (by first|rfl|(simp[bf,bd];done)|(simp[bf,bd];omega)) (by omega))<|za (qh (j:=b.toNat) jc Z ⟨_,.t2⟩ (hgl b hbnn hblt))<|aa Z<|aH Z Z<|z6<|zt Z (fun ce=>?_) (fun ce=>?_)
     ·have ce:¬gi l' b=best:=by simpa using ce
      have hjl:j<V.length:=Classical.byContradiction fun h=>ce (by
       have h2:=hs2 (by omega)
       have h3:=um (l:=l') hbnn (by omega) best
       rw[h2] at h3
       have h4:=congrFun h3 b
       simpa [jH] using h4)
      refine aM<|za (zr Zs Z jg (by decide) Z Z)<|za (zw (c:=.own _ _) jn Z ⟨_,.head⟩ Z)<|aa Z<|aa Z<|za (q0 (j:=b.toNat) j9 ja Z Z (by omega) ⟨_,.t2⟩ (by first|rfl|(simp[bf,bd];done)|(simp[bf,bd];omega)) (by omega))<|az.storeI (j:=b.toNat) ja Z Z .t2 (by first|omega|(simp;omega))<|ac Z<|z6<|aM<|aA Z Z<|aa Z<|z6 ?_
      exact ⟨(q+1,true,l'.set b.toNat best),iT,di,aC,⟨hq2,hsucc.symm,hs1,fun _=>hjl,fun h=>by cases h⟩,by dsimp only;omega⟩
     ·have ce:gi l' b=best:=by simpa using ce
      rw[←ce,vz hbnn] at hs1 hsucc
      refine zd<|aM<|aA Z Z<|aa Z<|z6 ?_
      exact ⟨(q+1,ag,l'),iT,di,aC,⟨hq2,hsucc.symm,hs1,hag,hsame⟩,by dsimp only;omega⟩
   ·have hqn:q=(V.drop 1).length:=by have h0:¬(q:Int)<((V.drop 1).length:Int):=(by simpa using cq);omega
    subst hqn
    rw[DN] at hl'
    have hR2:mQ S (gi (dU n V)) V (gi l') (j+1) 1:=by rw[hl'];exact hk.pass hl hR
    refine y9 ?_
    exact ⟨(j+1,ag,l'),dC,aG,aC,⟨hR2,hl'n,fun h=>by have:=hag h;omega,fun h=>by have e:=hsame h;rw[e] at hl';have:=hk.near_eq hl (hk.fixed hl hR hl'.symm);rw[e,this,hNG]⟩,by dsimp only;rw[if_pos rfl];split<;>omega⟩
  ·have ca:again=false:=by simpa using ca
   have hfin:=hfin ca
   subst hfin
   refine y9<|ah<|za (zr Zs Z jg (by decide) Z Z)<|za (zw (c:=.own _ _) jn Z ⟨_,.head⟩ Z)<|za (q0 (j:=0) j9 ja Z Z Z ⟨_,.t2⟩ (by rw[bf,lB]) (by omega))<|az.storeI (j:=0) ja Z Z .t2 (by rw[lB];omega)<|z6<|ah<|za (zr Zs Z jg (by decide) Z Z)<|za (zw (c:=.own _ _) jn Z ⟨_,.head⟩ Z)<|bM Z<|z6<|yg (qi .head)<|yg (qi .head)<|zg<|zk (x:=.own _ _) Z ?_
   exact ⟨i18,rfl,rfl⟩
end
section
open Go.Proofs.Tryz
section
variable {E:World} {P:Program} {env:aS} {O O' O'':OL}
theorem aK.knowIC {j off i m:Nat} {T T':TypeId} {cs:List AV} {l:List Int} (hO:dw O i (.grow 1 T (cI l)) O') (hP:gr O' j (.cells T' cs) (.cells T' (cs.set off (.fro 1 (l.map fun x=>[.int .i64 x])))) O'') (hc:cs[off]?=some (.own i m)) (hm:l.length=m):aK E env O env O'':=
 aK.knowC (rows:=l.map fun x=>[.int .i64 x]) (by rw[uB];exact hO) hP hc (fun r hr=>by obtain ⟨_,_,rfl⟩:=List.mem_map.1 hr;rfl) (by decide) (by rw[qx];exact hm)
theorem aK.nestBackN {α:Type} {c:fj α} {b j m i n:Nat} {T e:TypeId} {rows:List (List α)} {r:List α} (hn:r.length=n) (hP:dw O i (.grow c.k e (c.av r)) O') (hO:gr O' m (Br c T e b rows j n i) (cJ c T e b (rows.set j r)) O''):aK E env O env O'':=by subst hn;exact aK.nestBack hP hO
theorem ba.weak {f:FuncId} {args:List AV} {R:AV→OL→Prop} {y:AV} (h:ba P E f args [] R) (hr:∀x O,R x O→O=[]∧∀I v,bI I x v→bI I y v):aJ P E f args y:=fun I F w vs h1 h2=>
 (h I F w vs h1 h2).mono fun v w' ⟨J,x,O',a,b,c,d⟩=>by
  obtain ⟨e,hv⟩:=hr x O' d
  subst e
  exact ⟨J,y,[],a,hv _ _ b,c,rfl⟩
theorem pa {tp te:TypeId} {j:TypeInfo} (a:Addr) (hp:P.underlying tp=some (.pointer te)) (hte:P.info? te=some j) (w:World) :
  (binOp .neq tp (.pointer (some a)) (.pointer none)).run P w=.ok (.bool true) w:=by
 have h:∀d:Nat,(Op.equalIn (d+1) tp (.pointer (some a)) (.pointer none)).run P w=.ok false w:=fun d=>by
  simp[Op.equalIn,run_underlying hp,sizeOf,typeInfo,hte]
 simp only[binOp]
 simp[Op.equal,Op.maxDepth,h 9999]
variable {d ty:Nat} {pos:String} {af:Array Edge} {x y z:Operand} {t u e T:TypeId}
theorem Gv.neqPf {cs:List AV} {j:TypeInfo} (hp:P.underlying t=some (.pointer e)) (hte:P.info? e=some j) (hx:bb env x=.pf cs):Gv P env O (Oper.mk (some d) (.binOp .neq t x (.const (.pointer none)) u) ty pos af none) (.bool true):=qm fun I ρ h=>by
 have h1:=h.ev x
 rw[hx] at h1
 obtain ⟨b,off,vs,e1,_⟩:=h1
 exact ⟨_,rfl,fun w=>by
  have e2:Go.Proofs.YtbanfokidalbaaaGreatDoor.ev ρ (.const (.pointer none))=.pointer none:=rfl
  simp only[execOp,e1,e2];simp[eqGuard,pa _ hp hte]⟩
end
end
section
open Go.Proofs.Tryz
open Go.Proofs
variable {E:World}
set_option maxRecDepth 20000
theorem wF (xs:List Int) (v:Int) (i:Nat) (T:TypeId) (hl:xs.length≤281474976710656):ba prog E 155 [.own i xs.length,.int .i64 v] [(i,.grow 1 T (cI xs))] fun r O=>r=.int .i64 (cU (fun x=>decide (v=x)) xs 0)∧O=[(i,.grow 1 T (cI xs))]:=by
 refine zo func155 Z (by decide) Z<|ah<|ay Z<|z6<|zc<|ah<|bw Z<|za (Gv.lenO j9 Z)<|aa Z<|z6<|zh<|ya (γ:=Nat) [0,1,7] (fun k=>[(8,.int .i64 k)]) (fun k=>[(i,.grow 1 T (cI xs))]) (fun k=>k≤xs.length∧(xs.take k).all (fun x=>!decide (v=x))) (fun k=>xs.length - k) 0 aG aC (⟨qt _,Z⟩) ?_
 rintro k ⟨hk,hall⟩
 refine ah<|aw Z Z<|z6<|zc<|zp Z (fun ck=>?_) (fun ck=>?_)
 ·have hk2:k<xs.length:=by simp at ck;omega
  refine zd<|zc<|zh<|ah<|aa Z<|ay Z<|z6<|ah<|aa Z<|bw Z<|aa Z<|za (q0 (j:=k) j9 ja Z Z Z ⟨_,.head⟩ (by first|rfl|(simp[bf,bd];done)|(simp[bf,bd];omega)) hk2)<|za (qh (j:=k) jc Z ⟨_,.head⟩ (qq hk2))<|aj Z Z<|z6<|zt Z (fun cp=>?_) (fun cp=>?_)
  ·refine ah<|aa Z<|ay Z<|z6<|zg<|zk (x:=.int _ _) Z ?_
   exact ⟨by rw[bR _ xs k hk hall,List.drop_eq_getElem_cons hk2,cU,if_pos (by simpa using cp)],rfl⟩
  ·refine zd<|aM<|aA Z Z<|aa Z<|z6 ?_
   exact ⟨k+1,dC,aG,aC,⟨hk2,by rw[qr hk2,List.all_append,hall];simpa using cp⟩,by omega⟩
 ·have hkn:k=xs.length:=by simp at ck;omega
  refine y9<|ah<|ay Z<|z6<|zg<|zk (x:=.int _ _) Z ?_
  exact ⟨by rw[bR _ xs k hk hall,hkn,List.drop_length,cU],rfl⟩
theorem rA (xs:List Int) (v:Int) (i:Nat) (T:TypeId) (hl:xs.length≤281474976710656):ba prog E 118 [.own i xs.length,.int .i64 v] [(i,.grow 1 T (cI xs))] fun r O=>r=.bool (xs.contains v)∧O=[(i,.grow 1 T (cI xs))]:=by
 refine zo func118 Z (by decide) Z<|ah<|ac Z<|z6<|ah<|bw Z<|aa Z<|zu Z (zn (.l (.rest _))) (wF xs v i T hl) ?_
 rintro r7 O7 ⟨rfl,rfl⟩
 refine za (qa Z Z)<|ac Z<|z6<|zg<|zk (x:=.bool _) Z ?_
 exact ⟨by rw[fz];congr 1;rw[qz];simp,rfl⟩
theorem rB (xs:List Int) (v:Int) (i:Nat) (T:TypeId) (hl:xs.length≤281474976710656):ba prog E 118 [.own i xs.length,.int .i64 v] [(i,.grow eI.k T (eI.av xs))] fun r O=>r=.bool (xs.contains v)∧O=[(i,.grow eI.k T (eI.av xs))]:=by rw[Ft];exact rA xs v i T hl
theorem DQ (l:List Int) (i:Nat) (T:TypeId) (hl:l.length≤200000):ba prog E 119 [.own i l.length] [(i,.grow eI.k T (eI.av l))] fun r O=>r=.tup []∧O=[(i,.grow eI.k T (eI.av (kK l)))]:=by rw[Ft,Ft];exact wl l i T hl
def vx (n:Nat) (rows:List (List Int)):Prop:=rows.length=n∧∀r∈rows,r.Nodup∧∀x∈r,0≤x∧x<n
theorem vx.len {n:Nat} {rows:List (List Int)} (h:vx n rows) {r:List Int} (hr:r∈rows):r.length≤n:=by
 have:=lD r (d5 n) (h.2 r hr).1 fun x hx=>ii.2 ((h.2 r hr).2 x hx)
 rwa [fq] at this
theorem vx.push {n:Nat} {rows:List (List Int)} (h:vx n rows) {j:Nat} (hj:j<rows.length) {b:Int} (h0:0≤b) (hb:b<n) (hn:b ∉ rows[j]):vx n (rows.set j (rows[j]++[b])):=by
 refine ⟨by rw[List.length_set];exact h.1,fun r hr=>?_⟩
 rcases List.mem_or_eq_of_mem_set hr with hr|rfl
 ·exact h.2 r hr
 ·obtain ⟨g1,g2⟩:=h.2 _ (qu hj)
  refine ⟨List.nodup_append.2 ⟨g1,by simp,fun x hx y hy e=>?_⟩,fun x hx=>?_⟩
  ·simp at hy;subst hy;subst e;exact hn hx
  ·rcases List.mem_append.1 hx with hx|hx
   ·exact g2 x hx
   ·simp at hx;subst hx;exact ⟨h0,hb⟩
theorem vx.sort {n:Nat} {rows:List (List Int)} (h:vx n rows) {j:Nat} (hj:j<rows.length):vx n (rows.set j (kK rows[j])):=by
 refine ⟨by rw[List.length_set];exact h.1,fun r hr=>?_⟩
 rcases List.mem_or_eq_of_mem_set hr with hr|rfl
 ·exact h.2 r hr
 ·obtain ⟨g1,g2⟩:=h.2 _ (qu hj)
  exact ⟨(eL _).nodup_iff.2 g1,fun x hx=>g2 x ((eL _).mem_iff.1 hx)⟩
theorem vx.begin (n:Nat):vx n (List.replicate n []):=⟨by simp,fun r hr=>by rw[List.eq_of_mem_replicate hr];exact ⟨by simp,fun x hx=>by cases hx⟩⟩
section
variable {S:Int→List Int} {n:Nat} (hG:f8 S n)
include hG
theorem wG {c p:Int} (hc:c∈aD S n) (hp:p∈aD S n) (he:c∈S p):c=0∨gY (gi (cW S n)) p (gi (cW S n) c):=by
 by_cases h0:c=0
 ·exact .inl h0
 ·right
  have hX:=hG.exact
  have hO:=hG.gok.ord
  have hb:=hX.has c hc
  obtain ⟨g1,g2,g3⟩:=hX.inv.near c h0 hb
  have hd:sx S (gi (cW S n) c) c:=(hX.anc c _ hc).1 (.up h0 hb (.refl _))
  exact (hX.anc p _ hp).2 (hd.pred ((hO.mem p).1 hp) he (fun e=>by rw[e] at g3;omega))
theorem Ao {c y:Int} (hc:c∈aD S n) (hy:(y∈aD S n∧(c=0∨gY (gi (cW S n)) y (gi (cW S n) c)))∨(c=0∧y=-1)) (hne:y≠gi (bu S n) c) :
  y∈aD S n∧((gi (bu S n) y∈aD S n∧(c=0∨gY (gi (cW S n)) (gi (bu S n) y) (gi (cW S n) c)))∨(c=0∧gi (bu S n) y=-1))∧0<(gi (b5 S n) y+1).toNat∧(gi (b5 S n) (gi (bu S n) y)+1).toNat<(gi (b5 S n) y+1).toNat:=by
 have hO:=hG.gok.ord
 have hpos:=hG.npos
 have hyV:y∈aD S n:=by
  rcases hy with h|⟨h1,h2⟩
  ·exact h.1
  ·exact absurd (by rw[h2,h1,uP hpos]) hne
 have hl:=hG.lev_nn hyV
 have hy0:=hO.nn y hyV
 refine ⟨hyV,?_⟩
 by_cases h0:y=0
 ·subst h0
  rw[uP hpos]
  have hc0:c=0:=by
   rcases hy with ⟨_,h|h⟩|h
   ·exact h
   ·rcases h.cases' with e|⟨e,_⟩
    ·by_cases hc0:c=0
     ·exact hc0
     ·have:=hO.nn c hc
      exact absurd (by rw[gm this hc0,←e]) hne
    ·exact absurd rfl e
   ·exact h.1
  have hm:gi (b5 S n) (-1)=-1:=zE (.inl (by omega))
  exact ⟨.inr ⟨hc0,rfl⟩,by omega,by rw[hm];omega⟩
 ·rw[gm hy0 h0]
  obtain ⟨g1,g2⟩:=hG.near_mem hyV h0
  have g3:=hG.lev_near hyV h0
  have g4:=hG.lev_nn g1
  refine ⟨.inl ⟨g1,?_⟩,by omega,by omega⟩
  rcases hy with ⟨_,h|h⟩|h
  ·exact .inl h
  ·rcases h.cases' with e|⟨_,_,h3⟩
   ·by_cases hc0:c=0
    ·exact .inl hc0
    ·have:=hO.nn c hc
     exact absurd (by rw[gm this hc0,e]) hne
   ·exact .inr h3
  ·exact .inl h.1
end
theorem wH (f:ad) (hE:bF f) (hn:f.blocks.length≤1000) (t a b fb:Nat) (T:TypeId) (x:AV) (rows:List (List Int)) (hF:vx f.blocks.length rows) :
  ba prog E 76 [.po t 0,.fro 1 ((aD (ao f) f.blocks.length).map fa),oY eI (da f f.blocks.length)]
   [(0,cJ eI 23 3 fb rows),(t,.cells 159 [.own a f.blocks.length,.own b f.blocks.length,x,dn fb f.blocks.length]),(b,.grow 1 3 (cI (b5 (ao f) f.blocks.length))),(a,.grow 1 3 (cI (bu (ao f) f.blocks.length)))]
   fun r O=>r=.tup []∧∃rows',vx f.blocks.length rows'∧O=[(0,cJ eI 23 3 fb rows'),(t,.cells 159 [.own a f.blocks.length,.own b f.blocks.length,x,dn fb f.blocks.length]),(b,.grow 1 3 (cI (b5 (ao f) f.blocks.length))),(a,.grow 1 3 (cI (bu (ao f) f.blocks.length)))]:=by
 have hG:=hE.grph
 have hpos:=hG.npos
 have hol:=fy hG
 have hrowP:∀k,k<f.blocks.length→(da f f.blocks.length)[k]?=some (bv (ao f) f.blocks.length (k:Int)):=fun k h=>mG f h
 have hpl:∀b,(bv (ao f) f.blocks.length b).length≤2*f.blocks.length:=fun b=>iD f b _
 obtain ⟨n,hnn⟩:∃n,f.blocks.length=n:=⟨_,rfl⟩
 obtain ⟨S,hS⟩:∃S,ao f=S:=⟨_,rfl⟩
 rw[hnn] at hG hpos hol hn hrowP hpl hF ⊢
 rw[hS] at hG hol hrowP hpl ⊢
 obtain ⟨V,hVe⟩:∃V,aD S n=V:=⟨_,rfl⟩
 have hVr:∀y∈V,0≤y∧y<n:=fun y hy=>dq hG.toEOk (hVe▸hy)
 have hX:=hG.exact
 have hO:=hG.gok.ord
 have hlev:=hG.lev
 rw[hVe] at hX hO hol ⊢
 have hLl:(b5 S n).length=n:=hlev.len
 have hRl:(bu S n).length=n:=fF S n
 have hLg:∀y:Int,0≤y→y<n→(b5 S n)[y.toNat]?=some (gi (b5 S n) y):=fun y h1 h2=>f7 h1 (by omega)
 have hNg:∀y:Int,0≤y→y<n→(bu S n)[y.toNat]?=some (gi (bu S n) y):=fun y h1 h2=>f7 h1 (by rw[fF];omega)
 refine zo func76 Z (by decide) Z<|zc<|ah<|aU Z<|ak j9 Z<|aa Z<|z6<|zh<|ya (γ:=Nat × List (List Int)) [0,2,12,13] (fun g=>[(14,.int .i64 g.1)]) (fun g=>[(0,cJ eI 23 3 fb g.2),(t,.cells 159 [.own a n,.own b n,x,dn fb n]),(b,.grow 1 3 (cI (b5 S n))),(a,.grow 1 3 (cI (bu S n)))]) (fun g=>g.1≤V.length∧vx n g.2) (fun g=>V.length - g.1) (0,rows) aG aC (⟨qt _,hF⟩) ?_
 rintro ⟨k,rows⟩ ⟨hk,hF⟩
 try dsimp only at *
 refine ah<|aw Z Z<|z6<|zc<|zp Z (fun ck=>?_) (fun ck=>?_)
 ·have hk2:k<V.length:=by simp at ck;omega
  obtain ⟨c,hc⟩:∃c,V[k]=c:=⟨_,rfl⟩
  have hcV:c∈V:=hc▸qu hk2
  obtain ⟨hc0,hcn⟩:=hVr c hcV
  have hrow:(da f n)[c.toNat]?=some (bv S n c):=by
   have:=hrowP c.toNat (by omega)
   rwa [show ((c.toNat:Nat):Int)=c by omega] at this
  have hpc:=hpl c
  have hpr:∀p∈bv S n c,0≤p∧p<n:=fun p hp=>tM hG hp
  have hpS:∀p∈bv S n c,c∈S p:=fun p hp=>(hG.gok.preds c (by rw[hVe];exact hcV) p).1 hp
  obtain ⟨ps,hps⟩:∃ps,bv S n c=ps:=⟨_,rfl⟩
  rw[hps] at hrow hpc hpr hpS
  refine zd<|zc<|zh<|ah<|za (bD k j9 ja Z Z Z (by rw[qq hk2,hc])) ?_
  refine ax jc Z<|ay Z<|z6<|ah<|aU Z<|aa Z<|za (bD c.toNat jf jg Z Z (by omega) hrow)<|aI jn Z<|ak j9 Z<|aa Z<|z6<|zh<|ya (γ:=Nat × List (List Int)) [0,2,7,12,13,14,21,22] (fun g=>[(23,.int .i64 g.1)]) (fun g=>[(0,cJ eI 23 3 fb g.2),(t,.cells 159 [.own a n,.own b n,x,dn fb n]),(b,.grow 1 3 (cI (b5 S n))),(a,.grow 1 3 (cI (bu S n)))]) (fun g=>g.1≤ps.length∧vx n g.2) (fun g=>ps.length - g.1) (0,rows) aG aC (⟨qt _,hF⟩) ?_
  rintro ⟨j,rows⟩ ⟨hj,hF⟩
  try dsimp only at *
  refine ah<|aw Z Z<|z6<|zc<|zp Z (fun cj=>?_) (fun cj=>?_)
  ·have hj2:j<ps.length:=by simp at cj;omega
   obtain ⟨p,hp⟩:∃p,ps[j]=p:=⟨_,rfl⟩
   obtain ⟨hp0,hpn⟩:=hpr p (hp▸qu hj2)
   have hpc2:=hpS p (hp▸qu hj2)
   refine zd<|zc<|zh<|ah<|za (bD j j9 ja Z Z Z (by rw[qq hj2,hp])) ?_
   refine ax jc Z<|ay Z<|z6<|zc<|ah<|aY Z<|za (yc Z)<|za (zr Zc Z jg (by decide) Z Z)<|za (zw (c:=.own _ _) jn Z ⟨_,.t1⟩ Z)<|aa Z<|za (q0 (j:=p.toNat) j9 ja Z Z (by omega) ⟨_,.t2⟩ (by first|rfl|(simp[bf,bd];done)|(simp[bf,bd];omega)) (by omega))<|za (qh (j:=p.toNat) jc Z ⟨_,.t2⟩ (hLg p hp0 hpn))<|aj Z Z<|z6<|zt Z (fun cl=>?_) (fun cl=>?_)
   ·refine y9<|aM<|aA Z Z<|aa Z<|z6 ?_
    exact ⟨(j+1,rows),vP,aG,aC,⟨hj2,hF⟩,by dsimp only;omega⟩
   ·have hpV:p∈V:=by have h0:¬gi (b5 S n) p=-1:=(by simpa using cl);rw[←hVe];exact (hG.lev_mem p).1 h0
    refine zd<|ah<|aa Z<|ay Z<|z6<|zh<|ya (γ:=Int × List (List Int)) [0,2,7,12,13,14,21,22,23] (fun g=>[(10,.int .i64 g.1)]) (fun g=>[(0,cJ eI 23 3 fb g.2),(t,.cells 159 [.own a n,.own b n,x,dn fb n]),(b,.grow 1 3 (cI (b5 S n))),(a,.grow 1 3 (cI (bu S n)))]) (fun g=>((g.1∈V∧(c=0∨gY (gi (cW S n)) g.1 (gi (cW S n) c)))∨(c=0∧g.1=-1))∧vx n g.2) (fun g=>(gi (b5 S n) g.1+1).toNat) (p,rows) aG aC (⟨.inl ⟨hpV,wG hG (by rw[hVe];exact hcV) (by rw[hVe];exact hpV) hpc2⟩,hF⟩) ?_
    rintro ⟨y,rows⟩ ⟨hy,hF⟩
    try dsimp only at *
    refine zc<|ah<|aa Z<|aY Z<|za (yc Z)<|za (zr Zc Z jg (by decide) Z Z)<|za (zw (c:=.own _ _) jn Z ⟨_,.t1⟩ Z)<|aa Z<|za (q0 (j:=c.toNat) j9 ja Z Z (by omega) ⟨_,.t3⟩ (by first|rfl|(simp[bf,bd];done)|(simp[bf,bd];omega)) (by omega))<|za (qh (j:=c.toNat) jc Z ⟨_,.t3⟩ (hNg c hc0 hcn))<|aH Z Z<|z6<|zt Z (fun cy=>?_) (fun cy=>?_)
    ·have hne:y≠gi (bu S n) c:=by simpa using cy
     obtain ⟨hyV,hnx,hms⟩:=Ao hG (hVe▸hcV) (by rw[hVe];exact hy) hne
     rw[hVe] at hyV hnx
     obtain ⟨hy0,hyn⟩:=hVr y hyV
     have hyl:y.toNat<rows.length:=by rw[hF.1];omega
     have hrl:=hF.len (qu hyl)
     refine zd<|zc<|zh<|ah<|aY Z<|za (yc Z)<|za (zr Zc Z sizeOf154 (by decide) Z Z)<|za (zw (c:=dn _ _) isAgg154 Z ⟨_,.t1⟩ Z)<|aa Z<|za (qe (j:=y.toNat) jf jg Z Z (by omega) (by omega))<|q5 (j:=y.toNat) (r:=rows[y.toNat]) jn Z (qq hyl) (fun _=>.head)<|fun i58=>aa Z<|zu Z (zn (.l (.r (.r (.r (.r (.rest _))))))) (rB rows[y.toNat] c i58 _ (by omega)) ?_
     rintro r60 O60 ⟨rfl,rfl⟩
     refine aF Z<|zf (aK.nestBack (r:=rows[y.toNat]) .head .head) ?_
     rw[List.set_getElem_self]
     refine z6<|zt Z (fun cin=>?_) (fun cin=>?_)
     ·have hnin:c ∉ rows[y.toNat]:=by simpa using cin
      refine yf (γ:=Unit) [0,2,7,10,12,13,14,21,22,23] (fun u=>[]) (fun u=>[(t,.cells 159 [.own a n,.own b n,x,dn fb n]),(b,.grow 1 3 (cI (b5 S n))),(a,.grow 1 3 (cI (bu S n))),(0,cJ eI 23 3 fb (rows.set y.toNat (rows[y.toNat]++[c])))]) (fun u=>True) ?_ (fun _ _ h=>h) ?_
      ·refine y7 (fun j=>Nat.beq j 16) (by kernel_rfl) Z (zn (.l (.r (.r (.r (.rest _))))))<|au 0 Z (l2 Z)<|au 1 Z (yc Z)<|au 2 Z (zr Zc Z sizeOf154 (by decide) Z Z)<|au 3 Z (zw (c:=dn _ _) isAgg154 Z ⟨_,.head⟩ Z)<|au 4 Z (cG Z)<|au 5 Z (l2 Z)<|au 6 Z (yc Z)<|au 7 Z (zr Zc Z sizeOf154 (by decide) Z Z)<|au 8 Z (zw (c:=dn _ _) isAgg154 Z ⟨_,.head⟩ Z)<|au 9 Z (cG Z)<|au 10 Z (qe (j:=y.toNat) jf jg Z Z (by omega) (by omega))<|au 12 Z (cG Z)<|yv (i:=11) (j:=13) Z Z (by kernel_rfl) ?_ ?_
       ·refine q5 (j:=y.toNat) (r:=rows[y.toNat]) jn Z (qq hyl) (fun _=>.head)<|fun i73=>z6<|aV 13 Z<|y8 (rows:=[[_]]) cZ Z Z Z Z Z<|z6<|aV 14 Z<|yn (k:=1) j9 type3 Z Z Z Z Z (fun _=>.head) (by rw[eI.av_len];rfl) (by decide) Z (by show (_+1)*8≤_;omega) (by show _+1≤_;omega)<|fun i76=>z6<|au 15 Z (qe (j:=y.toNat) jf jg Z Z (by omega) (by omega))<|yx<|q1 (i:=16) Z (by kernel_rfl) (by kernel_rfl)<|qf (j:=y.toNat) (r:=rows[y.toNat]++[c]) jg Z Z (by omega) .t3 .t3 Z (eI.av_push _ _) (by simp)<|z6<|yz (by kernel_rfl) ?_
        exact ⟨(),iy,trivial,aC,trivial⟩
       ·refine y8 (rows:=[[_]]) cZ Z Z Z Z Z<|z6<|aV 11 Z<|q5 (j:=y.toNat) (r:=rows[y.toNat]) jn Z (qq hyl) (fun _=>.head)<|fun i73=>z6<|aV 14 Z<|yn (k:=1) j9 type3 Z Z Z Z Z (fun _=>.head) (by rw[eI.av_len];rfl) (by decide) Z (by show (_+1)*8≤_;omega) (by show _+1≤_;omega)<|fun i76=>z6<|au 15 Z (qe (j:=y.toNat) jf jg Z Z (by omega) (by omega))<|yx<|q1 (i:=16) Z (by kernel_rfl) (by kernel_rfl)<|qf (j:=y.toNat) (r:=rows[y.toNat]++[c]) jg Z Z (by omega) .t3 .t3 Z (eI.av_push _ _) (by simp)<|z6<|yz (by kernel_rfl) ?_
        exact ⟨(),iy,trivial,aC,trivial⟩
      ·rintro _ _
       refine yg (zi (zj .t3))<|aM<|aY Z<|za (yc Z)<|za (zr Zc Z jg (by decide) Z Z)<|za (zw (c:=.own _ _) jn Z ⟨_,.t1⟩ Z)<|aa Z<|za (q0 (j:=y.toNat) j9 ja Z Z (by omega) ⟨_,.t3⟩ (by first|rfl|(simp[bf,bd];done)|(simp[bf,bd];omega)) (by omega))<|za (qh (j:=y.toNat) jc Z ⟨_,.t3⟩ (hNg y hy0 hyn))<|ay Z<|z6 ?_
       exact ⟨(gi (bu S n) y,rows.set y.toNat (rows[y.toNat]++[c])),nK,aG,aC,⟨hnx,hF.push hyl hc0 hcn hnin⟩,by dsimp only;omega⟩
     ·refine zd<|aM<|aY Z<|za (yc Z)<|za (zr Zc Z jg (by decide) Z Z)<|za (zw (c:=.own _ _) jn Z ⟨_,.t1⟩ Z)<|aa Z<|za (q0 (j:=y.toNat) j9 ja Z Z (by omega) ⟨_,.t3⟩ (by first|rfl|(simp[bf,bd];done)|(simp[bf,bd];omega)) (by omega))<|za (qh (j:=y.toNat) jc Z ⟨_,.t3⟩ (hNg y hy0 hyn))<|ay Z<|z6 ?_
      exact ⟨(gi (bu S n) y,rows),nK,aG,aC,⟨hnx,hF⟩,by dsimp only;omega⟩
    ·refine y9<|aM<|aA Z Z<|aa Z<|z6 ?_
     exact ⟨(j+1,rows),vP,aG,aC,⟨hj2,hF⟩,by dsimp only;omega⟩
  ·refine y9<|aM<|aA Z Z<|aa Z<|z6 ?_
   exact ⟨(k+1,rows),e7,aG,aC,⟨hk2,hF⟩,by dsimp only;omega⟩
 ·refine y9<|ah<|aY Z<|za (yc Z)<|za (zr Zc Z sizeOf154 (by decide) Z Z)<|za (zw (c:=dn _ _) isAgg154 Z ⟨_,.t1⟩ Z)<|za (Gv.lenN jf Z)<|aa Z<|z6<|zh<|ya (γ:=Nat × List (List Int)) [0,84] (fun g=>[(85,.int .i64 g.1)]) (fun g=>[(0,cJ eI 23 3 fb g.2),(t,.cells 159 [.own a n,.own b n,x,dn fb n]),(b,.grow 1 3 (cI (b5 S n))),(a,.grow 1 3 (cI (bu S n)))]) (fun g=>g.1≤n∧vx n g.2) (fun g=>n - g.1) (0,rows) aG aC (⟨qt _,hF⟩) ?_
  rintro ⟨m,rows⟩ ⟨hm,hF⟩
  try dsimp only at *
  refine ah<|aw Z Z<|z6<|zc<|zp Z (fun cm=>?_) (fun cm=>?_)
  ·have hm2:m<n:=by simp at cm;omega
   have hml:m<rows.length:=by rw[hF.1];omega
   have hrl:=hF.len (qu hml)
   refine zd<|zc<|zh<|ah<|aa Z<|ay Z<|z6<|aM<|aY Z<|za (yc Z)<|za (zr Zc Z sizeOf154 (by decide) Z Z)<|za (zw (c:=dn _ _) isAgg154 Z ⟨_,.t1⟩ Z)<|aa Z<|za (qe (j:=m) jf jg Z Z Z (by omega))<|q5 (j:=m) (r:=rows[m]) jn Z (qq hml) (fun _=>.head)<|fun i94=>zu Z (zn (.l (.r (.r (.r (.r (.rest _))))))) (DQ rows[m] i94 _ (by omega)) ?_
   rintro r95 O95 ⟨rfl,rfl⟩
   refine z6<|yg (aK.nestBackN (r:=kK rows[m]) (eL _).length_eq .head .head)<|aM<|aA Z Z<|aa Z<|z6 ?_
   exact ⟨(m+1,rows.set m (kK rows[m])),di,aG,aC,⟨hm2,hF.sort hml⟩,by dsimp only;omega⟩
  ·refine y9<|ym ?_
   exact ⟨rfl,rows,hF,rfl⟩
end
section
open Go.Proofs.Tryz
open Go.Proofs
variable {E:World}
set_option maxRecDepth 20000
def rC (f:ad) (x y:AV):AV:=.pf [.fro 1 ((bu (ao f) f.blocks.length).map fa),.fro 1 ((b5 (ao f) f.blocks.length).map fa),x,y]
theorem tN (lev:List Int) (b:Int) (x0 x2 x3:AV) (hl:lev.length≤1000):aJ prog E 79 [.pf [x0,.fro 1 (lev.map fa),x2,x3],.int .i64 b] (.bool (decide (gi lev b≠-1))):=by
 refine zo func79 Z (by decide) Z<|ah<|ac Z<|z6<|ah<|za (gS Z)<|za (Gv.neqPf underlying103 type159 Z)<|ai Z<|z8 Z Z Z<|aa Z<|z8 Z Z Z<|za (qa Z Z)<|ap Z Z Z<|ai Z<|zm (s:=11) Z (fun c0=>?_) (fun c0=>?_)
 ·have h0:0≤b:=by simpa using c0
  refine z8 Z Z c0<|aa Z<|z8 Z Z c0<|za (gS Z)<|z8 Z Z c0<|za (yr Z)<|z8 Z Z c0<|ae Zc Z jg Z Z<|z8 Z Z c0<|aI jn Z<|z8 Z Z c0<|ak j9 Z<|z8 Z Z c0<|aw Z Z<|ap Z c0 Z<|ai Z<|zm (s:=20) Z (fun c1=>?_) (fun c1=>?_)
  ·have h1:b<lev.length:=by simpa using c1
   have hg:lev[b.toNat]?=some (gi lev b):=f7 h0 (by omega)
   refine z8 Z Z c1<|za (gS Z)<|z8 Z Z c1<|za (yr Z)<|z8 Z Z c1<|ae Zc Z jg Z Z<|z8 Z Z c1<|aI jn Z<|z8 Z Z c1<|aa Z<|z8 Z Z c1<|za (bD b.toNat j9 ja Z Z (by omega) hg)<|z8 Z Z c1<|ax jc Z<|z8 Z Z c1<|aH Z Z<|ap Z c1 Z<|ac Z<|z6<|zg<|zk (x:=.bool _) Z ?_
   simp
  ·have h1:¬b<lev.length:=by simpa using c1
   refine z7 Z Z c1<|z7 Z Z c1<|z7 Z Z c1<|z7 Z Z c1<|z7 Z Z c1<|z7 Z Z c1<|z7 Z Z c1<|z7 Z Z c1<|aq Z c1 Z<|ac Z<|z6<|zg<|zk (x:=.bool _) Z ?_
   rw[zE (.inr (by omega))];rfl
 ·have h0:¬0≤b:=by simpa using c0
  refine z7 Z Z c0<|z7 Z Z c0<|z7 Z Z c0<|z7 Z Z c0<|z7 Z Z c0<|z7 Z Z c0<|z7 Z Z c0<|aq Z c0 Z<|ai Z<|z7 Z Z Z<|z7 Z Z Z<|z7 Z Z Z<|z7 Z Z Z<|z7 Z Z Z<|z7 Z Z Z<|z7 Z Z Z<|z7 Z Z Z<|aq Z Z Z<|ac Z<|z6<|zg<|zk (x:=.bool _) Z ?_
  rw[zE (.inl (by omega))];rfl
section
variable {S:Int→List Int} {n:Nat} (hG:f8 S n)
include hG
theorem DR {a b:Int} (ha:a∈aD S n) (hb:b∈aD S n) (hlt:gi (b5 S n) a<gi (b5 S n) b) :
  b≠0∧gi (bu S n) b∈aD S n∧gi (b5 S n) b=gi (b5 S n) (gi (bu S n) b)+1∧iR S n a b=iR S n a (gi (bu S n) b):=by
 have hO:=hG.gok.ord
 have hla:=hG.lev_nn ha
 have hl0:gi (b5 S n) 0=0:=hG.lev.zero
 have hb0:b≠0:=fun e=>by rw[e,hl0] at hlt;omega
 obtain ⟨g1,g2⟩:=hG.near_mem hb hb0
 have g3:=hG.lev_near hb hb0
 rw[gm (hO.nn b hb) hb0]
 refine ⟨hb0,g1,g3,?_⟩
 rw[qz,hG.domB_iff,hG.domB_iff,hG.dom_iff hb,hG.dom_iff g1]
 constructor
 ·intro h
  rcases h.cases' with e|⟨_,_,h3⟩
  ·rw[e] at hlt;omega
  ·exact h3
 ·intro h
  exact .up hb0 (hG.exact.has b hb) h
theorem Gc {a b:Int} (hb:b∈aD S n) (hge:¬gi (b5 S n) a<gi (b5 S n) b):iR S n a b=decide (a=b):=by
 rw[qz,hG.domB_iff,hG.dom_iff hb,wc]
 constructor
 ·intro h
  exact (hG.lev_anc hb h).2.2 (by omega)
 ·rintro rfl;exact .refl _
theorem tO {a b:Int} (h:a ∉ aD S n∨b ∉ aD S n):iR S n a b=false:=by
 rw[Bool.eq_false_iff]
 intro hd
 have hd:=(hG.domB_iff a b).1 hd
 have hb:b∈aD S n:=(hG.gok.ord.mem b).2 hd.1
 have ha:a∈aD S n:=(hG.lev_anc hb ((hG.dom_iff hb).1 hd)).1
 rcases h with h|h
 ·exact h ha
 ·exact h hb
end
theorem tP (f:ad) (hE:bF f) (hn:f.blocks.length≤1000) (a b:Int) (x y:AV):aJ prog E 38 [rC f x y,.int .i64 a,.int .i64 b] (.bool (iR (ao f) f.blocks.length a b)):=by
 have hG:=hE.grph
 have hol:=fy hG
 have hO:=hG.gok.ord
 have hrng:∀z∈aD (ao f) f.blocks.length,0≤z∧z<f.blocks.length:=fun z hz=>dq hG.toEOk hz
 have hLl:(b5 (ao f) f.blocks.length).length=f.blocks.length:=hG.lev.len
 have hLg:∀z:Int,0≤z→z<f.blocks.length→(b5 (ao f) f.blocks.length)[z.toNat]?=some (gi (b5 (ao f) f.blocks.length) z):=fun z h1 h2=>f7 h1 (by omega)
 have hNg:∀z:Int,0≤z→z<f.blocks.length→(bu (ao f) f.blocks.length)[z.toNat]?=some (gi (bu (ao f) f.blocks.length) z):=fun z h1 h2=>f7 h1 (by rw[fF];omega)
 unfold rC
 refine zo func38 Z (by decide) Z<|ah<|ac Z<|z6<|zc<|ah<|za (gS Z)<|aa Z<|ze (tN (b5 (ao f) f.blocks.length) a _ x y (by omega)) Z<|aF Z<|ai Z<|zm (s:=11) Z (fun ca=>?_) (fun ca=>?_)
 ·have ha:a ∉ aD (ao f) f.blocks.length:=by have h0:gi (b5 (ao f) f.blocks.length) a=-1:=(by simpa using ca);exact fun h=>(hG.lev_mem a).2 h h0
  refine z7 Z Z ca<|z7 Z Z ca<|z7 Z Z ca<|z7 Z Z ca<|ap Z ca Z<|z6<|yt Z Z<|ah<|ac Z<|z6<|zg<|zk (x:=.bool _) Z ?_
  rw[tO hG (.inl ha)]
 ·have ha:a∈aD (ao f) f.blocks.length:=by have h0:¬gi (b5 (ao f) f.blocks.length) a=-1:=(by simpa using ca);exact (hG.lev_mem a).1 h0
  refine z8 Z Z ca<|za (gS Z)<|z8 Z Z ca<|aa Z<|z8 Z Z ca<|ze (tN (b5 (ao f) f.blocks.length) b _ x y (by omega)) Z<|z8 Z Z ca<|aF Z<|aq Z ca Z<|z6<|zt Z (fun cb=>?_) (fun cb=>?_)
  ·have hb:b ∉ aD (ao f) f.blocks.length:=by have h0:gi (b5 (ao f) f.blocks.length) b=-1:=(by simpa using cb);exact fun h=>(hG.lev_mem b).2 h h0
   refine ah<|ac Z<|z6<|zg<|zk (x:=.bool _) Z ?_
   rw[tO hG (.inr hb)]
  ·have hb:b∈aD (ao f) f.blocks.length:=by have h0:¬gi (b5 (ao f) f.blocks.length) b=-1:=(by simpa using cb);exact (hG.lev_mem b).1 h0
   obtain ⟨ha0,han⟩:=hrng a ha
   refine zd<|zc<|zh<|ya (γ:=Int) [0,1] (fun c=>[(2,.int .i64 c)]) (fun c=>[]) (fun c=>c∈aD (ao f) f.blocks.length∧iR (ao f) f.blocks.length a b=iR (ao f) f.blocks.length a c) (fun c=>(gi (b5 (ao f) f.blocks.length) c).toNat) b aG aC (⟨hb,Z⟩) ?_
   rintro c ⟨hc,hd⟩
   obtain ⟨hc0,hcn⟩:=hrng c hc
   have hl:=hG.lev_nn hc
   refine zc<|zc<|y7 (fun j=>false) (by kernel_rfl) Z (zn (.rest _))<|au 0 Z (gS Z)<|au 1 Z (yr Z)<|au 2 Z (cA Zc Z jg Z Z)<|au 3 Z (iS jn Z)<|au 4 Z (cG Z)<|au 5 Z (bD c.toNat j9 ja Z Z (by omega) (hLg c hc0 hcn))<|au 6 Z (du jc Z)<|au 7 Z (gS Z)<|au 8 Z (yr Z)<|au 9 Z (cA Zc Z jg Z Z)<|au 10 Z (iS jn Z)<|au 11 Z (cG Z)<|au 12 Z (bD a.toNat j9 ja Z Z (by omega) (hLg a ha0 han))<|au 13 Z (du jc Z)<|au 14 Z (Gv.gtr Z Z)<|bY<|zt Z (fun cc=>?_) (fun cc=>?_)
   ·have hlt:gi (b5 (ao f) f.blocks.length) a<gi (b5 (ao f) f.blocks.length) c:=by simpa using cc
    obtain ⟨s1,s2,s3,s4⟩:=DR hG ha hc hlt
    refine zd<|zh<|aM<|za (gS Z)<|za (yr Z)<|ae Zc Z jg Z Z<|aI jn Z<|aa Z<|za (bD c.toNat j9 ja Z Z (by omega) (hNg c hc0 hcn))<|ax jc Z<|ay Z<|z6 ?_
    exact ⟨gi (bu (ao f) f.blocks.length) c,di,aG,aC,⟨s2,by rw[hd,s4]⟩,by have:=hG.lev_nn s2;omega⟩
   ·have hge:¬gi (b5 (ao f) f.blocks.length) a<gi (b5 (ao f) f.blocks.length) c:=by simpa using cc
    refine y9<|ah<|aa Z<|aa Z<|aj Z Z<|ac Z<|z6<|zg<|zk (x:=.bool _) Z ?_
    rw[hd,Gc hG hc hge]
end
end Go.Proofs.YtbanfokidalbaaaGreatDoor
