/- A table of edges, filled: what an instruction puts into it. Of programs that are little. -/
import Derived.Test.YtbanfokidalbaaaGreatDoorJo
import Derived.Test.YtbanfokidalbaaaGreatDoorJd
set_option linter.unusedVariables false
set_option linter.unusedSimpArgs false
set_option linter.unusedSectionVars false
namespace Go.Proofs.YtbanfokidalbaaaGreatDoor
section
open Go.Proofs.Tryz
open Go.Proofs Go.Lib Go.Shelf Go.RowKit
variable {E:World}
set_option maxRecDepth 20000
def fV (f:ad) (l:List be) (up:Bool) (X:AV):List AV:=bL f++[JN f,.fro 2 (l.map bg),.int .i64 f.vars.length,.bool up,X]
theorem ny (f:ad) (hS:bx f) (l:List be) (hll:l.length=f.vars.length) (up:Bool) (X:AV) {a:Int} (ha:bz f a=true):aJ prog E 147 [.pf (fV f l up X),.int .i64 a] (.agg (bg (dW f l a))):=by
 obtain ⟨ha0,ha1⟩:=bH ha
 obtain ⟨y,hy,hyt,hy0,hy2⟩:=uW hS ha
 refine zo func147 Z (by decide) Z<|ah<|zy (cs:=[.int .i64 0,.int .i64 0]) Y4 Z Z<|fun i4=>z6<|zc<|y7 (fun j=>Nat.beq j 18) (by kernel_rfl) Z (zn (.rest _))<|au 0 Z (gS Z)<|au 1 Z (yr Z)<|au 2 Z (cA jw Z sizeOf27 Z Z)<|au 3 Z (iS isAgg27 Z)<|au 4 Z (cG Z)<|au 5 Z (bD a.toNat Yn Z3 Z Z (by omega) (uV (by omega)))<|au 6 Z (yk Zt Z3 Z Z)<|au 7 Z (gS Z)<|au 8 Z (yr Z)<|au 9 Z (cA jw Z jh Z Z)<|au 10 Z (cA je Z Zg Z Z)<|au 11 Z (iS Zp Z)<|au 12 Z (cG Z)<|au 13 Z (bD a.toNat js Zx Z Z (by omega) hy)<|au 14 Z (cA Zd Z Yj Z Z)<|au 15 Z (du Yv Z)<|aV 16 Z<|ze (FU _) Z<|z6<|aV 17 Z<|ze (JL _ _) Z<|z6<|yx<|q1 (i:=18) Z (by kernel_rfl) (by kernel_rfl)<|zq Z3 Z Z Z Z Z Z .head Z<|z6<|yz (by kernel_rfl)<|zg<|yw Z ⟨_,.head⟩ Zt Z3 Z ?_
 unfold dW;rw[←hyt];rfl
theorem oe (r:be) (n:Int):aJ prog E 148 [.agg (bg r),.int .i64 n] (.bool (dz r n)):=by
 refine zo func148 Z (by decide) Z<|ah<|yb (cs:=_) Z Z Z<|ac Z<|z6<|ah<|ab Zt Z3 Z Z<|ze (n8 _) Z<|aF Z<|ai Z<|zm (s:=8) Z (fun c1=>?_) (fun c1=>?_)
 ·refine z8 Z Z c1<|aa Z<|z8 Z Z c1<|aH Z Z<|ap Z c1 Z<|ai Z<|zm (s:=12) Z (fun c2=>?_) (fun c2=>?_)
  ·refine z8 Z Z c2<|aa Z<|z8 Z Z c2<|aH Z Z<|ap Z c2 Z<|ac Z<|z6<|zg<|zk (x:=.bool _) Z ?_
   exact jb (by unfold dz mO lc;simp_all)
  ·refine z7 Z Z c2<|z7 Z Z c2<|aq Z c2 Z<|ac Z<|z6<|zg<|zk (x:=.bool _) Z ?_
   exact jb (by unfold dz mO lc;simp_all)
 ·refine z7 Z Z c1<|z7 Z Z c1<|aq Z c1 Z<|ai Z<|z7 Z Z Z<|z7 Z Z Z<|aq Z Z Z<|ac Z<|z6<|zg<|zk (x:=.bool _) Z ?_
  exact jb (by unfold dz mO lc;simp_all)
theorem D2 (f:ad) (hS:bx f) (l:List be) (hll:l.length=f.vars.length) (up:Bool) (X:AV) {a:Int} (ha:bz f a=true) (other:Bool):aJ prog E 109 [.pf (fV f l up X),.int .i64 a,.bool other] (.tup [.int .i64 (ff f l up a other),.bool (dz (dW f l a) (ff f l up a other))]):=by
 obtain ⟨r,hr⟩:∃r,dW f l a=r:=⟨_,rfl⟩
 have hof:=ny (E:=E) f hS l hll up X ha
 have hen:ff f l up a other=if up≠other then r.2 else r.1:=by unfold ff;rw[hr]
 rw[hr] at hof ⊢
 refine zo func109 Z (by decide) Z<|ah<|ay Z<|ac Z<|z6<|ah<|za (gS Z)<|aa Z<|ze (hof) Z<|zy (cs:=[.int .i64 0,.int .i64 0]) Y4 Z Z<|fun i8=>zq Z3 Z Z Z Z Z Z .head Z<|z6<|ah<|za (zr Zf Z ji (by decide) Z Z)<|za (zw (c:=.int _ _) jp Z ⟨_,.head⟩ Z)<|ay Z<|z6<|zc<|ah<|za (gS Z)<|za (yr Z)<|ae jw Z Z5 Z Z<|za (yo (c:=.bool _) Zm Z)<|ai Z<|za (Gv.neqB Zv Z Z)<|z6<|zt Z (fun c=>?_) (fun c=>?_)
 ·refine aM<|za (zr Zf Z ji (by decide) Z Z)<|za (zw (c:=.int _ _) jp Z ⟨_,.head⟩ Z)<|ay Z<|z6<|ah<|aa Z<|za (q8 Zt Z3 Z ⟨_,.head⟩ Z)<|aa Z<|ze (oe _ _) Z<|ay Z<|ac Z<|z6<|zg<|qb (x:=.int _ _) (y:=.bool _) Z Z ?_
  rw[hen,if_pos (by simpa using c)];try rfl
 ·refine zd<|ah<|aa Z<|za (q8 Zt Z3 Z ⟨_,.head⟩ Z)<|aa Z<|ze (oe _ _) Z<|ay Z<|ac Z<|z6<|zg<|qb (x:=.int _ _) (y:=.bool _) Z Z ?_
  rw[hen,if_neg (by simpa using c)];try rfl
theorem D3 (f:ad) (hS:bx f) (l:List be) (hll:l.length=f.vars.length) (up:Bool) (X:AV) {a:Int} (ha:bz f a=true):aJ prog E 150 [.pf (fV f l up X),.int .i64 a] (.bool (li f l a)):=by
 obtain ⟨r,hr⟩:∃r,dW f l a=r:=⟨_,rfl⟩
 have hof:=ny (E:=E) f hS l hll up X ha
 have hpo:li f l a=(dz r r.1&&decide (0≤r.1)):=by unfold li;rw[hr]
 rw[hr] at hof
 rw[hpo]
 refine zo func150 Z (by decide) Z<|ah<|ac Z<|z6<|ah<|za (gS Z)<|aa Z<|ze (hof) Z<|zy (cs:=[.int .i64 0,.int .i64 0]) Y4 Z Z<|fun i5=>zq Z3 Z Z Z Z Z Z .head Z<|z6<|ah<|za (q8 Zt Z3 Z ⟨_,.head⟩ Z)<|za (zr Zf Z ji (by decide) Z Z)<|za (zw (c:=.int _ _) jp Z ⟨_,.head⟩ Z)<|ze (oe _ _) Z<|ai Z<|zm (s:=13) Z (fun c=>?_) (fun c=>?_)
 ·refine z8 Z Z c<|za (zr Zf Z ji (by decide) Z Z)<|z8 Z Z c<|za (zw (c:=.int _ _) jp Z ⟨_,.head⟩ Z)<|z8 Z Z c<|za (qa Z Z)<|ap Z c Z<|ac Z<|z6<|zg<|zk (x:=.bool _) Z ?_
  exact jb (by rw[show dz r r.1=true from c];rfl)
 ·refine z7 Z Z c<|z7 Z Z c<|z7 Z Z c<|aq Z c Z<|ac Z<|z6<|zg<|zk (x:=.bool _) Z ?_
  exact jb (by rw[show dz r r.1=false from c];rfl)
theorem Gr:(bq 21).length=2:=by decide
theorem Gs:(bq 22).length=2:=by decide
theorem IX {f:ad} (hS:bx f) {op:Int} (ho:op=2∨op=3) {b:bc} (hb:b∈f.blocks) {z:aN} (hz:z∈b.insts) (h:z.op=op+19):∃c d,z.args=[c,d]:=by
 have:=(fk ((hS.2.2.2.2.2 b hb).2.1 z hz)).len
 have h2:z.args.length=2:=by
  rcases ho with rfl|rfl
  ·rw[this,h];exact Gr
  ·rw[this,h];exact Gs
 match z.args,h2 with
 |[c,d],_=>exact ⟨c,d,rfl⟩
set_option maxHeartbeats 4000000 in
theorem D4 (f:ad) (hf:small f) (hS:bx f) (hE:bF f) (l:List be) (up:Bool) (X:AV) (x:aN) (ho:x.op=2∨x.op=3) {xa xb:Int} (hxa:x.args=[xa,xb]) (block at_:Nat) :
  aJ prog E 149 [.pf (fV f l up X),.agg (cK x),.int .i64 block,.int .i64 at_] (.bool (kq f x block at_)):=by
 have hn:=hf.2.2.1
 have hs:tw x.op=true:=by unfold tw;exact w7 (by omega)
 rw[kq,hs,Bool.true_and]
 refine zo func149 Z (by decide) Z<|ah<|yb (cs:=_) Z Z Z<|ac Z<|z6<|zc<|ah<|za (gS Z)<|za (yr Z)<|ae jw Z jh Z Z<|ae je Z Ze Z Z<|aI Zl Z<|ak jk Z<|aa Z<|z6<|zh<|ya (γ:=Nat) [0,2,3,5,17,18] (fun i=>[(19,.int .i64 i)]) (fun i=>[]) (fun i=>i≤f.blocks.length∧(List.range i).any (Fr f (x.op+19) x.args block at_)=false) (fun i=>f.blocks.length - i) 0 aG aC (⟨qt _,Z⟩) ?_
 rintro i ⟨hi,hiall⟩
 refine ah<|aw Z Z<|z6<|zc<|zp Z (fun ci=>?_) (fun ci=>?_)
 ·have hi2:i<f.blocks.length:=by simp at ci;omega
  obtain ⟨b,hbi⟩:∃b,f.blocks[i]=b:=⟨_,rfl⟩
  have hget:f.blocks[i]?=some b:=by rw[qq hi2,hbi]
  have hmem:b∈f.blocks:=hbi▸qu hi2
  obtain ⟨hb0,hb1,hb2,hb3,hb4⟩:=hf.2.2.2.2 b hmem
  refine zd<|zc<|zh<|ah<|aa Z<|za (bD i jk jv Z Z Z hget)<|ab Yk jv Z Z<|zy (cs:=[.str ⟨#[]⟩,.raw (.slice none 0 0),.raw (.slice none 0 0),.int .i64 0,.int .i64 0,.int .i64 0,.int .i64 0]) Zn Z Z<|fun i10=>ay Z<|zq jv Z Z Z Z Z Z .head Z<|zf (yd (t:=10) Z .head)<|z6<|ah<|ae jl Z Y8 Z Z<|aI Yi Z<|ak jx Z<|aa Z<|z6<|zh<|ya (γ:=Nat) [0,2,3,5,9,17,18,19,25,26] (fun k=>[(27,.int .i64 k)]) (fun k=>[]) (fun k=>k≤b.insts.length∧(b.insts.zipIdx.take k).any (qK f (x.op+19) x.args i block at_)=false) (fun k=>b.insts.length - k) 0 aG aC (⟨qt _,Z⟩) ?_
  rintro k ⟨hk,hkall⟩
  refine ah<|aw Z Z<|z6<|zc<|zp Z (fun ck=>?_) (fun ck=>?_)
  ·have hk2:k<b.insts.length:=by simp at ck;omega
   obtain ⟨z,hz⟩:∃z,b.insts[k]=z:=⟨_,rfl⟩
   have hzm:z∈b.insts:=hz▸qu hk2
   have hzi:k<b.insts.zipIdx.length:=by simp;exact hk2
   have hze:b.insts.zipIdx[k]=(z,k):=by simp[hz]
   have hq:qK f (x.op+19) x.args i block at_ b.insts.zipIdx[k]=(decide (z.op=x.op+19)&&decide (z.args=x.args)&&dH f ((i:Int),(k:Int)) block at_):=by rw[hze];rfl
   refine zd<|zc<|zh<|ah<|aa Z<|za (bD k jx Z9 Z Z Z (by rw[qq hk2,hz])) ?_
   refine ab Ye Z9 Z Z<|zy (cs:=[.int .i64 0,.int .i64 0,.raw (.slice none 0 0),.int .i64 0]) Yf Z Z<|fun i12=>ay Z<|zq Z9 Z Z Z Z Z Z .head Z<|zf (yd (t:=12) Z .head)<|z6 ?_
   by_cases hop:z.op=x.op+19
   ·obtain ⟨c,d,hzc⟩:=IX hS ho hmem hzm hop
    have hq2:qK f (x.op+19) x.args i block at_ b.insts.zipIdx[k]=(decide (c=xa)&&(decide (d=xb)&&dH f ((i:Int),(k:Int)) block at_)):=by
     rw[hq,w7 hop,Bool.true_and,hzc,hxa]
     by_cases e1:c=xa
     ·by_cases e2:d=xb
      ·simp[e1,e2]
      ·simp[e1,e2]
     ·simp[e1]
    refine zc<|yf (γ:=Bool) [0,2,3,5,9,17,18,19,25,26,27] (fun u=>[(72,.bool u)]) (fun u=>[]) (fun u=>u=qK f (x.op+19) x.args i block at_ b.insts.zipIdx[k]) ?_ (fun _ _ h=>h) ?_
    ·refine y7 (fun j=>false) (by kernel_rfl) Z (zn (.rest _))<|au 0 Z (cA j8 Z Zq Z Z)<|au 1 Z (du Zz Z)<|au 2 Z (cA j8 Z Zq Z Z)<|au 3 Z (du Zz Z)<|au 4 Z (Gv.addW Z Z)<|au 5 Z (Gv.subW Z Z)<|au 6 Z (Gv.eqlI Z Z)<|au 7 Z (l5 Z)<|bB 8 Z Z Z (by rw[wc,aQ (z:=21+x.op) (by unfold aP;omega),aQ (z:=21+x.op - 2) (by unfold aP;omega)];omega) (cA j8 Z jg Z Z)<|bB 9 Z Z Z (by rw[wc,aQ (z:=21+x.op) (by unfold aP;omega),aQ (z:=21+x.op - 2) (by unfold aP;omega)];omega) (iS jn Z)<|bB 10 Z Z Z (by rw[wc,aQ (z:=21+x.op) (by unfold aP;omega),aQ (z:=21+x.op - 2) (by unfold aP;omega)];omega) (bD 0 j9 ja Z Z Z (by rw[hzc];rfl)) ?_
     refine bB 11 Z Z Z (by rw[wc,aQ (z:=21+x.op) (by unfold aP;omega),aQ (z:=21+x.op - 2) (by unfold aP;omega)];omega) (du jc Z)<|bB 12 Z Z Z (by rw[wc,aQ (z:=21+x.op) (by unfold aP;omega),aQ (z:=21+x.op - 2) (by unfold aP;omega)];omega) (cA j8 Z jg Z Z)<|bB 13 Z Z Z (by rw[wc,aQ (z:=21+x.op) (by unfold aP;omega),aQ (z:=21+x.op - 2) (by unfold aP;omega)];omega) (iS jn Z)<|bB 14 Z Z Z (by rw[wc,aQ (z:=21+x.op) (by unfold aP;omega),aQ (z:=21+x.op - 2) (by unfold aP;omega)];omega) (bD 0 j9 ja Z Z Z (by rw[hxa];rfl)) ?_
     refine bB 15 Z Z Z (by rw[wc,aQ (z:=21+x.op) (by unfold aP;omega),aQ (z:=21+x.op - 2) (by unfold aP;omega)];omega) (du jc Z)<|bB 16 Z Z Z (by rw[wc,aQ (z:=21+x.op) (by unfold aP;omega),aQ (z:=21+x.op - 2) (by unfold aP;omega)];omega) (Gv.eqlI Z Z)<|au 17 Z (oB Z (by rw[wc,aQ (z:=21+x.op) (by unfold aP;omega),aQ (z:=21+x.op - 2) (by unfold aP;omega)];omega) Z)<|au 18 Z (l5 Z)<|q4 (s:=50) Z (fun c1=>?_) (fun c1=>?_)
     ·refine bB 19 Z Z Z c1 (cA j8 Z jg Z Z)<|bB 20 Z Z Z c1 (iS jn Z)<|bB 21 Z Z Z c1 (bD 1 j9 ja Z Z Z (by rw[hzc];rfl)) ?_
      refine bB 22 Z Z Z c1 (du jc Z)<|bB 23 Z Z Z c1 (cA j8 Z jg Z Z)<|bB 24 Z Z Z c1 (iS jn Z)<|bB 25 Z Z Z c1 (bD 1 j9 ja Z Z Z (by rw[hxa];rfl)) ?_
      refine bB 26 Z Z Z c1 (du jc Z)<|bB 27 Z Z Z c1 (Gv.eqlI Z Z)<|au 28 Z (oB Z c1 Z)<|au 29 Z (l5 Z)<|q4 (s:=61) Z (fun c2=>?_) (fun c2=>?_)
      ·refine bB 30 Z Z Z c2 (gS Z)<|bB 31 Z Z Z c2 (yr Z)<|bB 32 Z Z Z c2 (cA jw Z sizeOf103 Z Z)<|bB 33 Z Z Z c2 (yo (c:=.pf _) isAgg103 Z)<|bB 34 Z Z Z c2 (cG Z)<|bB 35 Z Z Z c2 (cG Z)<|bB 36 Z Z Z c2 (zz (cps:=[(0,[_]),(1,[_])]) (rs:=[_,_]) BP Z Z Z)<|bB 37 Z Z Z c2 (cG Z)<|bB 38 Z Z Z c2 (cG Z)<|aV 39 Z<|z8 Z Z c2<|ze (kC f hE hn ((i:Int),(k:Int)) block at_ (oY eI (BO f)) .any) Z<|z6<|au 40 Z (oB Z c2 Z)<|bY ?_
       exact ⟨_,la,aG,aC,by rw[hq2,show decide (c=xa)=true from c1,show decide (d=xb)=true from c2];rfl⟩
      ·refine bi 30 Z Z Z c2<|bi 31 Z Z Z c2<|bi 32 Z Z Z c2<|bi 33 Z Z Z c2<|bi 34 Z Z Z c2<|bi 35 Z Z Z c2<|bi 36 Z Z Z c2<|bi 37 Z Z Z c2<|bi 38 Z Z Z c2<|bi 39 Z Z Z c2<|au 40 Z (kY Z c2 Z)<|bY ?_
       exact ⟨_,la,aG,aC,by rw[hq2,show decide (c=xa)=true from c1,show decide (d=xb)=false from c2];rfl⟩
     ·refine bi 19 Z Z Z c1<|bi 20 Z Z Z c1<|bi 21 Z Z Z c1<|bi 22 Z Z Z c1<|bi 23 Z Z Z c1<|bi 24 Z Z Z c1<|bi 25 Z Z Z c1<|bi 26 Z Z Z c1<|bi 27 Z Z Z c1<|au 28 Z (kY Z c1 Z)<|au 29 Z (l5 Z)<|bi 30 Z Z Z Z<|bi 31 Z Z Z Z<|bi 32 Z Z Z Z<|bi 33 Z Z Z Z<|bi 34 Z Z Z Z<|bi 35 Z Z Z Z<|bi 36 Z Z Z Z<|bi 37 Z Z Z Z<|bi 38 Z Z Z Z<|bi 39 Z Z Z Z<|au 40 Z (kY Z Z Z)<|bY ?_
      exact ⟨_,la,aG,aC,by rw[hq2,show decide (c=xa)=false from c1];rfl⟩
    ·rintro u hu
     subst hu
     refine zt Z (fun cq=>?_) (fun cq=>?_)
     ·refine ah<|ac Z<|z6<|zg<|zk (x:=.bool _) Z ?_
      exact jb (l6 hi2 (by rw[pu hget];exact Bp hzi cq)).symm
     ·refine zd<|aM<|aA Z Z<|aa Z<|z6 ?_
      exact ⟨k+1,iy,aG,aC,⟨hk2,qL hzi hkall (by simpa using cq)⟩,by omega⟩
   ·have hq2:qK f (x.op+19) x.args i block at_ b.insts.zipIdx[k]=false:=by rw[hq,w8 hop];rfl
    refine zc<|y7 (fun j=>false) (by kernel_rfl) Z (zn (.rest _))<|au 0 Z (cA j8 Z Zq Z Z)<|au 1 Z (du Zz Z)<|au 2 Z (cA j8 Z Zq Z Z)<|au 3 Z (du Zz Z)<|au 4 Z (Gv.addW Z Z)<|au 5 Z (Gv.subW Z Z)<|au 6 Z (Gv.eqlI Z Z)<|au 7 Z (l5 Z)<|bi 8 Z Z Z (w8 (by rw[aQ (z:=21+x.op) (by unfold aP;omega),aQ (z:=21+x.op - 2) (by unfold aP;omega)];omega))<|bi 9 Z Z Z (w8 (by rw[aQ (z:=21+x.op) (by unfold aP;omega),aQ (z:=21+x.op - 2) (by unfold aP;omega)];omega))<|bi 10 Z Z Z (w8 (by rw[aQ (z:=21+x.op) (by unfold aP;omega),aQ (z:=21+x.op - 2) (by unfold aP;omega)];omega))<|bi 11 Z Z Z (w8 (by rw[aQ (z:=21+x.op) (by unfold aP;omega),aQ (z:=21+x.op - 2) (by unfold aP;omega)];omega))<|bi 12 Z Z Z (w8 (by rw[aQ (z:=21+x.op) (by unfold aP;omega),aQ (z:=21+x.op - 2) (by unfold aP;omega)];omega))<|bi 13 Z Z Z (w8 (by rw[aQ (z:=21+x.op) (by unfold aP;omega),aQ (z:=21+x.op - 2) (by unfold aP;omega)];omega))<|bi 14 Z Z Z (w8 (by rw[aQ (z:=21+x.op) (by unfold aP;omega),aQ (z:=21+x.op - 2) (by unfold aP;omega)];omega))<|bi 15 Z Z Z (w8 (by rw[aQ (z:=21+x.op) (by unfold aP;omega),aQ (z:=21+x.op - 2) (by unfold aP;omega)];omega))<|bi 16 Z Z Z (w8 (by rw[aQ (z:=21+x.op) (by unfold aP;omega),aQ (z:=21+x.op - 2) (by unfold aP;omega)];omega))<|au 17 Z (kY Z (w8 (by rw[aQ (z:=21+x.op) (by unfold aP;omega),aQ (z:=21+x.op - 2) (by unfold aP;omega)];omega)) Z)<|au 18 Z (l5 Z)<|bi 19 Z Z Z Z<|bi 20 Z Z Z Z<|bi 21 Z Z Z Z<|bi 22 Z Z Z Z<|bi 23 Z Z Z Z<|bi 24 Z Z Z Z<|bi 25 Z Z Z Z<|bi 26 Z Z Z Z<|bi 27 Z Z Z Z<|au 28 Z (kY Z Z Z)<|au 29 Z (l5 Z)<|bi 30 Z Z Z Z<|bi 31 Z Z Z Z<|bi 32 Z Z Z Z<|bi 33 Z Z Z Z<|bi 34 Z Z Z Z<|bi 35 Z Z Z Z<|bi 36 Z Z Z Z<|bi 37 Z Z Z Z<|bi 38 Z Z Z Z ?_
    refine bi 39 Z Z Z Z<|au 40 Z (kY Z Z Z)<|bY<|yj Z Z<|zd<|aM<|aA Z Z<|aa Z<|z6 ?_
    exact ⟨k+1,iy,aG,aC,⟨hk2,qL hzi hkall hq2⟩,by omega⟩
  ·have hkn:k=b.insts.length:=by simp at ck;omega
   rw[hkn,show b.insts.length=b.insts.zipIdx.length by simp,qv] at hkall
   refine y9<|aM<|aA Z Z<|aa Z<|z6 ?_
   exact ⟨i+1,pt,aG,aC,⟨hi2,lg hiall (by rw[pu hget];exact hkall)⟩,by omega⟩
 ·have hin:i=f.blocks.length:=by simp at ci;omega
  subst hin
  refine y9<|ah<|ac Z<|z6<|zg<|zk (x:=.bool _) Z ?_
  exact jb hiall.symm
end
section
open Go.Proofs.Tryz
open Go.Proofs Go.Lib Go.Shelf Go.RowKit
theorem L9:el prog 72 #[(0,1),(1,1),(2,1)] [.int .i64 0,.int .i64 0,.int .i64 0]:=⟨_,_,underlying72,zeroValue72,fun w=>by kernel_rfl,rfl⟩
theorem uX:dM prog 66 72 1 3 [.int .i64 0,.int .i64 0,.int .i64 0]:=⟨_,X4,sizeOf72,zeroValue72,by decide,by decide,by kernel_rfl⟩
variable {E:World}
set_option maxRecDepth 20000
def ls (f:ad) (l:List be) (up:Bool) (i io:Nat) (es:List dI):OL:=[(i,.cells 150 (fV f l up (.own io es.length))),(io,.grow 3 72 (eC es))]
def Az (f:ad) (l:List be) (up:Bool) (i:Nat) (es:List dI):AV→OL→Prop:=fun y O=>∃io:Nat,y=.tup []∧O=ls f l up i io es∧True
def rM (f:ad) (l:List be) (up:Bool) (i:Nat) (es:List dI):AV→OL→Prop:=fun y O=>∃io:Nat,y=.tup []∧Left O (ls f l up i io es)∧True
theorem ba.tab {g:FuncId} {ars:List AV} {O:OL} {f:ad} {l:List be} {up:Bool} {i:Nat} {es:List dI} (h:ba prog E g ars O (rM f l up i es)):ba prog E g ars O (Az f l up i es):=
 ba.exact (γ:=Nat) (x:=fun _=>.tup []) (M:=fun jo=>ls f l up i jo es) (p:=fun _=>True) h
theorem rM.of {f:ad} {l:List be} {up:Bool} {i io:Nat} {es es':List dI} {O:OL} (h:es=es') (ho:Left O (ls f l up i io es)):rM f l up i es' (.tup []) O:=⟨io,rfl,h▸ho,trivial⟩
theorem bl (f:ad) (l:List be) (up:Bool) (i io:Nat) (es:List dI) (hb:es.length≤100000000) (to from_ by_:Int) :
  ba prog E 110 [.po i 0,.int .i64 to,.int .i64 from_,.int .i64 by_] (ls f l up i io es) (Az f l up i (es++[(from_,to,by_)])):=by
 refine ba.tab ?_
 unfold ls fV
 refine zo func110 Z (by decide) Z<|aM<|aY Z<|aY Z<|za (yc Z)<|za (zr jw Z X8 (by decide) Z Z)<|za (zw (c:=.own _ _) isAgg66 Z ⟨_,.head⟩ Z)<|aa Z<|aa Z<|aa Z<|za (zz (cps:=[(0,[_]),(1,[_]),(2,[_])]) (rs:=[_,_,_]) L9 Z Z Z)<|y8 (rows:=[[_,_,_]]) uX Z Z Z Z Z<|yn (k:=3) X4 type72 Z Z Z Z Z (fun _=>.t1) (by rw[qN]) (by decide) Z (by show (_+1)*24≤_;omega) (by show _+1≤_;omega)<|fun i18=>za (yc Z)<|za (zr jw Z X8 (by decide) Z Z)<|qg (l:=[_]) (new:=[_,_,_,_,_,_,_,_]) X8 Z Z Z Z Z Z .head Z Z<|z6<|aK.fin (zi (zj .head))<|ym ?_
 exact ⟨i18,rfl,⟨_,.refl _,by unfold ls;rw[←uC,qw];rfl⟩,trivial⟩
theorem lS (f:ad) (hS:bx f) (l:List be) (hll:l.length=f.vars.length) (up:Bool) (i:Nat) (X:AV) {a:Int} (ha:bz f a=true) (other:Bool) :
  ba prog E 109 [.po i 0,.int .i64 a,.bool other] [(i,.cells 150 (fV f l up X))] fun y O=>y=.tup [.int .i64 (ff f l up a other),.bool (dz (dW f l a) (ff f l up a other))]∧O=[(i,.cells 150 (fV f l up X))]:=
 ba.lendP (fun _ _ _ h=>Gq h) (D2 f hS l hll up X ha other)
theorem AA {f:ad} {l:List be} {up:Bool} {v:Int} {o:Bool} {a b:Int} {t:Bool} (h:dz (dW f l v) (ff f l up v o)=t):qO f l up v o a b 1=if t=true then[(b,a,ff f l up v o)] else[]:=by
 unfold qO iz;rw[h,Int.one_mul]
theorem KL {f:ad} {l:List be} {up:Bool} {v:Int} {o:Bool} {a b:Int} {t:Bool} (ho:cY (dW f l v)) (h:dz (dW f l v) (ff f l up v o)=t):qO f l up v o a b (-1)=if t=true then[(b,a,IntKind.i64.wrap (0 - ff f l up v o))] else[]:=by
 unfold qO iz
 rw[h]
 cases t
 ·rfl
 ·have h1:=ho.1;have h2:=ho.2
  have hne:ff f l up v o≠mO:=by
   unfold dz at h
   simp only[w9,wc] at h
   exact h.2.1
  have hr:aP (ff f l up v o):=by unfold ff;split;exact h2;exact h1
  rw[aQ (by unfold aP mO at *;omega)]
  simp only[if_true]
  congr 3
  omega
theorem tT (f:ad) (hS:bx f) (l:List be) (hll:l.length=f.vars.length) (up:Bool) (i io:Nat) (es:List dI) (hb:es.length≤90000000) {a:Int} (ha:bz f a=true) :
  ba prog E 70 [.po i 0,.int .i64 a] (ls f l up i io es) (Az f l up i (es++sK f l up a)):=by
 have he:=fun X=>lS (E:=E) f hS l hll up i X ha false
 obtain ⟨t,ht⟩:∃t,dz (dW f l a) (ff f l up a false)=t:=⟨_,rfl⟩
 rw[show sK f l up a=_ from AA ht]
 rw[ht] at he
 refine ba.tab ?_
 unfold ls fV
 refine zo func70 Z (by decide) Z<|ah<|aY Z<|aa Z<|zu Z (zn (.l (.r (.rest _)))) (he _) ?_
 rintro r9 O9 ⟨rfl,rfl⟩
 refine za (m6 Z)<|za (mq Z Z)<|za (sH Z Z)<|ay Z<|ac Z<|z6<|ah<|ai Z<|z6<|zt Z (fun c=>?_) (fun c=>?_)
 ·refine aM<|aY Z<|aa Z<|aY Z<|za (yc Z)<|za (zr jw Z ja (by decide) Z Z)<|za (zw (c:=.int _ _) jc Z ⟨_,.head⟩ Z)<|aa Z<|zu Z (zn (.l (.l (.rest _)))) (bl f l up i io es (by omega) a (n0 f) (ff f l up a false)) ?_
  rintro r20 O20 ⟨jo,rfl,rfl,_⟩
  refine z6<|ym ?_
  exact rM.of (by rw[if_pos c]) ⟨_,.refl _,rfl⟩
 ·refine zd<|ym ?_
  exact rM.of (io:=io) (by rw[if_neg (by rw[show t=false from c];decide),w5]) ⟨_,.refl _,rfl⟩
set_option maxHeartbeats 4000000 in
theorem D5 (f:ad) (hf:small f) (hS:bx f) (hE:bF f) (l:List be) (hll:l.length=f.vars.length) (hok:∀u:Int,0≤u→cY (lv l u)) (up:Bool) (i io:Nat) (es:List dI) (hb:es.length≤90000000) (x:aN) (ho:x.op=2∨x.op=3) {xa xb:Int} (hxa:x.args=[xa,xb]) (ha:bz f xa=true) (hb2:bz f xb=true) (block at_:Nat) :
  ba prog E 111 [.po i 0,.agg (cK x),.int .i64 block,.int .i64 at_] (ls f l up i io es) (Az f l up i (es++kW f l up x block at_)):=by
 have ha0:=(bH ha).1
 have hb0:=(bH hb2).1
 have e0:x0 x=xa:=by unfold x0;rw[hxa];rfl
 have e1:x1 x=xb:=by unfold x1;rw[hxa];rfl
 have hofa:=fun X=>ba.lendP (E:=E) (i:=i) (T:=150) (fun _ _ _ h=>wQ h) (ny f hS l hll up X ha)
 have hofb:=fun X=>ba.lendP (E:=E) (i:=i) (T:=150) (fun _ _ _ h=>wQ h) (ny f hS l hll up X hb2)
 have hchk:=fun X=>ba.lendP (E:=E) (i:=i) (T:=150) (fun _ _ _ h=>wR h) (D4 f hf hS hE l up X x ho hxa block at_)
 have hfit:=L7 (E:=E) x.op (x.op - 2).toNat (by omega) (by omega) (gf (f:=f) hok ha0) (gf (f:=f) hok hb0)
 obtain ⟨F,hF⟩:∃F,gN f l x=F:=⟨_,rfl⟩
 obtain ⟨C,hC⟩:∃C,kq f x block at_=C:=⟨_,rfl⟩
 have hF2:=hF
 unfold gN at hF2
 rw[e0,e1] at hF2
 rw[hF2] at hfit
 rw[hC] at hchk
 have het:=fun X=>lS (E:=E) f hS l hll up i X hb2 true
 have heb:=fun X=>lS (E:=E) f hS l hll up i X hb2 false
 have hea:=fun X=>lS (E:=E) f hS l hll up i X ha false
 obtain ⟨tt,htt⟩:∃t,dz (dW f l xb) (ff f l up xb true)=t:=⟨_,rfl⟩
 obtain ⟨tb,htb⟩:∃t,dz (dW f l xb) (ff f l up xb false)=t:=⟨_,rfl⟩
 obtain ⟨ta,hta⟩:∃t,dz (dW f l xa) (ff f l up xa false)=t:=⟨_,rfl⟩
 have hsu:kW f l up x block at_=if (F||C)=true then (if x.op=3 then (if tt=true then[(xa,x.dst,IntKind.i64.wrap (0 - ff f l up xb true))] else[]) else (if tb=true then[(xa,x.dst,ff f l up xb false)] else[])++(if ta=true then[(xb,x.dst,ff f l up xa false)] else[])) else[]:=by
  unfold kW;rw[hF,hC,e0,e1,KL (gf hok hb0) htt,AA htb,AA hta]
 rw[hsu]
 rw[htt] at het
 rw[htb] at heb
 rw[hta] at hea
 refine ba.tab ?_
 unfold ls fV
 refine zo func111 Z (by decide) Z<|ah<|yb (cs:=_) Z Z Z<|z6<|zc<|y7 (fun j=>false) (by kernel_rfl) Z (zn (.rest _))<|au 0 Z (cA j8 Z jg Z Z)<|au 1 Z (iS jn Z)<|au 2 Z (bD 0 j9 ja Z Z Z (by rw[hxa];rfl)) ?_
 refine au 3 Z (du jc Z)<|au 4 Z (cA j8 Z jg Z Z)<|au 5 Z (iS jn Z)<|au 6 Z (bD 1 j9 ja Z Z Z (by rw[hxa];rfl)) ?_
 refine au 7 Z (du jc Z)<|au 8 Z (Fa Z)<|au 9 Z (Fa Z)<|bY<|zc<|zc<|yf (γ:=Bool) [0,5,8,9] (fun u=>[(41,.bool u)]) (fun u=>[(i,.cells 150 (fV f l up (.own io es.length))),(io,.grow 3 72 (eC es))]) (fun u=>u=!(F||C)) ?_ (fun _ _ h=>h) ?_
 ·refine y7 (fun j=>false) (by kernel_rfl) Z (zn (.rest _))<|au 0 Z (cA j8 Z Zq Z Z)<|au 1 Z (du Zz Z)<|au 2 Z (l2 Z)<|au 3 Z (cG Z)<|au 5 Z (l2 Z)<|au 6 Z (cG Z)<|aV 4 Z<|zu Z (zn (.l (.r (.rest _)))) (hofa _) ?_
  rintro r28 O28 ⟨rfl,rfl⟩
  refine z6<|aV 7 Z<|zu Z (zn (.l (.r (.rest _)))) (hofb _) ?_
  rintro r31 O31 ⟨rfl,rfl⟩
  refine z6<|aV 8 Z<|ze (hfit) Z<|z6<|au 9 Z (Gv.not Z)<|au 10 Z (l5 Z)<|q4 (s:=34) Z (fun cF=>?_) (fun cF=>?_)
  ·have hFf:F=false:=by simpa using cF
   refine bB 11 Z Z Z cF (l2 Z)<|bB 12 Z Z Z cF (yk Ye Z9 Z Z)<|bB 13 Z Z Z cF (cG Z)<|bB 14 Z Z Z cF (cG Z)<|aV 15 Z<|z8 Z Z cF<|zu Z (zn (.l (.r (.rest _)))) (hchk _) ?_
   rintro r39 O39 ⟨rfl,rfl⟩
   refine z6<|bB 16 Z Z Z cF (Gv.not Z)<|au 17 Z (oB Z cF Z)<|bY ?_
   exact ⟨_,e7,aG,aC,by rw[hFf];rfl⟩
  ·have hFt:F=true:=by simpa using cF
   refine bi 11 Z Z Z cF<|bi 12 Z Z Z cF<|bi 13 Z Z Z cF<|bi 14 Z Z Z cF<|bi 15 Z Z Z cF<|bi 16 Z Z Z cF<|au 17 Z (kY Z cF Z)<|bY ?_
   exact ⟨_,e7,aG,aC,by rw[hFt];rfl⟩
 ·rintro u hu
  subst hu
  refine zt Z (fun c=>?_) (fun c=>?_)
  ·refine zg<|ym ?_
   exact rM.of (io:=io) (by rw[if_neg (by simpa using c),w5]) ⟨_,.refl _,rfl⟩
  ·rw[if_pos (show (F||C)=true by cases h:(F||C);(rw[h] at c;cases c);rfl)]
   refine zd<|zc<|ah<|ae j8 Z Zq Z Z<|ax Zz Z<|aj Z Z<|z6<|zp Z (fun c3=>?_) (fun c3=>?_)
   ·rw[if_pos c3]
    refine zc<|ah<|aY Z<|aa Z<|zu Z (zn (.l (.r (.rest _)))) (het _) ?_
    rintro r48 O48 ⟨rfl,rfl⟩
    refine za (m6 Z)<|za (mq Z Z)<|za (sH Z Z)<|ay Z<|ac Z<|z6<|ah<|ai Z<|z6<|zt Z (fun ct=>?_) (fun ct=>?_)
    ·refine aM<|aY Z<|ae j8 Z ja Z Z<|ax jc Z<|aa Z<|aa Z<|za (Gv.neg Z)<|zu Z (zn (.l (.l (.rest _)))) (bl f l up i io es (by omega) x.dst xa (IntKind.i64.wrap (0 - ff f l up xb true))) ?_
     rintro r58 O58 ⟨jo,rfl,rfl,_⟩
     refine z6<|zg<|ym ?_
     exact rM.of (by rw[if_pos ct]) ⟨_,.refl _,rfl⟩
    ·refine zd<|zg<|ym ?_
     exact rM.of (io:=io) (by rw[if_neg (by rw[show tt=false from ct];decide),w5]) ⟨_,.refl _,rfl⟩
   ·rw[if_neg c3]
    refine zd<|zc<|ah<|aY Z<|aa Z<|zu Z (zn (.l (.r (.rest _)))) (heb _) ?_
    rintro r62 O62 ⟨rfl,rfl⟩
    refine za (m6 Z)<|za (mq Z Z)<|za (sH Z Z)<|ay Z<|ac Z<|z6<|ah<|ai Z<|z6<|yf (γ:=List dI × Nat) [0,5,8,9] (fun g=>[]) (fun g=>[(i,.cells 150 (fV f l up (.own g.2 g.1.length))),(g.2,.grow 3 72 (eC g.1))]) (fun g=>g.1=es++(if tb=true then[(xa,x.dst,ff f l up xb false)] else[])∧g.1.length≤es.length+1) ?_ (fun _ _ h=>h) ?_
    ·refine zt Z (fun ct=>?_) (fun ct=>?_)
     ·refine aM<|aY Z<|ae j8 Z ja Z Z<|ax jc Z<|aa Z<|aa Z<|zu Z (zn (.l (.l (.rest _)))) (bl f l up i io es (by omega) x.dst xa (ff f l up xb false)) ?_
      rintro r71 O71 ⟨jo,rfl,rfl,_⟩
      refine z6 ?_
      exact ⟨(es++[(xa,x.dst,ff f l up xb false)],jo),e7,trivial,aC,by dsimp only;rw[if_pos ct];exact ⟨rfl,by simp⟩⟩
     ·refine zd ?_
      exact ⟨(es,io),e7,trivial,aC,by dsimp only;rw[if_neg (by rw[show tb=false from ct];decide)];exact ⟨by simp,by omega⟩⟩
    ·rintro ⟨es2,io⟩ ⟨hes2,hle2⟩
     rw[←qs,←hes2]
     clear hes2
     refine ah<|aY Z<|aa Z<|zu Z (zn (.l (.r (.rest _)))) (hea _) ?_
     rintro r75 O75 ⟨rfl,rfl⟩
     refine za (m6 Z)<|za (mq Z Z)<|za (sH Z Z)<|ay Z<|ac Z<|z6<|ah<|ai Z<|z6<|zt Z (fun ct=>?_) (fun ct=>?_)
     ·refine aM<|aY Z<|ae j8 Z ja Z Z<|ax jc Z<|aa Z<|aa Z<|zu Z (zn (.l (.l (.rest _)))) (bl f l up i io es2 (by dsimp only at hle2;omega) x.dst xb (ff f l up xa false)) ?_
      rintro r84 O84 ⟨jo,rfl,rfl,_⟩
      refine z6<|ym ?_
      exact rM.of (by rw[if_pos ct]) ⟨_,.refl _,rfl⟩
     ·refine zd<|ym ?_
      exact rM.of (io:=io) (by rw[if_neg (by rw[show ta=false from ct];decide),w5]) ⟨_,.refl _,rfl⟩
set_option linter.defProp false
def yu:=@rM.of
end
end Go.Proofs.YtbanfokidalbaaaGreatDoor
