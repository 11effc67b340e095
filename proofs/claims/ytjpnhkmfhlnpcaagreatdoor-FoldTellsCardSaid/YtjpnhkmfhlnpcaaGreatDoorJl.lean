/- Joined programs, as the laws ask. Of programs that are little. -/
import Derived.Test.YtjpnhkmfhlnpcaaGreatDoorJk
import Derived.Test.YtjpnhkmfhlnpcaaGreatDoorJc
import Derived.Test.YtjpnhkmfhlnpcaaGreatDoorJi
import Derived.Test.YtjpnhkmfhlnpcaaGreatDoorJj
set_option linter.unusedVariables false
set_option linter.unusedSimpArgs false
set_option linter.unusedSectionVars false
namespace Go.Proofs.YtjpnhkmfhlnpcaaGreatDoor
section
open Go.Proofs.Tryz
open Go.Proofs Go.Lib Go.Shelf Go.RowKit
variable {E:World}
set_option maxRecDepth 20000
theorem xX {l:List Int} {f:ae} {k:Nat} {b:az} (h:f.blocks[k]?=some b):((bp l f).blocks.take k++f.blocks.drop k)=(bp l f).blocks.take k++b::f.blocks.drop (k+1):=by
 obtain ⟨h1,rfl⟩:=List.getElem?_eq_some_iff.1 h
 rw[←List.drop_eq_getElem_cons h1]
theorem xY (f:ae) (hf:small f) (hL:ah E) (ht:(aS f&&bZ f)=false) (l:List Int):aT prog E 7 [.agg (bC f),.fro 1 (l.map bh)] (.tup [.agg [.raw (.slice none 0 0),.raw (.slice none 0 0),.raw (.slice none 0 0)],.int .i64 3]):=by
 have hty:=eu (E:=E) f hf hL
 rw[if_neg (by rw[ht];decide)] at hty
 refine zo func7 Z (by decide) Z<|ai<|y9 (cs:=_) Z Z Z<|zp (cs:=[.raw (.slice none 0 0),.raw (.slice none 0 0),.raw (.slice none 0 0)]) jq Z Z<|fun i4=>aw Z<|z7<|zb<|ai<|ab jh j8 Z Z<|ze (hty) Z<|aw Z<|z7<|ai<|aa Z<|aG Z Z<|z7<|yi Z Z<|ai<|za (zw (cps:=[]) (rs:=[.raw (.slice none 0 0),.raw (.slice none 0 0),.raw (.slice none 0 0)]) eM Z Z Z)<|aa Z<|zm j8 Z Z Z Z Z Z .head Z<|aw Z<|z7<|zg<|dh.c1t (y:=.int _ _) Z Z ⟨_,.head⟩ jh j8 Z ?_
 rfl
theorem rl (f:ae) (hf:small f) (hL:ah E) (ht:(aS f&&bZ f)=true) (l:List Int) (hl:l.length≠f.blocks.length) (hl2:l.length≤9223372036854775807):aT prog E 7 [.agg (bC f),.fro 1 (l.map bh)] (.tup [.agg [.raw (.slice none 0 0),.raw (.slice none 0 0),.raw (.slice none 0 0)],.int .i64 1]):=by
 have hfb:=hf.2.2.1
 have hty:=eu (E:=E) f hf hL
 rw[if_pos ht] at hty
 refine zo func7 Z (by decide) Z<|ai<|y9 (cs:=_) Z Z Z<|zp (cs:=[.raw (.slice none 0 0),.raw (.slice none 0 0),.raw (.slice none 0 0)]) jq Z Z<|fun i4=>aw Z<|z7<|zb<|ai<|ab jh j8 Z Z<|ze (hty) Z<|aw Z<|z7<|ai<|aa Z<|aG Z Z<|z7<|yd Z Z<|zf<|zb<|ai<|aX Z<|ac j4 Z<|ap j6 Z ji Z Z<|aP js Z<|ac ja Z<|aG Z Z<|z7<|yi Z (by simp;omega)<|ai<|za (zw (cps:=[]) (rs:=[.raw (.slice none 0 0),.raw (.slice none 0 0),.raw (.slice none 0 0)]) eM Z Z Z)<|zm j8 Z Z Z Z Z Z .head Z<|aw Z<|z7<|zg<|dh.c1t (y:=.int _ _) Z Z ⟨_,.head⟩ jh j8 Z ?_
 rfl
set_option maxHeartbeats 8000000 in
theorem wz (f:ae) (hf:small f) (hL:ah E) (ht:(aS f&&bZ f)=true) (l:List Int) (hl:l.length=f.blocks.length):aT prog E 7 [.agg (bC f),.fro 1 (l.map bh)] (.tup [.agg (bC (bt (bp l f))),.int .i64 0]):=by
 obtain ⟨hf1,hf2,hf3,hf4,hf5⟩:=id hf
 have htj:=(qg _ _).mp ht
 have hty:=eu (E:=E) f hf hL
 rw[if_pos ht] at hty
 have hpr:=wx (E:=E) (bp l f) (iJ hf) hL (fQ htj.1) (py htj.1 ((kx f).1 htj.2))
 refine zo func7 Z (by decide) Z<|ai<|y9 (cs:=_) Z Z Z<|zp (cs:=[.raw (.slice none 0 0),.raw (.slice none 0 0),.raw (.slice none 0 0)]) jq Z Z<|fun i4=>aw Z<|z7<|zb<|ai<|ab jh j8 Z Z<|ze (hty) Z<|aw Z<|z7<|ai<|aa Z<|aG Z Z<|z7<|yd Z Z<|zf<|zb<|ai<|aX Z<|ac j4 Z<|ap j6 Z ji Z Z<|aP js Z<|ac ja Z<|aG Z Z<|z7<|yd Z (by rw[hl];simp)<|zf<|ai<|ab jh j8 Z Z<|ao.callA Z (yh (.r (.rest _))) ((nk f hf).exact) ?_
 rintro r25 O25 ⟨ib,rfl,rfl,_⟩
 refine zp (cs:=[.raw (.slice none 0 0),.raw (.slice none 0 0),.raw (.slice none 0 0)]) jq Z Z<|fun i7=>zm j8 Z Z Z Z Z Z .head Z<|z7<|zb<|ai<|aX Z<|ac j4 Z<|aa Z<|z7<|zz (zn (zq .t2))<|zz (zn (zq .t1))<|zz (zn (zq .t2)) ?_
 have hz:(bp l f).blocks.take 0++f.blocks.drop 0=f.blocks:=by rw[List.take_zero,List.drop_zero];rfl
 refine zh<|y7 (γ:=Nat) [4,7,26,27] (fun k=>[(28,.int .i64 k)]) (fun k=>[(ib,.grow 7 60 (((bp l f).blocks.take k++f.blocks.drop k).map aE).flatten),(i7,.cells 26 [.fro 2 (f.vars.map ba),.fro 1 (f.params.map bh),.own ib f.blocks.length]),(i4,.cells 26 [.raw (.slice none 0 0),.raw (.slice none 0 0),.raw (.slice none 0 0)])]) (fun k=>k≤f.blocks.length) (fun k=>f.blocks.length - k) 0 aV ⟨_,(.refl _),by rw[hz]<;>rfl⟩ (q5 _) ?_
 rintro k hk
 refine ai<|ay Z Z<|z7<|zb<|zt Z (fun ck=>?_) (fun ck=>?_)
 ·have hk2:k<f.blocks.length:=by simp at ck;omega
  obtain ⟨b,hb⟩:∃b,f.blocks[k]?=some b:=⟨_,q2 hk2⟩
  have hbm:=qb hb
  have hlk:=xW (l:=l) (k:=k) (by omega)
  obtain ⟨w,hw⟩:∃w,(l[k]?).getD 0=w:=⟨_,rfl⟩
  rw[hw] at hlk
  have hfb:fy l k b={ b with term:=bT w b.term }:=by unfold fy;rw[hw]
  obtain ⟨P,hP⟩:∃P,(((bp l f).blocks.take k).map aE).flatten=P:=⟨_,rfl⟩
  obtain ⟨S,hS⟩:∃S,((f.blocks.drop (k+1)).map aE).flatten=S:=⟨_,rfl⟩
  have hPl:P.length=k*7:=by rw[←hP,iI,ml hk]
  have hSl:S.length=(f.blocks.length - (k+1))*7:=by rw[←hS,iI,List.length_drop]
  have hcell:(((bp l f).blocks.take k++f.blocks.drop k).map aE).flatten=P++(([.str b.name,.fro 3 (b.phis.map aL),.fro 4 (b.insts.map aZ),.int .i64 b.term.kind,.int .i64 b.term.var,.int .i64 b.term.to0,.int .i64 b.term.to1]:List AV)++S):=by
   rw[xX hb,List.map_append,List.flatten_append,hP,List.map_cons,List.flatten_cons,hS];rfl
  have hcl:∀a c d e,(P++(([.str b.name,.fro 3 (b.phis.map aL),.fro 4 (b.insts.map aZ),a,c,d,e]:List AV)++S)).length=f.blocks.length*7:=fun a c d e=>by
   rw[q8,q8,hPl,hSl]
   show k*7+(7+_)=_
   omega
  have hnext:(((bp l f).blocks.take (k+1)++f.blocks.drop (k+1)).map aE).flatten=P++(([.str b.name,.fro 3 (b.phis.map aL),.fro 4 (b.insts.map aZ),.int .i64 (bT w b.term).kind,.int .i64 (bT w b.term).var,.int .i64 (bT w b.term).to0,.int .i64 (bT w b.term).to1]:List AV)++S):=by
   rw[mj hb,hfb,q4,List.map_append,List.flatten_append,hP,List.singleton_append,List.map_cons,List.flatten_cons,hS];rfl
  rw[hcell]
  refine zf<|zb<|zh<|ai<|aa Z<|za (dG k j4 j9 Z Z Z hlk)<|aF jf Z<|aw Z<|aw Z<|z7<|ai<|za (zd j6 Z ji (by decide) Z Z)<|za (zj (c:=.own _ _) js Z ⟨_,.t1⟩ Z)<|aa Z<|za (Gv.idxO (j:=k) ja jj Z Z Z ⟨_,.head⟩ (fun h=>by have:=hcl (.int .i64 0) (.int .i64 0) (.int .i64 0) (.int .i64 0);have h2:=congrArg List.length h;simp at h2) hk2)<|za (zd j5 Z jn (by decide) Z Z)<|za (Fk Z)<|z7<|ai<|za (An Z)<|za (yw Z)<|za (zd j7 Z Z2 (by decide) Z Z)<|za (Gv.load1G (c:=_) Z6 Z ⟨_,.head⟩ (gG hPl 3))<|aq Z Z<|aj Z<|zk (s:=43) Z (fun c1=>?_) (fun c1=>?_)
  ·have h1:b.term.kind=1:=by simpa using c1
   refine z8 Z Z c1<|aa Z<|z8 Z Z c1<|aq Z Z<|z8 Z Z c1<|aj Z<|zk (s:=46) Z (fun c2=>?_) (fun c2=>?_)
   ·have h2:w=1:=by simpa using c2
    have e:bT w b.term=⟨0,0,b.term.to0,0⟩:=by unfold bT;rw[if_pos h1,if_pos h2]
    rw[e] at hnext
    refine z6 Z Z c2<|z6 Z Z c2<|z8 Z Z c1<|ak Z c2 Z<|ak Z c1 Z<|z7<|yi Z Z<|bg<|za (An Z)<|za (An Z)<|aa Z<|za (Gv.sub Z Z (by unfold nK;omega))<|za (yw Z)<|za (zd j7 Z jr (by decide) Z Z)<|za (q1 (j:=0) jg j9 Z Z (by omega) (by decide) Z)<|za (Gv.load1G (c:=_) jf Z ⟨_,.head⟩ (gG hPl 5))<|za (Gv.buildA (cps:=[(0,[_]),(1,[_])]) (rs:=[_,_]) vT Z Z Z)<|za (zw (cps:=[(2,[_,_])]) (rs:=[.int .i64 0,.int .i64 0,_,_]) Bk Z Z Z)<|za (yw Z)<|ao.storeG (l:=[_,_,_,_]) (new:=(((bp l f).blocks.take (k+1)++f.blocks.drop (k+1)).map aE).flatten) jn Z Z Z Z Z Z .head (show k*7+3+4≤_ from Nat.le_trans (m:=f.blocks.length*7) (by omega) (Nat.le_of_eq (hcl _ _ _ _).symm)) (by decide) (by rw[hnext];show List.take (k*7+3) _++_++List.drop (k*7+3+4) _=_;rw[pI hPl 3,Nat.add_assoc,gG hPl (3+4),q4,q4];rfl)<|z7<|bg<|aB Z Z<|aa Z<|z7 ?_
    exact ⟨k+1,fv,aV,aU,hk2,by omega⟩
   ·have h2:¬w=1:=by simpa using c2
    refine z8 Z Z c2<|aa Z<|z8 Z Z c2<|aq Z Z<|z8 Z Z c1<|al Z c2 Z<|ak Z c1 Z<|z7<|zu Z (fun c3=>?_) (fun c3=>?_)
    ·have h3:w=2:=by simpa using c3
     have e:bT w b.term=⟨0,0,b.term.to1,0⟩:=by unfold bT;rw[if_pos h1,if_neg h2,if_pos h3]
     rw[e] at hnext
     refine bg<|za (An Z)<|za (An Z)<|aa Z<|za (Gv.sub Z Z (by unfold nK;omega))<|za (yw Z)<|za (zd j7 Z jr (by decide) Z Z)<|za (q1 (j:=1) jg j9 Z Z (by omega) (by decide) Z)<|za (Gv.load1G (c:=_) jf Z ⟨_,.head⟩ (gG hPl 6))<|za (Gv.buildA (cps:=[(0,[_]),(1,[_])]) (rs:=[_,_]) vT Z Z Z)<|za (zw (cps:=[(2,[_,_])]) (rs:=[.int .i64 0,.int .i64 0,_,_]) Bk Z Z Z)<|za (yw Z)<|ao.storeG (l:=[_,_,_,_]) (new:=(((bp l f).blocks.take (k+1)++f.blocks.drop (k+1)).map aE).flatten) jn Z Z Z Z Z Z .head (show k*7+3+4≤_ from Nat.le_trans (m:=f.blocks.length*7) (by omega) (Nat.le_of_eq (hcl _ _ _ _).symm)) (by decide) (by rw[hnext];show List.take (k*7+3) _++_++List.drop (k*7+3+4) _=_;rw[pI hPl 3,Nat.add_assoc,gG hPl (3+4),q4,q4];rfl)<|z7<|bg<|aB Z Z<|aa Z<|z7 ?_
     exact ⟨k+1,fv,aV,aU,hk2,by omega⟩
    ·have h3:¬w=2:=by simpa using c3
     have e:bT w b.term=b.term:=by unfold bT;rw[if_pos h1,if_neg h2,if_neg h3]
     rw[e] at hnext
     refine zf<|bg<|aB Z Z<|aa Z<|z7 ?_
     exact ⟨k+1,fv,aV,⟨_,(.refl _),by rw[hnext]<;>rfl⟩,hk2,by omega⟩
  ·have h1:¬b.term.kind=1:=by simpa using c1
   have e:bT w b.term=b.term:=by unfold bT;rw[if_neg h1]
   rw[e] at hnext
   refine z6 Z Z c1<|z6 Z Z c1<|z6 Z Z c1<|zc Z Z<|zc Z Z<|z6 Z Z c1<|al Z c1 Z<|z7<|yd Z Z<|zf<|bg<|aB Z Z<|aa Z<|z7 ?_
   exact ⟨k+1,fv,aV,⟨_,(.refl _),by rw[hnext]<;>rfl⟩,hk2,by omega⟩
 ·obtain rfl:k=f.blocks.length:=by simp at ck;omega
  have he:(bp l f).blocks.take f.blocks.length++f.blocks.drop f.blocks.length=(bp l f).blocks:=by rw[List.take_of_length_le (Nat.le_of_eq eD),List.drop_length,List.append_nil]
  rw[he]
  refine zz (yq (off:=2) (rows:=(bp l f).blocks.map aE) .head .head Z (by intro r hr;obtain ⟨z,_,rfl⟩:=List.mem_map.1 hr;rfl) (by decide) (by rw[q9,eD]))<|zy<|ai<|za (yr jh j8 Z ⟨_,.head⟩ Z)<|ze (hpr) Z<|za (Gv.extract (v:=.agg _) Z Z)<|za (xi Z Z)<|zm j8 Z Z Z Z Z Z .t1 Z<|aw Z<|z7<|zg<|dh.c1t (y:=.int _ _) Z Z ⟨_,.t1⟩ jh j8 Z ?_
  rfl
end
section
open Go.Proofs.Tryz
open Go.Proofs
def Di (x y:AV):Prop:=∀I v,bH I x v→bH I y v
def wA (xs ys:List AV):Prop:=∀I vs,RepL I xs vs→RepL I ys vs
theorem Di.nil (k:Nat):Di (.raw (.slice none 0 0)) (.fro k []):=fun _ _ h=>⟨none,0,0,h,rfl,Nat.le_refl _,fun _=>rfl,trivial⟩
theorem wA.nil:wA [] []:=fun _ _ h=>h
theorem wA.cons {x y:AV} {xs ys:List AV} (h:Di x y) (hs:wA xs ys):wA (x::xs) (y::ys):=fun I _ ⟨v,us,e,h1,h2⟩=>⟨v,us,e,h I v h1,hs I us h2⟩
theorem Di.agg {xs ys:List AV} (h:wA xs ys):Di (.agg xs) (.agg ys):=fun I _ ⟨vs,e,h1⟩=>⟨vs,e,h I vs h1⟩
end
section
open Go.Proofs.Tryz
open Go.Proofs Go.Lib Go.Shelf Go.RowKit
variable {E:World}
set_option maxRecDepth 20000
def jE (f:ae) (k:Nat):List Int:=(List.range f.blocks.length).map fun (b:Nat)=>if b<k then (dH f b:Int) else 0
theorem mm (f:ae) (k:Nat):(jE f k).length=f.blocks.length:=by unfold jE;simp
theorem wC (f:ae):jE f 0=List.replicate f.blocks.length 0:=by
 apply List.ext_getElem
 ·simp[jE]
 ·intro i h1 h2;simp[jE]
theorem pJ {f:ae} {k i:Nat} (h:i<(jE f k).length):(jE f k)[i]=if i<k then (dH f i:Int) else 0:=by
 simp[jE]
theorem pK {f:ae} {k:Nat} (h:k<f.blocks.length):(jE f k).set k (dH f k:Int)=jE f (k+1):=by
 apply List.ext_getElem
 ·simp[jE]
 ·intro i h1 h2
  rw[List.getElem_set,pJ,pJ]
  by_cases e:k=i
  ·subst e;rw[if_pos rfl,if_pos (by omega)]
  ·rw[if_neg e]
   by_cases hl:i<k
   ·rw[if_pos hl,if_pos (by omega)]
   ·rw[if_neg hl,if_neg (by omega)]
theorem mn {f:ae} (hE:bk f) {b:Int} (hb:b∈eh f):(jE f f.blocks.length)[b.toNat]?=some (bO f b):=by
 have h:=bm hE.grph.toEOk hb
 have h2:=n5 hE b.toNat
 rw[Int.toNat_of_nonneg h.1,if_pos hb] at h2
 unfold jE
 rw[qa,List.getElem?_range (by omega),h2]
 show some (if b.toNat<_ then _ else _)=_
 rw[if_pos (by omega)]
theorem ka {f:ae} (hE:bk f) {b:Int} (h0:0≤b) (h1:b<f.blocks.length):(fq (au f) f.blocks.length (-1))[b.toNat]?=some (decide (b∈eh f)):=by
 rw[xK (au f) (show b.toNat<f.blocks.length by omega) (-1),Int.toNat_of_nonneg h0]
 congr 1
 rw[Bool.eq_iff_iff,qh,←Int.toNat_of_nonneg h0,xL (by omega),AB hE.grph]
 exact (gJ hE.grph.toEOk _).symm
theorem wD (l:List az):((l.map aE).flatten).length=l.length*7:=bW (k:=7) (fun _=>rfl) l
theorem wE (l:List bM):((l.map aL).flatten).length=l.length*3:=bW (k:=3) (fun _=>rfl) l
theorem wF (l:List bB):((l.map aZ).flatten).length=l.length*4:=bW (k:=4) (fun _=>rfl) l
theorem ny {α:Type} (enc:α→List AV) (l:List α) (x:α):(((l++[x]).map enc).flatten)=((l.map enc).flatten)++enc x:=by rw[List.map_append,List.flatten_append];simp
theorem nz {α:Type} {l:List α} {k:Nat} {x:α} (h:l[k]?=some x):l.take (k+1)=l.take k++[x]:=by rw[List.take_add_one,h];rfl
theorem de (l:List iU):((l.map ba).flatten).all AV.cell=true:=by induction l<;>simp_all[ba,AV.cell]
set_option maxHeartbeats 16000000 in
theorem mY (f:ae) (hf:small f) (hE:bk f) (hS:bw f):aT prog E 26 [.agg (bC f)] (.agg (bC (bt f))):=by
 obtain ⟨hf1,hf2,hn,hf4,hf5⟩:=id hf
 have hG:=hE.grph
 refine zo func26 Z (by decide) Z<|ai<|y9 (cs:=_) Z Z Z<|zp (cs:=[.raw (.slice none 0 0),.raw (.slice none 0 0),.raw (.slice none 0 0)]) jq Z Z<|fun i2=>z7<|ai<|ab jh j8 Z Z<|ze (nZ f hE hn (-1)) Z<|za (w8 Z)<|z7<|ai<|ap j6 Z ji Z Z<|aP js Z<|ac ja Z<|ao.makeI (m:=f.blocks.length) j4 Z4 Z Z Z Z Z (by simp) (by simp) (by show (8:Int)*_≤_;omega) (by omega)<|fun i23=>za (mQ Z)<|aw Z<|z7<|zb<|ai<|za (iL Z)<|za (Gv.lenO j4 Z)<|aa Z<|z7<|zh<|y7 (γ:=Nat) [1,2,3,4,25] (fun g=>[(26,.int .i64 g),(5,.int .i64 (dH f g))]) (fun g=>[(i23,.grow 1 3 (cI (jE f g))),(i2,.cells 26 [.raw (.slice none 0 0),.raw (.slice none 0 0),.raw (.slice none 0 0)])]) (fun g=>g≤f.blocks.length) (fun g=>f.blocks.length - g) 0 fF ⟨_,(.refl _),by rw[wC]<;>rfl⟩ (q5 _) ?_
 rintro k hk
 refine ai<|ay Z Z<|z7<|zb<|zt Z (fun ck=>?_) (fun ck=>?_)
 ·have hk2:k<f.blocks.length:=by omega
  have hcl:=k8 f k
  have hgb:=ka hE (b:=(k:Int)) (by omega) (by omega)
  rw[Int.toNat_natCast] at hgb
  refine zf<|zb<|zh<|ai<|aa Z<|aw Z<|z7<|ai<|za (iL Z)<|aa Z<|aa Z<|za (Gv.idxI (j:=k) j4 j9 Z Z Z ⟨_,.head⟩ (by rw[cC,mm]) hk2)<|ao.storeI (j:=k) j9 Z Z .head (by rw[mm];exact hk2)<|z7<|ai<|aX Z<|aa Z<|za (dG k jx Z9 Z Z Z hgb)<|za (Gv.load1F (c:=.bool _) isAgg4 Z)<|z7<|zt Z (fun cr=>?_) (fun cr=>?_)
  ·have cr:(k:Int)∈eh f:=by first|exact cr|(have h:=cr;simp at h;exact h)
   refine bg<|aa Z<|aB Z Z<|aw Z<|z7<|bg<|aB Z Z<|aa Z<|z7 ?_
   exact ⟨k+1,Ao,⟨rfl,congrArg (AV.int .i64) (by rw[dD,if_pos cr];push_cast;rfl),trivial⟩,⟨_,(.refl _),by rw[←pK hk2]⟩,hk2,by omega⟩
  ·have cr:¬(k:Int)∈eh f:=by first|exact cr|(have h:=cr;simp at h;exact h)
   refine zf<|bg<|aB Z Z<|aa Z<|z7 ?_
   exact ⟨k+1,Ao,⟨rfl,congrArg (AV.int .i64) (by rw[dD,if_neg cr];push_cast;omega),trivial⟩,⟨_,(.refl _),by rw[←pK hk2]⟩,hk2,by omega⟩
 ·obtain rfl:k=f.blocks.length:=by omega
  refine zz (bc.knowI (t:=4) Z .head (mm f _))<|zy<|zb<|yn (γ:=Nat × Nat × Nat) [1,2,3,4] (fun g=>[(7,.po g.1 0)]) (fun g=>[(g.1,.cells 26 [.own g.2.1 (0+(f.vars.map ba).length),.own g.2.2 (0+(f.params.map bh).length),.raw (.slice none 0 0)]),(g.2.1,.grow 2 66 ([]++(f.vars.map ba).flatten)),(g.2.2,.grow 1 3 ([]++(f.params.map bh).flatten)),(i2,.cells 26 [.raw (.slice none 0 0),.raw (.slice none 0 0),.raw (.slice none 0 0)])]) (fun g=>True) ?_ (fun _ _ h=>h) ?_
  ·refine ya (fun j=>Nat.beq j 10) (by kernel_rfl) Z (yh (.rest _))<|aN 1 Z (f9 j6 Z Za Z Z)<|aN 2 Z (lx Zi Z)<|aN 5 Z (f9 j6 Z je Z Z)<|aN 6 Z (lx jm Z)<|bz.three (i:=0) (j:=4) (m:=9) Z Z Z (by kernel_rfl) ?_ ?_ ?_
   ·refine yg (k:=2) jk Zn<|fun i40=>z7<|bz.three (i:=3) (j:=4) (m:=9) Z Z Z (by kernel_rfl) ?_ ?_ ?_
    ·refine zr (k:=2) jk Zn Z Z Z Z Z (fun _=>.head) Z (by decide) (de _) (by rw[q9];show (0+_)*24≤_;omega) (by rw[q9];omega)<|fun i43=>z7<|yv (i:=4) (j:=9) Z Z (by kernel_rfl) ?_ ?_
     ·refine yg (k:=1) j4 Z4<|fun i44=>z7<|yv (i:=7) (j:=9) Z Z (by kernel_rfl) ?_ ?_
      ·refine zr (k:=1) j4 Z4 Z Z Z Z Z (fun _=>.head) Z (by decide) (by rw[←dv];exact cH _) (by rw[q9];show (0+_)*8≤_;omega) (by rw[q9];omega)<|fun i47=>z7<|aN 8 Z (zw (cps:=[(0,[_]),(1,[_])]) (rs:=[_,_,.raw (.slice none 0 0)]) eM Z Z Z)<|cP 9 Z<|zp (cs:=[.raw (.slice none 0 0),.raw (.slice none 0 0),.raw (.slice none 0 0)]) jq Z Z<|fun i7=>z7<|yc<|ye (i:=10) Z (by kernel_rfl) (by kernel_rfl)<|zm j8 Z Z Z Z Z Z .head Z<|zx (zn (zq .t3))<|zx (zn (zq .t2))<|zx (zn (zq .t3))<|zx (zn (zq .t3))<|z7<|yf (by kernel_rfl) ?_
       exact ⟨(i7,i43,i47),(by repeat (first|with_reducible exact yj _ _|refine br.up rfl ?_|exact fv)),aV,aU,trivial⟩
      ·refine zp (cs:=[.raw (.slice none 0 0),.raw (.slice none 0 0),.raw (.slice none 0 0)]) jq Z Z<|fun i7=>z7<|cP 7 Z<|zr (k:=1) j4 Z4 Z Z Z Z Z (fun _=>.t1) Z (by decide) (by rw[←dv];exact cH _) (by rw[q9];show (0+_)*8≤_;omega) (by rw[q9];omega)<|fun i47=>z7<|aN 8 Z (zw (cps:=[(0,[_]),(1,[_])]) (rs:=[_,_,.raw (.slice none 0 0)]) eM Z Z Z)<|yc<|ye (i:=10) Z (by kernel_rfl) (by kernel_rfl)<|zm j8 Z Z Z Z Z Z .head Z<|zx (zn (zq .t3))<|zx (zn (zq .t2))<|zx (zn (zq .t3))<|zx (zn (zq .t3))<|z7<|yf (by kernel_rfl) ?_
       exact ⟨(i7,i43,i47),(by repeat (first|with_reducible exact yj _ _|refine br.up rfl ?_|exact fv)),aV,aU,trivial⟩
     ·refine zp (cs:=[.raw (.slice none 0 0),.raw (.slice none 0 0),.raw (.slice none 0 0)]) jq Z Z<|fun i7=>z7<|cP 4 Z<|yg (k:=1) j4 Z4<|fun i44=>z7<|cP 7 Z<|zr (k:=1) j4 Z4 Z Z Z Z Z (fun _=>.head) Z (by decide) (by rw[←dv];exact cH _) (by rw[q9];show (0+_)*8≤_;omega) (by rw[q9];omega)<|fun i47=>z7<|aN 8 Z (zw (cps:=[(0,[_]),(1,[_])]) (rs:=[_,_,.raw (.slice none 0 0)]) eM Z Z Z)<|yc<|ye (i:=10) Z (by kernel_rfl) (by kernel_rfl)<|zm j8 Z Z Z Z Z Z .t1 Z<|zx (zn (zq .t3))<|zx (zn (zq .t1))<|zx (zn (zq .t3))<|zx (zn (zq .t3))<|z7<|yf (by kernel_rfl) ?_
      exact ⟨(i7,i43,i47),(by repeat (first|with_reducible exact yj _ _|refine br.up rfl ?_|exact fv)),aV,aU,trivial⟩
    ·refine yg (k:=1) j4 Z4<|fun i44=>z7<|yv (i:=3) (j:=9) Z Z (by kernel_rfl) ?_ ?_
     ·refine zr (k:=2) jk Zn Z Z Z Z Z (fun _=>.t1) Z (by decide) (de _) (by rw[q9];show (0+_)*24≤_;omega) (by rw[q9];omega)<|fun i43=>z7<|yv (i:=7) (j:=9) Z Z (by kernel_rfl) ?_ ?_
      ·refine zr (k:=1) j4 Z4 Z Z Z Z Z (fun _=>.head) Z (by decide) (by rw[←dv];exact cH _) (by rw[q9];show (0+_)*8≤_;omega) (by rw[q9];omega)<|fun i47=>z7<|aN 8 Z (zw (cps:=[(0,[_]),(1,[_])]) (rs:=[_,_,.raw (.slice none 0 0)]) eM Z Z Z)<|cP 9 Z<|zp (cs:=[.raw (.slice none 0 0),.raw (.slice none 0 0),.raw (.slice none 0 0)]) jq Z Z<|fun i7=>z7<|yc<|ye (i:=10) Z (by kernel_rfl) (by kernel_rfl)<|zm j8 Z Z Z Z Z Z .head Z<|zx (zn (zq .t3))<|zx (zn (zq .t2))<|zx (zn (zq .t3))<|zx (zn (zq .t3))<|z7<|yf (by kernel_rfl) ?_
       exact ⟨(i7,i43,i47),(by repeat (first|with_reducible exact yj _ _|refine br.up rfl ?_|exact fv)),aV,aU,trivial⟩
      ·refine zp (cs:=[.raw (.slice none 0 0),.raw (.slice none 0 0),.raw (.slice none 0 0)]) jq Z Z<|fun i7=>z7<|cP 7 Z<|zr (k:=1) j4 Z4 Z Z Z Z Z (fun _=>.t1) Z (by decide) (by rw[←dv];exact cH _) (by rw[q9];show (0+_)*8≤_;omega) (by rw[q9];omega)<|fun i47=>z7<|aN 8 Z (zw (cps:=[(0,[_]),(1,[_])]) (rs:=[_,_,.raw (.slice none 0 0)]) eM Z Z Z)<|yc<|ye (i:=10) Z (by kernel_rfl) (by kernel_rfl)<|zm j8 Z Z Z Z Z Z .head Z<|zx (zn (zq .t3))<|zx (zn (zq .t2))<|zx (zn (zq .t3))<|zx (zn (zq .t3))<|z7<|yf (by kernel_rfl) ?_
       exact ⟨(i7,i43,i47),(by repeat (first|with_reducible exact yj _ _|refine br.up rfl ?_|exact fv)),aV,aU,trivial⟩
     ·refine zp (cs:=[.raw (.slice none 0 0),.raw (.slice none 0 0),.raw (.slice none 0 0)]) jq Z Z<|fun i7=>z7<|cP 3 Z<|zr (k:=2) jk Zn Z Z Z Z Z (fun _=>.t2) Z (by decide) (de _) (by rw[q9];show (0+_)*24≤_;omega) (by rw[q9];omega)<|fun i43=>z7<|cP 7 Z<|zr (k:=1) j4 Z4 Z Z Z Z Z (fun _=>.t1) Z (by decide) (by rw[←dv];exact cH _) (by rw[q9];show (0+_)*8≤_;omega) (by rw[q9];omega)<|fun i47=>z7<|aN 8 Z (zw (cps:=[(0,[_]),(1,[_])]) (rs:=[_,_,.raw (.slice none 0 0)]) eM Z Z Z)<|yc<|ye (i:=10) Z (by kernel_rfl) (by kernel_rfl)<|zm j8 Z Z Z Z Z Z .head Z<|zx (zn (zq .t3))<|zx (zn (zq .t2))<|zx (zn (zq .t3))<|zx (zn (zq .t3))<|z7<|yf (by kernel_rfl) ?_
      exact ⟨(i7,i43,i47),(by repeat (first|with_reducible exact yj _ _|refine br.up rfl ?_|exact fv)),aV,aU,trivial⟩
    ·refine zp (cs:=[.raw (.slice none 0 0),.raw (.slice none 0 0),.raw (.slice none 0 0)]) jq Z Z<|fun i7=>z7<|yv (i:=3) (j:=4) Z Z (by kernel_rfl) ?_ ?_
     ·refine zr (k:=2) jk Zn Z Z Z Z Z (fun _=>.t1) Z (by decide) (de _) (by rw[q9];show (0+_)*24≤_;omega) (by rw[q9];omega)<|fun i43=>z7<|cP 4 Z<|yg (k:=1) j4 Z4<|fun i44=>z7<|cP 7 Z<|zr (k:=1) j4 Z4 Z Z Z Z Z (fun _=>.head) Z (by decide) (by rw[←dv];exact cH _) (by rw[q9];show (0+_)*8≤_;omega) (by rw[q9];omega)<|fun i47=>z7<|aN 8 Z (zw (cps:=[(0,[_]),(1,[_])]) (rs:=[_,_,.raw (.slice none 0 0)]) eM Z Z Z)<|yc<|ye (i:=10) Z (by kernel_rfl) (by kernel_rfl)<|zm j8 Z Z Z Z Z Z .t1 Z<|zx (zn (zq .t3))<|zx (zn (zq .t1))<|zx (zn (zq .t3))<|zx (zn (zq .t3))<|z7<|yf (by kernel_rfl) ?_
      exact ⟨(i7,i43,i47),(by repeat (first|with_reducible exact yj _ _|refine br.up rfl ?_|exact fv)),aV,aU,trivial⟩
     ·refine yg (k:=1) j4 Z4<|fun i44=>z7<|cP 3 Z<|zr (k:=2) jk Zn Z Z Z Z Z (fun _=>.t2) Z (by decide) (de _) (by rw[q9];show (0+_)*24≤_;omega) (by rw[q9];omega)<|fun i43=>z7<|cP 7 Z<|zr (k:=1) j4 Z4 Z Z Z Z Z (fun _=>.head) Z (by decide) (by rw[←dv];exact cH _) (by rw[q9];show (0+_)*8≤_;omega) (by rw[q9];omega)<|fun i47=>z7<|aN 8 Z (zw (cps:=[(0,[_]),(1,[_])]) (rs:=[_,_,.raw (.slice none 0 0)]) eM Z Z Z)<|yc<|ye (i:=10) Z (by kernel_rfl) (by kernel_rfl)<|zm j8 Z Z Z Z Z Z .t1 Z<|zx (zn (zq .t3))<|zx (zn (zq .t1))<|zx (zn (zq .t3))<|zx (zn (zq .t3))<|z7<|yf (by kernel_rfl) ?_
      exact ⟨(i7,i43,i47),(by repeat (first|with_reducible exact yj _ _|refine br.up rfl ?_|exact fv)),aV,aU,trivial⟩
   ·refine yg (k:=1) j4 Z4<|fun i44=>z7<|yv (i:=0) (j:=9) Z Z (by kernel_rfl) ?_ ?_
    ·refine yg (k:=2) jk Zn<|fun i40=>z7<|yv (i:=3) (j:=9) Z Z (by kernel_rfl) ?_ ?_
     ·refine zr (k:=2) jk Zn Z Z Z Z Z (fun _=>.head) Z (by decide) (de _) (by rw[q9];show (0+_)*24≤_;omega) (by rw[q9];omega)<|fun i43=>z7<|yv (i:=7) (j:=9) Z Z (by kernel_rfl) ?_ ?_
      ·refine zr (k:=1) j4 Z4 Z Z Z Z Z (fun _=>.t1) Z (by decide) (by rw[←dv];exact cH _) (by rw[q9];show (0+_)*8≤_;omega) (by rw[q9];omega)<|fun i47=>z7<|aN 8 Z (zw (cps:=[(0,[_]),(1,[_])]) (rs:=[_,_,.raw (.slice none 0 0)]) eM Z Z Z)<|cP 9 Z<|zp (cs:=[.raw (.slice none 0 0),.raw (.slice none 0 0),.raw (.slice none 0 0)]) jq Z Z<|fun i7=>z7<|yc<|ye (i:=10) Z (by kernel_rfl) (by kernel_rfl)<|zm j8 Z Z Z Z Z Z .head Z<|z7<|yf (by kernel_rfl) ?_
       exact ⟨(i7,i43,i47),(by repeat (first|with_reducible exact yj _ _|refine br.up rfl ?_|exact fv)),aV,aU,trivial⟩
      ·refine zp (cs:=[.raw (.slice none 0 0),.raw (.slice none 0 0),.raw (.slice none 0 0)]) jq Z Z<|fun i7=>z7<|cP 7 Z<|zr (k:=1) j4 Z4 Z Z Z Z Z (fun _=>.t2) Z (by decide) (by rw[←dv];exact cH _) (by rw[q9];show (0+_)*8≤_;omega) (by rw[q9];omega)<|fun i47=>z7<|aN 8 Z (zw (cps:=[(0,[_]),(1,[_])]) (rs:=[_,_,.raw (.slice none 0 0)]) eM Z Z Z)<|yc<|ye (i:=10) Z (by kernel_rfl) (by kernel_rfl)<|zm j8 Z Z Z Z Z Z .head Z<|z7<|yf (by kernel_rfl) ?_
       exact ⟨(i7,i43,i47),(by repeat (first|with_reducible exact yj _ _|refine br.up rfl ?_|exact fv)),aV,aU,trivial⟩
     ·refine zp (cs:=[.raw (.slice none 0 0),.raw (.slice none 0 0),.raw (.slice none 0 0)]) jq Z Z<|fun i7=>z7<|cP 3 Z<|zr (k:=2) jk Zn Z Z Z Z Z (fun _=>.t1) Z (by decide) (de _) (by rw[q9];show (0+_)*24≤_;omega) (by rw[q9];omega)<|fun i43=>z7<|cP 7 Z<|zr (k:=1) j4 Z4 Z Z Z Z Z (fun _=>.t2) Z (by decide) (by rw[←dv];exact cH _) (by rw[q9];show (0+_)*8≤_;omega) (by rw[q9];omega)<|fun i47=>z7<|aN 8 Z (zw (cps:=[(0,[_]),(1,[_])]) (rs:=[_,_,.raw (.slice none 0 0)]) eM Z Z Z)<|yc<|ye (i:=10) Z (by kernel_rfl) (by kernel_rfl)<|zm j8 Z Z Z Z Z Z .head Z<|z7<|yf (by kernel_rfl) ?_
      exact ⟨(i7,i43,i47),(by repeat (first|with_reducible exact yj _ _|refine br.up rfl ?_|exact fv)),aV,aU,trivial⟩
    ·refine zp (cs:=[.raw (.slice none 0 0),.raw (.slice none 0 0),.raw (.slice none 0 0)]) jq Z Z<|fun i7=>z7<|cP 0 Z<|yg (k:=2) jk Zn<|fun i40=>z7<|cP 3 Z<|zr (k:=2) jk Zn Z Z Z Z Z (fun _=>.head) Z (by decide) (de _) (by rw[q9];show (0+_)*24≤_;omega) (by rw[q9];omega)<|fun i43=>z7<|cP 7 Z<|zr (k:=1) j4 Z4 Z Z Z Z Z (fun _=>.t2) Z (by decide) (by rw[←dv];exact cH _) (by rw[q9];show (0+_)*8≤_;omega) (by rw[q9];omega)<|fun i47=>z7<|aN 8 Z (zw (cps:=[(0,[_]),(1,[_])]) (rs:=[_,_,.raw (.slice none 0 0)]) eM Z Z Z)<|yc<|ye (i:=10) Z (by kernel_rfl) (by kernel_rfl)<|zm j8 Z Z Z Z Z Z .t1 Z<|zx (zn (zq .t3))<|zx (zn (zq .t3))<|zx (zn (zq .t2))<|zx (zn (zq .t3))<|z7<|yf (by kernel_rfl) ?_
     exact ⟨(i7,i43,i47),(by repeat (first|with_reducible exact yj _ _|refine br.up rfl ?_|exact fv)),aV,aU,trivial⟩
   ·refine zp (cs:=[.raw (.slice none 0 0),.raw (.slice none 0 0),.raw (.slice none 0 0)]) jq Z Z<|fun i7=>z7<|yv (i:=0) (j:=4) Z Z (by kernel_rfl) ?_ ?_
    ·refine yg (k:=2) jk Zn<|fun i40=>z7<|yv (i:=3) (j:=4) Z Z (by kernel_rfl) ?_ ?_
     ·refine zr (k:=2) jk Zn Z Z Z Z Z (fun _=>.head) Z (by decide) (de _) (by rw[q9];show (0+_)*24≤_;omega) (by rw[q9];omega)<|fun i43=>z7<|cP 4 Z<|yg (k:=1) j4 Z4<|fun i44=>z7<|cP 7 Z<|zr (k:=1) j4 Z4 Z Z Z Z Z (fun _=>.head) Z (by decide) (by rw[←dv];exact cH _) (by rw[q9];show (0+_)*8≤_;omega) (by rw[q9];omega)<|fun i47=>z7<|aN 8 Z (zw (cps:=[(0,[_]),(1,[_])]) (rs:=[_,_,.raw (.slice none 0 0)]) eM Z Z Z)<|yc<|ye (i:=10) Z (by kernel_rfl) (by kernel_rfl)<|zm j8 Z Z Z Z Z Z .t2 Z<|zx (zn (zq .t3))<|zx (zn (zq .t1))<|zx (zn (zq .t2))<|zx (zn (zq .t3))<|z7<|yf (by kernel_rfl) ?_
      exact ⟨(i7,i43,i47),(by repeat (first|with_reducible exact yj _ _|refine br.up rfl ?_|exact fv)),aV,aU,trivial⟩
     ·refine yg (k:=1) j4 Z4<|fun i44=>z7<|cP 3 Z<|zr (k:=2) jk Zn Z Z Z Z Z (fun _=>.t1) Z (by decide) (de _) (by rw[q9];show (0+_)*24≤_;omega) (by rw[q9];omega)<|fun i43=>z7<|cP 7 Z<|zr (k:=1) j4 Z4 Z Z Z Z Z (fun _=>.head) Z (by decide) (by rw[←dv];exact cH _) (by rw[q9];show (0+_)*8≤_;omega) (by rw[q9];omega)<|fun i47=>z7<|aN 8 Z (zw (cps:=[(0,[_]),(1,[_])]) (rs:=[_,_,.raw (.slice none 0 0)]) eM Z Z Z)<|yc<|ye (i:=10) Z (by kernel_rfl) (by kernel_rfl)<|zm j8 Z Z Z Z Z Z .t2 Z<|zx (zn (zq .t3))<|zx (zn (zq .t1))<|zx (zn (zq .t2))<|zx (zn (zq .t3))<|z7<|yf (by kernel_rfl) ?_
      exact ⟨(i7,i43,i47),(by repeat (first|with_reducible exact yj _ _|refine br.up rfl ?_|exact fv)),aV,aU,trivial⟩
    ·refine yg (k:=1) j4 Z4<|fun i44=>z7<|cP 0 Z<|yg (k:=2) jk Zn<|fun i40=>z7<|cP 3 Z<|zr (k:=2) jk Zn Z Z Z Z Z (fun _=>.head) Z (by decide) (de _) (by rw[q9];show (0+_)*24≤_;omega) (by rw[q9];omega)<|fun i43=>z7<|cP 7 Z<|zr (k:=1) j4 Z4 Z Z Z Z Z (fun _=>.t1) Z (by decide) (by rw[←dv];exact cH _) (by rw[q9];show (0+_)*8≤_;omega) (by rw[q9];omega)<|fun i47=>z7<|aN 8 Z (zw (cps:=[(0,[_]),(1,[_])]) (rs:=[_,_,.raw (.slice none 0 0)]) eM Z Z Z)<|yc<|ye (i:=10) Z (by kernel_rfl) (by kernel_rfl)<|zm j8 Z Z Z Z Z Z .t2 Z<|zx (zn (zq .t3))<|zx (zn (zq .t2))<|zx (zn (zq .t2))<|zx (zn (zq .t3))<|z7<|yf (by kernel_rfl) ?_
     exact ⟨(i7,i43,i47),(by repeat (first|with_reducible exact yj _ _|refine br.up rfl ?_|exact fv)),aV,aU,trivial⟩
  ·rintro ⟨i7,iv,iq⟩ _
   refine zz (yq (off:=0) (rows:=f.vars.map ba) .t1 .head Z (by intro r hr;obtain ⟨z,_,rfl⟩:=List.mem_map.1 hr;rfl) (by decide) (by rw[Nat.zero_add]))<|zz (yq (off:=1) (rows:=f.params.map bh) .t1 .head Z (by intro r hr;obtain ⟨z,_,rfl⟩:=List.mem_map.1 hr;rfl) (by decide) (by rw[Nat.zero_add]))<|bJ (off:=2) (k:=7) (T:=60) (fun _=>.head) Z<|fun jb=>zz (zn (zq .t2))<|zz (zn (zq .t2))<|zz (zn (zq .t2))<|zb<|ai<|ap j6 Z ji Z Z<|aP js Z<|ac ja Z<|aa Z<|z7<|zh<|y7 (γ:=Nat × Nat) [1,2,3,4,7,50,51] (fun g=>[(52,.int .i64 g.1)]) (fun g=>[(g.2,.grow 7 60 ((mX f g.1).map aE).flatten),(i7,.cells 26 [.fro 2 (f.vars.map ba),.fro 1 (f.params.map bh),.own g.2 (dH f g.1)]),(i2,.cells 26 [.raw (.slice none 0 0),.raw (.slice none 0 0),.raw (.slice none 0 0)])]) (fun g=>g.1≤f.blocks.length) (fun g=>f.blocks.length - g.1) (0,jb) aV aU (q5 _) ?_
   rintro ⟨k,jb⟩ hk
   try dsimp only at *
   refine ai<|ay Z Z<|z7<|zb<|zt Z (fun ck=>?_) (fun ck=>?_)
   ·have hk2:k<f.blocks.length:=by omega
    obtain ⟨b,hb⟩:∃b,f.blocks[k]=b:=⟨_,rfl⟩
    have hgb:f.blocks[k]?=some b:=by rw[q2 hk2,hb]
    have hbm:b∈f.blocks:=hb▸q6 hk2
    have hgk:=ka hE (b:=(k:Int)) (by omega) (by omega)
    rw[Int.toNat_natCast] at hgk
    have hcl:=k8 f k
    refine zf<|zb<|zh<|ai<|aa Z<|za (dG k ja jj Z Z Z hgb)<|ab Z7 jj Z Z<|zp (cs:=[.str ⟨#[]⟩,.raw (.slice none 0 0),.raw (.slice none 0 0),.int .i64 0,.int .i64 0,.int .i64 0,.int .i64 0]) ju Z Z<|fun i9=>aw Z<|zm jj Z Z Z Z Z Z .head Z<|zx (yp (t:=9) Z .head)<|z7<|zb<|ai<|aX Z<|aa Z<|za (dG k jx Z9 Z Z Z hgk)<|za (Gv.load1F (c:=.bool _) isAgg4 Z)<|aH Z<|z7<|zu Z (fun cr=>?_) (fun cr=>?_)
    ·have cr:¬(k:Int)∈eh f:=by first|exact cr|(have h:=cr;simp at h;exact h)
     refine zy<|bg<|aB Z Z<|aa Z<|z7 ?_
     exact ⟨(k+1,jb),gY,aV,⟨_,(.refl _),by dsimp only;rw[jD,dD,if_neg cr,if_neg cr,List.append_nil];rfl⟩,hk2,by dsimp only;omega⟩
    ·have cr:(k:Int)∈eh f:=by first|exact cr|(have h:=cr;simp at h;exact h)
     have hbk:bu f k=b:=eQ hgb
     obtain ⟨hb0,hb1,hb2,hb3,hb4⟩:=hf5 b hbm
     obtain ⟨hs1,hs2,hs3⟩:=hS.2.2.2.2.2 b hbm
     have hmb:∀c∈aO b.term,c∈eh f:=fun c hc=>nY hE cr (by rw[lE hk2,hb];exact hc)
     refine zf<|ai<|ap j5 Z jy Z Z<|za (Gv.load1F (c:=.str _) Z1 Z)<|ap j5 Z jn Z Z<|ab Zo jn Z Z<|za (zw (cps:=[(0,[_]),(3,[_,_,_,_])]) (rs:=[_,.raw (.slice none 0 0),.raw (.slice none 0 0),_,_,_,_]) Db Z Z Z)<|zp (cs:=[.str ⟨#[]⟩,.raw (.slice none 0 0),.raw (.slice none 0 0),.int .i64 0,.int .i64 0,.int .i64 0,.int .i64 0]) ju Z Z<|fun i10=>zm jj Z Z Z Z Z Z .head Z<|z7<|zb<|ai<|ap j5 Z jw Z Z<|aP Z8 Z<|ac jl Z<|aa Z<|z7<|bJ (off:=1) (k:=3) (T:=73) (fun _=>.head) Z<|fun ip=>zz (zn (zq .t4))<|zz (zn (zq .t4))<|zz (zn (zq .t4))<|zz (zn (zq .t4))<|zz (zn (zq .t4))<|zh<|y7 (γ:=Nat × Nat) [1,2,3,4,7,8,9,10,50,51,52,68,69] (fun g=>[(70,.int .i64 g.1)]) (fun g=>[(g.2,.grow 3 73 (((b.phis.take g.1).map (bS (bO f) (cY f k))).map aL).flatten),(i10,.cells 60 [.str b.name,.own g.2 g.1,.raw (.slice none 0 0),.int .i64 b.term.kind,.int .i64 b.term.var,.int .i64 b.term.to0,.int .i64 b.term.to1]),(jb,.grow 7 60 ((mX f k).map aE).flatten),(i7,.cells 26 [.fro 2 (f.vars.map ba),.fro 1 (f.params.map bh),.own jb (dH f k)]),(i2,.cells 26 [.raw (.slice none 0 0),.raw (.slice none 0 0),.raw (.slice none 0 0)])]) (fun g=>g.1≤b.phis.length) (fun g=>b.phis.length - g.1) (0,ip) aV aU (q5 _) ?_
     rintro ⟨m,ip⟩ hm
     try dsimp only at *
     refine ai<|ay Z Z<|z7<|zb<|zt Z (fun cm=>?_) (fun cm=>?_)
     ·have hm2:m<b.phis.length:=by omega
      obtain ⟨p,hp⟩:∃p,b.phis[m]=p:=⟨_,rfl⟩
      have hgp:b.phis[m]?=some p:=by rw[q2 hm2,hp]
      have hpm:p∈b.phis:=hp▸q6 hm2
      have hps:=hs1 p hpm
      have hpl:=hb3 p hpm
      have hfl:∀k,(be (bO f) (cY f k) p 0).length=0:=fun k=>by unfold be;rfl
      refine zf<|zb<|zh<|ai<|za (dG m jl jp Z Z Z hgp)<|ab Zf jp Z Z<|zp (cs:=[.int .i64 0,.raw (.slice none 0 0),.raw (.slice none 0 0)]) jz Z Z<|fun i12=>zm jp Z Z Z Z Z Z .head Z<|zx (yp (t:=12) Z .head)<|z7<|ai<|ap jc Z j9 Z Z<|aF jf Z<|za (zw (cps:=[(0,[_])]) (rs:=[_,.raw (.slice none 0 0),.raw (.slice none 0 0)]) AM Z Z Z)<|zp (cs:=[.int .i64 0,.raw (.slice none 0 0),.raw (.slice none 0 0)]) jz Z Z<|fun i13=>zm jp Z Z Z Z Z Z .head Z<|z7<|bJ (off:=1) (k:=1) (T:=3) (fun _=>.head) Z<|fun ia=>bJ (off:=2) (k:=1) (T:=3) (fun _=>.t1) Z<|fun ic=>zb<|ai<|ap jc Z je Z Z<|aP jm Z<|ac j4 Z<|aa Z<|z7<|zh<|y7 (γ:=Nat × Nat × Nat) [1,2,3,4,7,8,9,10,12,13,50,51,52,68,69,70,78,79] (fun g=>[(80,.int .i64 g.1)]) (fun g=>[(g.2.2,.grow 1 3 (cI ((be (bO f) (cY f k) p g.1).map fun z=>bO f z.1))),(g.2.1,.grow 1 3 (cI ((be (bO f) (cY f k) p g.1).map (·.2)))),(i13,.cells 73 [.int .i64 p.dst,.own g.2.1 (be (bO f) (cY f k) p g.1).length,.own g.2.2 (be (bO f) (cY f k) p g.1).length]),(ip,.grow 3 73 (((b.phis.take m).map (bS (bO f) (cY f k))).map aL).flatten),(i10,.cells 60 [.str b.name,.own ip m,.raw (.slice none 0 0),.int .i64 b.term.kind,.int .i64 b.term.var,.int .i64 b.term.to0,.int .i64 b.term.to1]),(jb,.grow 7 60 ((mX f k).map aE).flatten),(i7,.cells 26 [.fro 2 (f.vars.map ba),.fro 1 (f.params.map bh),.own jb (dH f k)]),(i2,.cells 26 [.raw (.slice none 0 0),.raw (.slice none 0 0),.raw (.slice none 0 0)])]) (fun g=>g.1≤p.from_.length) (fun g=>p.from_.length - g.1) (0,ia,ic) aV aU (q5 _) ?_
      rintro ⟨j,ia,ic⟩ hj
      try dsimp only at *
      refine ai<|ay Z Z<|z7<|zb<|zt Z (fun cj=>?_) (fun cj=>?_)
      ·have hj2:j<p.from_.length:=by omega
       obtain ⟨a,ha⟩:∃a,p.from_[j]=a:=⟨_,rfl⟩
       have hgf:p.from_[j]?=some a:=by rw[q2 hj2,ha]
       obtain ⟨v,hv⟩:∃v,p.args[j]'(by have:=hps.2.1;omega)=v:=⟨_,rfl⟩
       have hga:p.args[j]?=some v:=by rw[q2 (by have:=hps.2.1;omega),hv]
       have har:0≤a∧a<f.blocks.length:=by
        have h7:=List.all_eq_true.1 hps.2.2.2.2 a (ha▸q6 hj2)
        unfold cW at h7
        simp only[qg,qh] at h7
        exact h7
       have hta:=ka hE har.1 har.2
       have hz:(gy p).take (j+1)=(gy p).take j++[(a,v)]:=by
        have e:(gy p)[j]?=some (a,v):=by
         unfold gy
         rw[List.getElem?_zip_eq_some]
         exact ⟨hgf,hga⟩
        rw[List.take_add_one,e];rfl
       have hin:(a∈cY f k∧0≤bO f a)↔a∈eh f∧(k:Int)∈au f a:=by
        rw[sb hE,and_comm]
        exact and_congr_right fun _=>bI hG.toEOk hG.out
       have hno:¬(a∈eh f∧(k:Int)∈au f a)→(be (bO f) (cY f k) p (j+1))=(be (bO f) (cY f k) p j):=fun h=>by
        unfold be
        rw[hz,List.filter_append,List.filter_cons,if_neg (by rw[←hin] at h;simpa using h)];simp
       have hye:a∈eh f∧(k:Int)∈au f a→(be (bO f) (cY f k) p (j+1))=(be (bO f) (cY f k) p j)++[(a,v)]:=fun h=>by
        unfold be
        rw[hz,List.filter_append,List.filter_cons,if_pos (by rw[←hin] at h;simpa using h)];rfl
       refine zf<|zb<|zh<|ai<|aa Z<|za (dG j j4 j9 Z Z Z hgf)<|aF jf Z<|aw Z<|aw Z<|z7<|ai<|aX Z<|aa Z<|za (dG a.toNat jx Z9 Z Z (by omega) hta)<|za (Gv.load1F (c:=.bool _) isAgg4 Z)<|aj Z<|zk (s:=89) Z (fun c1=>?_) (fun c1=>?_)
       ·have h1:a∈eh f:=by simpa using c1
        refine z8 Z Z c1<|ab jh j8 Z Z<|z8 Z Z c1<|aa Z<|z8 Z Z c1<|aa Z<|z8 Z Z c1<|ze (fS f hn a k har.1 har.2) Z<|ak Z c1 Z<|z7<|zu Z (fun c2=>?_) (fun c2=>?_)
        ·have h2:(k:Int)∈au f a:=by simpa using c2
         have hkl:(be (bO f) (cY f k) p j).length≤j:=by unfold be;refine Nat.le_trans (List.length_filter_le _ _) ?_;rw[qc];omega
         have hcn:=mn hE h1
         have l1:(cI ((be (bO f) (cY f k) p j).map fun z=>bO f z.1)).length=(be (bO f) (cY f k) p j).length*1:=by rw[cC,q9];omega
         have l2:(cI ((be (bO f) (cY f k) p j).map (·.2))).length=(be (bO f) (cY f k) p j).length*1:=by rw[cC,q9];omega
         have e1:cI ((be (bO f) (cY f k) p j).map fun z=>bO f z.1)++[AV.int .i64 (bO f a)]=cI ((be (bO f) (cY f k) p (j+1)).map fun z=>bO f z.1):=by rw[hye ⟨h1,h2⟩,List.map_append,←lM];rfl
         have e2:cI ((be (bO f) (cY f k) p j).map (·.2))++[AV.int .i64 v]=cI ((be (bO f) (cY f k) p (j+1)).map (·.2)):=by rw[hye ⟨h1,h2⟩,List.map_append,←lM];rfl
         have e3:(be (bO f) (cY f k) p (j+1)).length=(be (bO f) (cY f k) p j).length+1:=by rw[hye ⟨h1,h2⟩,q8];rfl
         refine zb<|ya (fun j=>Nat.beq j 10) (by kernel_rfl) Z (yh (.l (.l (.r (.rest _)))))<|aN 0 Z (zd jc Z je (by decide) Z Z)<|aN 1 Z (zj (c:=.own _ _) jm Z ⟨_,.head⟩ Z)<|aN 2 Z (f9 jc Z je Z Z)<|aN 3 Z (lx jm Z)<|aN 4 Z (kq Z)<|aN 5 Z (dG j j4 j9 Z Z Z hga)<|aN 6 Z (mK jf Z)<|cP 7 Z<|y8 (rows:=[[_]]) eL Z Z Z Z Z<|z7<|cP 8 Z<|zr (k:=1) j4 Z4 Z Z Z Z Z (fun _=>.t1) l2 (by decide) Z (by show (_+1)*8≤_;omega) (by show _+1≤_;omega)<|fun i103=>z7<|aN 9 Z (zd jc Z je (by decide) Z Z)<|yc<|ye (i:=10) Z (by kernel_rfl) (by kernel_rfl)<|yb (l:=[_]) (new:=[_,_,_]) je Z Z Z Z Z Z .head Z Z<|zx (zn (zq .t7))<|zx (zn (zq .t7))<|z7<|yf (by kernel_rfl)<|ya (fun j=>Nat.beq j 9) (by kernel_rfl) Z (yh (.l (.l (.r (.rest _)))))<|aN 0 Z (zd jc Z je (by decide) Z Z)<|aN 1 Z (zj (c:=.own _ _) jm Z ⟨_,.head⟩ Z)<|aN 2 Z (Am Z)<|aN 3 Z (kq Z)<|aN 4 Z (dG a.toNat j4 j9 Z Z (by omega) hcn)<|aN 5 Z (mK jf Z)<|cP 6 Z<|y8 (rows:=[[_]]) eL Z Z Z Z Z<|z7<|cP 7 Z<|zr (k:=1) j4 Z4 Z Z Z Z Z (fun _=>.t2) l1 (by decide) Z (by show (_+1)*8≤_;omega) (by show _+1≤_;omega)<|fun i112=>z7<|aN 8 Z (zd jc Z je (by decide) Z Z)<|yc<|ye (i:=9) Z (by kernel_rfl) (by kernel_rfl) ?_
         refine yb (l:=[_]) (new:=[_,_,_]) je Z Z Z Z Z Z .head Z Z<|zx (zn (zq .t2))<|zx (zn (zq .t2))<|z7<|yf (by kernel_rfl)<|zz (zn (zq .t1))<|zz (zn (zq .t1))<|zz (zn (zq .t7))<|zz (zn (zq .t7))<|zz (zn (zq .t7))<|zz (zn (zq .t5))<|zz (zn (zq .t7))<|zz (zn (zq .t7))<|bg<|aB Z Z<|aa Z<|z7 ?_
         exact ⟨(j+1,i103,i112),⟨rfl,rfl,rfl,rfl,rfl,rfl,rfl,rfl,rfl,rfl,rfl,rfl,rfl,rfl,rfl,rfl,rfl,rfl,trivial⟩,aV,⟨_,(.refl _),by dsimp only;rw[←e1,←e2,e3];rfl⟩,hj2,by dsimp only;omega⟩
        ·have h2:¬(k:Int)∈au f a:=by simpa using c2
         refine zf<|bg<|aB Z Z<|aa Z<|z7 ?_
         exact ⟨(j+1,ia,ic),⟨rfl,rfl,rfl,rfl,rfl,rfl,rfl,rfl,rfl,rfl,rfl,rfl,rfl,rfl,rfl,rfl,rfl,rfl,trivial⟩,aV,⟨_,(.refl _),by rw[hno fun h=>h2 h.2]⟩,hj2,by dsimp only;omega⟩
       ·have h1:¬a∈eh f:=by simpa using c1
        refine z6 Z Z c1<|z6 Z Z c1<|z6 Z Z c1<|z6 Z Z c1<|al Z c1 Z<|z7<|yd Z Z<|zf<|bg<|aB Z Z<|aa Z<|z7 ?_
        exact ⟨(j+1,ia,ic),⟨rfl,rfl,rfl,rfl,rfl,rfl,rfl,rfl,rfl,rfl,rfl,rfl,rfl,rfl,rfl,rfl,rfl,rfl,trivial⟩,aV,⟨_,(.refl _),by rw[hno fun h=>h1 h.1]⟩,hj2,by dsimp only;omega⟩
      ·obtain rfl:j=p.from_.length:=by omega
       have hkt:(be (bO f) (cY f k) p p.from_.length)=ff (bO f) (cY f k) p:=by unfold be ff;rw[List.take_of_length_le (by unfold gy;rw[List.length_zip];omega)]
       rw[hkt,dv,dv]
       refine zz (yq (off:=1) (rows:=((ff (bO f) (cY f k) p).map (·.2)).map bh) .t1 .t1 Z (by intro r hr;obtain ⟨z,_,rfl⟩:=List.mem_map.1 hr;rfl) (by decide) (by simp))<|zz (yq (off:=2) (rows:=((ff (bO f) (cY f k) p).map fun z=>bO f z.1).map bh) .head .head Z (by intro r hr;obtain ⟨z,_,rfl⟩:=List.mem_map.1 hr;rfl) (by decide) (by simp)) ?_
       have hpf:=wE ((b.phis.take m).map (bS (bO f) (cY f k)))
       rw[q9,qc,Nat.min_eq_left (by omega)] at hpf
       refine zy<|bg<|za (zd j5 Z jw (by decide) Z Z)<|za (zj (c:=.own _ _) Z8 Z ⟨_,.t2⟩ Z)<|za (yr Zf jp Z ⟨_,.head⟩ Z)<|y8 (rows:=[[_,_,_]]) qz Z Z Z Z Z<|zr (k:=3) jl type73 Z Z Z Z Z (fun _=>.t1) hpf (by decide) Z (by show (_+_)*56≤_;simp<;>omega) (by simp<;>omega)<|fun i119=>za (zd j5 Z jw (by decide) Z Z)<|yb (l:=[_]) (new:=[_,_,_,_,_,_,_]) jw Z Z Z Z Z Z .t2 Z Z<|z7<|bg<|aB Z Z<|aa Z<|z7 ?_
       exact ⟨(m+1,i119),⟨rfl,rfl,rfl,rfl,rfl,rfl,rfl,rfl,rfl,rfl,rfl,rfl,rfl,trivial⟩,aV,⟨_,(.drop (.refl _)),by dsimp only;rw[nz hgp,List.map_append,List.map_append,List.flatten_append];rfl⟩,hm2,by dsimp only;omega⟩
     ·obtain rfl:m=b.phis.length:=by omega
      rw[q7]
      refine zz (yq (off:=1) (rows:=(b.phis.map (bS (bO f) (cY f k))).map aL) .head .head Z (by intro r hr;obtain ⟨z,_,rfl⟩:=List.mem_map.1 hr;rfl) (by decide) (by rw[q9,q9]))<|bJ (off:=2) (k:=4) (T:=69) (fun _=>.head) Z<|fun ii=>zz (zn (zq .t4))<|zz (zn (zq .t4))<|zz (zn (zq .t4))<|zz (zn (zq .t4))<|zz (zn (zq .t4))<|zy<|zb<|ai<|ap j5 Z Z0 Z Z<|aP Ze Z<|ac jo Z<|aa Z<|z7<|zh<|y7 (γ:=Nat × Nat) [1,2,3,4,7,9,10,50,51,52,123,124] (fun g=>[(125,.int .i64 g.1)]) (fun g=>[(g.2,.grow 4 69 ((b.insts.take g.1).map aZ).flatten),(i10,.cells 60 [.str b.name,.fro 3 ((b.phis.map (bS (bO f) (cY f k))).map aL),.own g.2 g.1,.int .i64 b.term.kind,.int .i64 b.term.var,.int .i64 b.term.to0,.int .i64 b.term.to1]),(jb,.grow 7 60 ((mX f k).map aE).flatten),(i7,.cells 26 [.fro 2 (f.vars.map ba),.fro 1 (f.params.map bh),.own jb (dH f k)]),(i2,.cells 26 [.raw (.slice none 0 0),.raw (.slice none 0 0),.raw (.slice none 0 0)])]) (fun g=>g.1≤b.insts.length) (fun g=>b.insts.length - g.1) (0,ii) aV aU (q5 _) ?_
      rintro ⟨m,ii⟩ hm
      try dsimp only at *
      refine ai<|ay Z Z<|z7<|zb<|zt Z (fun cm=>?_) (fun cm=>?_)
      ·have hm2:m<b.insts.length:=by omega
       obtain ⟨x,hx⟩:∃x,b.insts[m]?=some x:=⟨_,q2 hm2⟩
       have hxl:=hb4 x (qb hx)
       have hif:=wF (b.insts.take m)
       rw[qc,Nat.min_eq_left (by omega)] at hif
       refine zf<|zb<|zh<|ai<|za (dG m jo jt Z Z Z hx)<|ab Zm jt Z Z<|zp (cs:=[.int .i64 0,.int .i64 0,.raw (.slice none 0 0),.int .i64 0]) Zg Z Z<|fun i17=>zm jt Z Z Z Z Z Z .head Z<|z7<|ai<|yg (k:=1) j4 Z4<|fun i129=>za (zd jd Z je (by decide) Z Z)<|za (zj (c:=.fro _ _) jm Z ⟨_,.t1⟩ Z)<|zr (k:=1) j4 Z4 Z Z Z Z Z (fun _=>.head) Z (by decide) (by rw[←dv];exact cH _) (by rw[q9];show (0+_)*8≤_;omega) (by rw[q9];omega)<|fun i132=>za (zd jd Z je (by decide) Z Z)<|yb (l:=[_]) (new:=[_,_,_,_]) je Z Z Z Z Z Z .t1 Z Z<|z7<|zz (yq (off:=2) (rows:=x.args.map bh) .head .head Z (by intro r hr;obtain ⟨z,_,rfl⟩:=List.mem_map.1 hr;rfl) (by decide) (by rw[Nat.zero_add]))<|bg<|za (zd j5 Z Z0 (by decide) Z Z)<|za (zj (c:=.own _ _) Ze Z ⟨_,.t2⟩ Z)<|za (yr Zm jt Z ⟨_,.head⟩ Z)<|y8 (rows:=[[_,_,_,_]]) qB Z Z Z Z Z<|zr (k:=4) jo type69 Z Z Z Z Z (fun _=>.t1) hif (by decide) Z (by show (_+_)*48≤_;simp<;>omega) (by simp<;>omega)<|fun i138=>za (zd j5 Z Z0 (by decide) Z Z)<|yb (l:=[_]) (new:=[_,_,_,_,_,_,_]) Z0 Z Z Z Z Z Z .t2 Z Z<|z7<|bg<|aB Z Z<|aa Z<|z7 ?_
       exact ⟨(m+1,i138),gk,aV,⟨_,(.drop (.refl _)),by dsimp only;rw[nz hx,ny];rfl⟩,hm2,by dsimp only;omega⟩
      ·obtain rfl:m=b.insts.length:=by omega
       rw[q7]
       refine zz (yq (off:=2) (rows:=b.insts.map aZ) .head .head Z (by intro r hr;obtain ⟨z,_,rfl⟩:=List.mem_map.1 hr;rfl) (by decide) (by rw[q9])) ?_
       have hk3:b.term.kind=0∨b.term.kind=1∨b.term.kind=2:=by
        unfold bb at hs3
        by_cases k0:b.term.kind=0
        ·exact .inl k0
        by_cases k1:b.term.kind=1
        ·exact .inr (.inl k1)
        by_cases k2:b.term.kind=2
        ·exact .inr (.inr k2)
        rw[if_neg k0,if_neg k1,if_neg k2] at hs3;cases hs3
       have ho0:¬b.term.kind=2→b.term.to0∈eh f:=fun h=>hmb _ (by
        unfold aO
        by_cases k0:b.term.kind=0
        ·rw[if_pos k0];simp
        ·rw[if_neg k0,if_pos (by omega)];split<;>simp)
       have ho1:b.term.kind=1→b.term.to1∈eh f:=fun h=>hmb _ (by
        unfold aO
        rw[if_neg (by omega),if_pos h]
        split
        ·rename_i e;rw[e];simp
        ·simp)
       refine zy<|zb<|ai<|ap j5 Z jn Z Z<|ap j7 Z Z2 Z Z<|aF Z6 Z<|aG Z Z<|z7<|yn (γ:=Unit) [1,2,3,4,7,9,10,50,51,52] (fun z=>[]) (fun z=>[(i10,.cells 60 [.str b.name,.fro 3 ((b.phis.map (bS (bO f) (cY f k))).map aL),.fro 4 (b.insts.map aZ),.int .i64 b.term.kind,.int .i64 b.term.var,.int .i64 (if b.term.kind=2 then b.term.to0 else bO f b.term.to0),.int .i64 b.term.to1]),(jb,.grow 7 60 ((mX f k).map aE).flatten),(i7,.cells 26 [.fro 2 (f.vars.map ba),.fro 1 (f.params.map bh),.own jb (dH f k)]),(i2,.cells 26 [.raw (.slice none 0 0),.raw (.slice none 0 0),.raw (.slice none 0 0)])]) (fun z=>True) ?_ (fun _ _ h=>h) ?_
       ·refine zu Z (fun c5=>?_) (fun c5=>?_)
        ·have h2:¬b.term.kind=2:=by simpa using c5
         have hr:=bm hG.toEOk (ho0 h2)
         refine bg<|aX Z<|ap j5 Z jn Z Z<|ap j7 Z jr Z Z<|za (yl (j:=0) jg j9 Z Z Z (by decide) Z)<|aF jf Z<|za (dG b.term.to0.toNat j4 j9 Z Z (by omega) (mn hE (ho0 h2)))<|aF jf Z<|za (zd j5 Z jn (by decide) Z Z)<|za (zd j7 Z jr (by decide) Z Z)<|za (q1 (j:=0) jg j9 Z Z Z (by decide) Z)<|yb (l:=[_]) (new:=[_,_,_,_,_,_,_]) j9 Z Z Z Z Z Z .head Z Z<|z7 ?_
         exact ⟨(),(by repeat (first|with_reducible exact yj _ _|refine br.up rfl ?_|exact ⟨rfl,rfl,rfl,rfl,rfl,rfl,rfl,rfl,rfl,rfl,trivial⟩)),trivial,⟨_,(.refl _),by rw[if_neg h2]<;>rfl⟩,trivial⟩
        ·have h2:b.term.kind=2:=by simpa using c5
         refine zf ?_
         exact ⟨(),(by repeat (first|with_reducible exact yj _ _|refine br.up rfl ?_|exact ⟨rfl,rfl,rfl,rfl,rfl,rfl,rfl,rfl,rfl,rfl,trivial⟩)),trivial,⟨_,(.refl _),by rw[if_pos h2]<;>rfl⟩,trivial⟩
       ·rintro _ _
        refine zb<|ai<|ap j5 Z jn Z Z<|ap j7 Z Z2 Z Z<|aF Z6 Z<|aq Z Z<|z7<|yn (γ:=Unit) [1,2,3,4,7,10,50,51,52] (fun z=>[]) (fun z=>[(i10,.cells 60 [.str b.name,.fro 3 ((b.phis.map (bS (bO f) (cY f k))).map aL),.fro 4 (b.insts.map aZ),.int .i64 b.term.kind,.int .i64 b.term.var,.int .i64 (if b.term.kind=2 then b.term.to0 else bO f b.term.to0),.int .i64 (if b.term.kind=1 then bO f b.term.to1 else b.term.to1)]),(jb,.grow 7 60 ((mX f k).map aE).flatten),(i7,.cells 26 [.fro 2 (f.vars.map ba),.fro 1 (f.params.map bh),.own jb (dH f k)]),(i2,.cells 26 [.raw (.slice none 0 0),.raw (.slice none 0 0),.raw (.slice none 0 0)])]) (fun z=>True) ?_ (fun _ _ h=>h) ?_
        ·refine zu Z (fun c6=>?_) (fun c6=>?_)
         ·have h2:b.term.kind=1:=by simpa using c6
          have hr:=bm hG.toEOk (ho1 h2)
          refine bg<|aX Z<|ap j5 Z jn Z Z<|ap j7 Z jr Z Z<|za (yl (j:=1) jg j9 Z Z Z (by decide) Z)<|aF jf Z<|za (dG b.term.to1.toNat j4 j9 Z Z (by omega) (mn hE (ho1 h2)))<|aF jf Z<|za (zd j5 Z jn (by decide) Z Z)<|za (zd j7 Z jr (by decide) Z Z)<|za (q1 (j:=1) jg j9 Z Z Z (by decide) Z)<|yb (l:=[_]) (new:=[_,_,_,_,_,_,_]) j9 Z Z Z Z Z Z .head Z Z<|z7 ?_
          exact ⟨(),(by repeat (first|with_reducible exact yj _ _|refine br.up rfl ?_|exact ne)),trivial,⟨_,(.refl _),by rw[if_pos h2]<;>rfl⟩,trivial⟩
         ·have h2:¬b.term.kind=1:=by simpa using c6
          refine zf ?_
          exact ⟨(),(by repeat (first|with_reducible exact yj _ _|refine br.up rfl ?_|exact ne)),trivial,⟨_,(.refl _),by rw[if_neg h2]<;>rfl⟩,trivial⟩
        ·rintro _ _
         have hjl:(((mX f k).map aE).flatten).length=dH f k*7:=by rw[wD,k9]
         have hcn:dH f (k+1)=dH f k+1:=by rw[dD,if_pos cr]
         have htr:gX id (bO f) b.term=⟨b.term.kind,b.term.var,if b.term.kind=2 then b.term.to0 else bO f b.term.to0,if b.term.kind=1 then bO f b.term.to1 else b.term.to1⟩:=by
          unfold gX
          rcases hk3 with h|h|h
          ·rw[if_pos h,if_neg (by omega),if_neg (by omega)]
          ·rw[if_neg (by omega),if_pos h,if_neg (by omega),if_pos h];rfl
          ·rw[if_neg (by omega),if_neg (by omega),if_pos h,if_neg (by omega)];rfl
         have hpush:(((mX f (k+1)).map aE).flatten)=((mX f k).map aE).flatten++[AV.str b.name,.fro 3 ((b.phis.map (bS (bO f) (cY f k))).map aL),.fro 4 (b.insts.map aZ),.int .i64 b.term.kind,.int .i64 b.term.var,.int .i64 (if b.term.kind=2 then b.term.to0 else bO f b.term.to0),.int .i64 (if b.term.kind=1 then bO f b.term.to1 else b.term.to1)]:=by
          rw[jD,if_pos cr,ny,hbk]
          congr 1
          show aE (eP (bO f) (cY f k) b)=_
          unfold eP
          rw[htr];rfl
         refine bg<|za (zd j6 Z ji (by decide) Z Z)<|za (zj (c:=.own _ _) js Z ⟨_,.t2⟩ Z)<|za (yr Z7 jj Z ⟨_,.head⟩ Z)<|y8 (rows:=[[_,_,_,_,_,_,_]]) iy Z Z Z Z Z<|zr (k:=7) ja type60 Z Z Z Z Z (fun _=>.t1) hjl (by decide) Z (by show (_+_)*96≤_;simp<;>omega) (by simp<;>omega)<|fun i173=>za (zd j6 Z ji (by decide) Z Z)<|yb (l:=[_]) (new:=[_,_,_]) ji Z Z Z Z Z Z .t2 Z Z<|z7<|bg<|aB Z Z<|aa Z<|z7 ?_
         exact ⟨(k+1,i173),gY,aV,⟨_,(.drop (.refl _)),by dsimp only;rw[hpush,hcn]<;>rfl⟩,hk2,by dsimp only;omega⟩
   ·obtain rfl:k=f.blocks.length:=by omega
    have hpr:mX f f.blocks.length=(bt f).blocks:=rfl
    rw[hpr]
    refine zz (yq (off:=2) (rows:=(bt f).blocks.map aE) .head .head Z (by intro r hr;obtain ⟨z,_,rfl⟩:=List.mem_map.1 hr;rfl) (by decide) (by rw[q9,←hpr,k9]))<|zy<|ai<|za (yr jh j8 Z ⟨_,.head⟩ Z)<|zm j8 Z Z Z Z Z Z .t1 Z<|z7<|zg<|dh.c1 Z ⟨_,.t1⟩ jh j8 Z ?_
    rfl
end
section
open Go.Proofs.Tryz
open Go.Proofs Go.Lib Go.Shelf Go.RowKit
variable {E:World}
set_option maxRecDepth 20000
noncomputable def jF (f:ae):Bool:=(rg f&&aS f)&&bZ f
theorem eW (f:ae) (hw:nl f) (hL:ah E):aT prog E 8 [.agg (bC f)] (.bool (jF f)):=by
 refine zo func8 Z (by decide) Z<|ai<|y9 (cs:=_) Z Z Z<|ad Z<|z7<|ai<|ab jh j8 Z Z<|ze (mW f hw hL) Z<|aj Z<|zk (s:=5) Z (fun g=>?_) (fun g=>?_)
 ·refine z8 Z Z g<|ab jh j8 Z Z<|z8 Z Z g<|ze (ma f (eS (by simp only[qg] at g;exact g.2)) ((jC f).1 (by simp only[qg] at g;exact g.1)).small (eR (by simp only[qg] at g;exact g.2))) Z<|ak Z g Z<|ad Z<|z7<|zg<|zi (x:=.bool _) Z ?_
  exact jb (by unfold jF;rw[g];rfl)
 ·refine z6 Z Z g<|z6 Z Z g<|al Z g Z<|ad Z<|z7<|zg<|zi (x:=.bool _) Z ?_
  exact jb (by unfold jF;rw[g];rfl)
end
end Go.Proofs.YtjpnhkmfhlnpcaaGreatDoor
