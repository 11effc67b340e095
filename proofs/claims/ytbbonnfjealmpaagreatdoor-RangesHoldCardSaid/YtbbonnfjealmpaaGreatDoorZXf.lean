/- The document's typed; the laws' typed, single and plain. Of programs that are little. -/
import Derived.Test.YtbbonnfjealmpaaGreatDoorZXe
import Derived.Test.YtbbonnfjealmpaaGreatDoorZXc
set_option linter.unusedVariables false
set_option linter.unusedSimpArgs false
set_option linter.unusedSectionVars false
namespace Go.Proofs.YtbbonnfjealmpaaGreatDoor
section
open Go.Proofs.Tryz
open Go.Proofs Go.Lib Go.Shelf Go.RowKit
variable {E:World}
set_option maxRecDepth 20000
theorem sk {p:Int→Bool} {fn:FuncId} {c:List AV} (xs:List Int) (hl:xs.length≤281474976710656) (hp:∀x∈xs,aS prog E fn ([.i x]++c) (.bool (p x))) :
  aS prog E 182 [.fro 1 (xs.map b7),.fn fn [] c] (.i (di p xs 0)):=by
 refine zm func182 U (by decide) U<|Z<|ap U<|Y<|za<|Z<|bj U<|am j7 U<|C U<|Y<|zd<|zu (γ:=Nat) [0,1,7] (fun k=>[(8,.i k)]) (fun k=>[]) (fun k=>k≤xs.length∧(xs.take k).all (fun x=>!p x)) (fun k=>xs.length - k) 0 aN aJ (⟨qw _,U⟩) ?_;rintro k ⟨hk,hall⟩;refine Z<|aq U U<|Y<|za<|zh U (fun ck=>?_) (fun ck=>?_)
 ·have hk2:k<xs.length:=by simp at ck;omega
  refine zc<|za<|zd<|Z<|C U<|ap U<|Y<|Z<|X (yn (v:=.fn _ _ _) U)<|bj U<|C U<|X (bD k j7 j9 U U U (qt hk2))<|aD jg U<|ax.callVP U (hp _ (qx hk2)) U<|Y<|zq U (fun cp=>?_) (fun cp=>?_)
  ·refine Z<|C U<|ap U<|Y<|zf ?_
   repeat (first|refine ad ?_|refine aa ?_)
   refine gu U ?_;rw[cH p xs k hk hall,List.drop_eq_getElem_cons hk2,di,if_pos cp]
  refine zc<|bQ U U ?_;exact ⟨k+1,eX,aN,aJ,⟨hk2,by rw[qu hk2,List.all_append,hall];simp[cp]⟩,by omega⟩
 have hkn:k=xs.length:=by simp at ck;omega
 refine zt<|Z<|ap U<|Y<|zf ?_
 repeat (first|refine ad ?_|refine aa ?_)
 refine gu U ?_;rw[cH p xs k hk hall,hkn,List.drop_length,di]
theorem oD {p:Int→Bool} {fn:FuncId} {c:List AV} (xs:List Int) (hl:xs.length≤281474976710656) (hp:∀x∈xs,aS prog E fn ([.i x]++c) (.bool (p x))) :
  aS prog E 140 [.fro 1 (xs.map b7),.fn fn [] c] (.bool (xs.any p)):=by
 refine zm func140 U (by decide) U<|Z<|ah U<|Y<|Z<|bj U<|X (yn (v:=.fn _ _ _) U)<|zb (sk xs hl hp) U<|X (q7 U U)<|ah U<|Y<|zf ?_
 repeat (first|refine ad ?_|refine aa ?_)
 refine bt U ?_;rw[gE]
theorem lZ (f:ab) (hE:cK f) (hn:f.q.length≤1000) (m:lk) (b a:Int) (x y:AV):aS prog E 79 [tX f x y,.agg [.i m.1,.i m.2],.i b,.i a] (.bool (eW f m b a)):=by
 refine zm func79 U (by decide) U<|Z<|zx (cs:=_) U U U<|ah U<|Y<|za<|zd<|Z<|ao Y9 U j9 U U<|aD jg U<|aq U U<|ah U<|Y<|zh U (fun c0=>?_) (fun c0=>?_)
 ·refine Z<|ah U<|Y<|zf ?_
  repeat (first|refine ad ?_|refine aa ?_)
  refine bt U ?_;rw[eW,if_pos c0]
 refine Z<|ao Y9 U j9 U U<|aD jg U<|C U<|au U U<|ah U<|Y<|zq U (fun c1=>?_) (fun c1=>?_)
 ·have d1:m.1=b:=by simpa using c1
  refine Z<|ao Y9 U j9 U U<|aD jg U<|C U<|aq U U<|ah U<|Y<|zf ?_
  repeat (first|refine ad ?_|refine aa ?_)
  refine bt U ?_;rw[eW,if_neg c0,if_pos d1]
 have d1:¬m.1=b:=by simpa using c1
 refine zc<|Z<|X (nT U)<|ao Y9 U j9 U U<|aD jg U<|C U<|zb (FN f hE hn m.1 b x y) U<|ah U<|Y<|zf ?_
 repeat (first|refine ad ?_|refine aa ?_)
 refine bt U ?_;rw[eW,if_neg c0,if_neg d1]
theorem oE {f:ab} {v:Int} (h:bn f v=true):0≤v∧(dG f)[v.toNat]?=some (aE f v):=by
 have h1:0≤v∧v<f.v.length:=by simpa [bn] using h
 refine ⟨h1.1,?_⟩;have:=kJ (f:=f) (v:=v.toNat) (by omega)
 rwa [show ((v.toNat:Nat):Int)=v by omega] at this
theorem xS (f:ab) (hE:cK f) (hn:f.q.length≤1000) (i k:Nat) (v:Int) (hv:bn f v=true) (x y:AV) :
  aS prog E 141 ([.i v]++[.pf [tX f x y],.pf [.fro 2 ((dG f).map eP.row)],.pf [.i i],.pf [.i k]]) (.bool (!eW f (aE f v) i k)):=by
 obtain ⟨hv0,hvg⟩:=oE hv;refine zm func141 U (by decide) U<|Z<|ah U<|Y<|za<|zn (fun j=>false) (by kernel_rfl) U (zk (.rest _))<|D 0 U (q8 (c:=.pf _) isAgg143 U)<|D 1 U (gJ Xa U)<|D 2 U (dC U)<|D 3 U (bD v.toNat Zm Ya U U (by omega) hvg)<|D 4 U (yj isAgg114 Ya U U)<|D 5 U (d9 jg U)<|D 6 U (d9 jg U)<|bp 7 U<|zb (lZ f hE hn (aE f v) i k x y) U<|Y<|D 8 U (Gv.not U)<|D 9 U (sx U)<|dS<|zf ?_
 repeat (first|refine ad ?_|refine aa ?_)
 refine bt U ?_
 rfl
set_option maxHeartbeats 4000000 in
theorem AH (f:ab) (hE:cK f) (hf:small f) (hS:bN f) (i:Nat) (hi:i<f.q.length) (x y:AV) :
  aS prog E 103 [.agg (bH f),tX f x y,.fro 2 ((dG f).map eP.row),.i i] (.bool (N9 f i)):=by
 have hn:=hf.2.2.1;obtain ⟨b,hbk⟩:∃b,f.q[i]=b:=⟨_,rfl⟩;have hget:f.q[i]?=some b:=by rw[qt hi,hbk]
 have hmem:b∈f.q:=hbk▸qx hi;obtain ⟨hb0,hb1,hb2,hb3,hb4⟩:=hf.2.2.2.2 b hmem;obtain ⟨hPh,hIn,hTm⟩:=hS.2.2.2.2.2 b hmem;rw[tR hget];refine zm func103 U (by decide) U<|Z<|zx (cs:=_) U U U<|zx (cs:=[_]) U U U<|zx (cs:=[_]) U U U<|zx (cs:=[_]) U U U<|ah U<|Y<|Z<|ao jf U Zd U U<|aK Zf U<|aD jg U<|X (bD i jr Z1 U U U hget)<|ae Ye Z1 U U<|zp (cs:=[.e,.n,.n,.i 0,.i 0,.i 0,.i 0]) Zh U U<|fun i9=>zi Z1 U U U U U U .head U<|y9 (zz (t:=9) U .head)<|Y<|za<|Z<|ao ji U Zv U U<|aK Yf U<|am Z6 U<|C U<|Y<|zd<|zu (γ:=Nat) [4,5,6,7,9,23,24] (fun j=>[(25,.i j)]) (fun j=>[]) (fun j=>j≤b.p.length∧(b.p.take j).all (MO f)=true) (fun j=>b.p.length - j) 0 aN aJ (⟨qw _,U⟩) ?_;rintro j ⟨hj,hjall⟩;refine Z<|aq U U<|Y<|za<|zh U (fun cj=>?_) (fun cj=>?_)
 ·have hj2:j<b.p.length:=by simp at cj;omega
  obtain ⟨p,hp⟩:∃p,b.p[j]=p:=⟨_,rfl⟩;have hpm:p∈b.p:=hp▸qx hj2;obtain ⟨hpd,hpl,hpn,hpa,hpf⟩:=hPh p hpm;have hpb:=hb3 p hpm;refine zc<|za<|zd<|Z<|X (bD j Z6 Ze U U U (by rw[qt hj2,hp])) ?_;refine ae Ys Ze U U<|zp (cs:=[.i 0,.n,.n]) Y0 U U<|fun i11=>zi Ze U U U U U U .head U<|y9 (zz (t:=11) U .head)<|Y<|Z<|ao Z3 U jh U U<|aK jy U<|am j7 U<|C U<|Y<|zd<|zu (γ:=Nat) [4,5,6,7,9,11,23,24,25,30,31] (fun k=>[(32,.i k)]) (fun k=>[]) (fun k=>k≤p.args.length∧((p.args.zip p.w).take k).all (fun q=>eW f (aE f q.1) q.2 (eM f q.2))=true) (fun k=>p.args.length - k) 0 aN aJ (⟨qw _,U⟩) ?_;rintro k ⟨hk,hkall⟩;refine Z<|aq U U<|Y<|za<|zh U (fun ck=>?_) (fun ck=>?_)
  ·have hk2:k<p.args.length:=by simp at ck;omega
   have hk3:k<p.w.length:=by omega
   obtain ⟨v,hv⟩:∃v,p.args[k]=v:=⟨_,rfl⟩;obtain ⟨c,hc⟩:∃c,p.w[k]=c:=⟨_,rfl⟩;obtain ⟨hv0,hvg⟩:=oE (List.all_eq_true.1 hpa v (hv▸qx hk2));have hcr:0≤c∧c<f.q.length:=by have:=List.all_eq_true.1 hpf c (hc▸qx hk3);simpa [eQ] using this
   obtain ⟨d,hd⟩:∃d,f.q[c.toNat]'(by omega)=d:=⟨_,rfl⟩;have hdg:f.q[c.toNat]?=some d:=by rw[qt (by omega),hd]
   have hla:eM f c=d.s.length:=by unfold eM;rw[hdg];rfl
   have hz:k<(p.args.zip p.w).length:=by rw[List.length_zip];omega
   have hzk:(p.args.zip p.w)[k]=(v,c):=by rw[List.getElem_zip,hv,hc]
   refine zc<|za<|zd<|Z<|C U<|X (bD k j7 j9 U U U (by rw[qt hk2,hv])) ?_;refine aD jg U<|ap U<|ap U<|Y<|Z<|ao Z3 U jh U U<|aK jy U<|C U<|X (bD k j7 j9 U U U (by rw[qt hk3,hc])) ?_;refine aD jg U<|ap U<|Y<|za<|zn (fun j=>false) (by kernel_rfl) U (zk (.rest _))<|D 0 U (q8 (c:=.pf _) isAgg143 U)<|D 1 U (gJ Xa U)<|D 2 U (dC U)<|D 3 U (bD v.toNat Zm Ya U U (by omega) hvg)<|D 4 U (yj isAgg114 Ya U U)<|D 5 U (dC U)<|D 6 U (dk jf U Zd U U)<|D 7 U (gJ Zf U)<|D 8 U (dC U)<|D 9 U (bD c.toNat jr Z1 U U (by omega) hdg)<|D 10 U (dk ji U Zw U U)<|D 11 U (gJ Y3 U)<|D 12 U (Gv.lenM Z4 U)<|bp 13 U<|zb (lZ f hE hn (aE f v) c d.s.length x y) U<|Y<|D 14 U (Gv.not U)<|dS<|zq U (fun cq=>?_) (fun cq=>?_)
   ·have hq:eW f (aE f v) c (eM f c)=false:=by rw[hla];simpa using cq
    refine Z<|ah U<|Y<|zf ?_
    repeat (first|refine ad ?_|refine aa ?_)
    refine bt U ?_;rw[vA,show b.p.all (MO f)=false from Bool.eq_false_iff.2 (dW hj2 (by rw[hp];unfold MO;exact Bool.eq_false_iff.2 (dW hz (by rw[hzk];exact hq))))];rfl
   have hq:eW f (aE f v) c (eM f c)=true:=by rw[hla];simpa using cq
   refine zc<|bQ U U ?_;exact ⟨k+1,sX,aN,aJ,⟨hk2,cD hz hkall (by rw[hzk];exact hq)⟩,by omega⟩
  have hkn:k=p.args.length:=by simp at ck;omega
  have hzl:(p.args.zip p.w).length=p.args.length:=by rw[List.length_zip];omega
  rw[hkn,←hzl,qy] at hkall;refine zt<|bQ U U ?_;exact ⟨j+1,lI,aN,aJ,⟨hj2,cD hj2 hjall (by rw[hp];exact hkall)⟩,by omega⟩
 have hjn:j=b.p.length:=by simp at cj;omega
 subst hjn;rw[qy] at hjall;refine zt<|za<|Z<|ao ji U Zw U U<|aK Y3 U<|am Z4 U<|C U<|Y<|zd<|zu (γ:=Nat) [5,6,7,9,60,61] (fun k=>[(62,.i k)]) (fun k=>[]) (fun k=>k≤b.s.length∧((b.s.zipIdx).take k).all (HR f i)=true) (fun k=>b.s.length - k) 0 aN aJ (⟨qw _,U⟩) ?_;rintro k ⟨hk,hkall⟩;refine Z<|aq U U<|Y<|za<|zh U (fun ck=>?_) (fun ck=>?_)
 ·have hk2:k<b.s.length:=by simp at ck;omega
  obtain ⟨z,hzk⟩:∃z,b.s[k]=z:=⟨_,rfl⟩;have hzm:z∈b.s:=hzk▸qx hk2;have hI:=fG (hIn z hzm);have hzl:=hb4 z hzm;have hzi:k<b.s.zipIdx.length:=by simp;exact hk2
  have hze:b.s.zipIdx[k]=(z,k):=by simp[hzk]
  refine zc<|za<|zd<|Z<|C U<|X (bD k Z4 Z9 U U U (by rw[qt hk2,hzk])) ?_;refine ae Yg Z9 U U<|zp (cs:=[.i 0]) Xe U U<|fun i15=>zp (cs:=[.i 0,.i 0,.n,.i 0]) Zo U U<|fun i16=>zi j9 U U U U U U .t1 U<|y9 (zz (t:=15) U .t1)<|zi Z9 U U U U U U .head U<|y9 (zz (t:=16) U .head)<|Y<|Z<|ao jd U jh U U<|aK jy U<|X (Gv.func U U)<|zb (oD z.args (by omega) (fun v hv=>xS f hE hn i k v (hI.args v hv) x y)) U<|Y<|zq U (fun cq=>?_) (fun cq=>?_)
  ·have hq:HR f i (z,k)=false:=by
    unfold HR;rw[Bool.eq_false_iff];intro h;obtain ⟨v,hv1,hv2⟩:=List.any_eq_true.1 (show (z.args.any fun v=>!eW f (aE f v) i k)=true by simpa using cq);have:=List.all_eq_true.1 h v hv1;rw[this] at hv2;cases hv2
   refine Z<|ah U<|Y<|zf ?_
   repeat (first|refine ad ?_|refine aa ?_)
   refine bt U ?_;rw[vA,hjall,show b.s.zipIdx.all (HR f i)=false from Bool.eq_false_iff.2 (dW hzi (by rw[hze];exact hq))];rfl
  have hq:HR f i (z,k)=true:=by
   unfold HR;rw[wd];intro v hv;have h0:(z.args.any fun v=>!eW f (aE f v) i k)=false:=by simpa using cq
   have:=List.any_eq_false.1 h0 v hv
   simpa using this
  refine zc<|bQ U U ?_;exact ⟨k+1,rX,aN,aJ,⟨hk2,cD hzi hkall (by rw[hze];exact hq)⟩,by omega⟩
 have hkn:k=b.s.length:=by simp at ck;omega
 rw[hkn,show b.s.length=b.s.zipIdx.length by simp,qy] at hkall;refine zt<|za<|zn (fun j=>false) (by kernel_rfl) U (zk (.rest _))<|D 0 U (dk ji U Zp U U)<|D 1 U (dk jj U Y5 U U)<|D 2 U (d9 Yk U)<|D 3 U (Gv.eqlI U U)<|D 4 U (Cl U)<|bJ.case (s:=76) U (fun c0=>?_) (fun c0=>?_)
 ·have d0:b.t.kind=0:=by simpa using c0
  refine fX 5 U U U c0<|fX 6 U U U c0<|fX 7 U U U c0<|fX 8 U U U c0<|fX 9 U U U c0<|fX 10 U U U c0<|fX 11 U U U c0<|fX 12 U U U c0<|fX 13 U U U c0<|fX 14 U U U c0<|fX 15 U U U c0<|fX 16 U U U c0<|D 17 U (G4 U c0 U)<|D 18 U (sx U)<|dS<|zf ?_
  repeat (first|refine ad ?_|refine aa ?_)
  refine bt U ?_;rw[vA,hjall,hkall,NO,d0];rfl
 have d0:¬b.t.kind=0:=by simpa using c0
 obtain ⟨hv0,hvg⟩:=oE (gl hTm d0);refine iU 5 U U U c0 (q8 (c:=.pf _) isAgg143 U)<|iU 6 U U U c0 (gJ Xa U)<|iU 7 U U U c0 (dk ji U Zp U U)<|iU 8 U U U c0 (dk jj U j9 U U)<|iU 9 U U U c0 (d9 jg U)<|iU 10 U U U c0 (bD b.t.var.toNat Zm Ya U U (by omega) hvg)<|iU 11 U U U c0 (yj isAgg114 Ya U U)<|iU 12 U U U c0 (d9 jg U)<|iU 13 U U U c0 (dk ji U Zw U U)<|iU 14 U U U c0 (gJ Y3 U)<|iU 15 U U U c0 (Gv.lenM Z4 U)<|bp 16 U<|M U U c0<|zb (lZ f hE hn (aE f b.t.var) i b.s.length x y) U<|Y<|D 17 U (GT U c0 U)<|D 18 U (sx U)<|dS<|zf ?_
 repeat (first|refine ad ?_|refine aa ?_)
 refine bt U ?_;rw[vA,hjall,hkall,NO,wb d0];rfl
theorem tY (f:ab) (hf:small f) (hL:bS E):aS prog E 66 [.agg (bH f)] (.i (if (bv f&&eC f)=true then 0 else 3)):=by
 have hn:=hf.2.2.1;refine zm func66 U (by decide) U<|Z<|zx (cs:=_) U U U<|ap U<|Y<|za<|Z<|ae Z2 jk U U<|zb (xO f hf hL) U<|aT U U<|aw U<|zo (s:=10) U (fun c1=>?_) (fun c1=>?_)
 ·have d1:(bv f&&dO f)=false:=by
   cases h:(bv f&&dO f) with
   |false=>rfl
   |true=>rw[h] at c1;simp at c1
  refine H U U c1<|H U U c1<|H U U c1<|aA U c1 U<|aw U<|H U U U<|H U U U<|H U U U<|aA U U U<|Y<|ym U U<|Z<|ap U<|Y<|zf ?_
  repeat (first|refine ad ?_|refine aa ?_)
  refine gu U ?_;rw[show (bv f&&eC f)=false by unfold eC;cases h:bv f<;>simp_all];rfl
 have d1:(bv f&&dO f)=true:=by
  cases h:(bv f&&dO f) with
  |true=>rfl
  |false=>rw[h] at c1;simp at c1
 have ht:bv f=true:=by simp at d1;exact d1.1
 have hj:dO f=true:=by simp at d1;exact d1.2
 have hE:=d5 ht;have hS:=d6 ht;refine M U U c1<|ae Z2 jk U U<|M U U c1<|zb (Ax f hf hL ht) U<|M U U c1<|zb (tS (ik (aj f) f.q.length) false (by rw[tK];omega)) U<|ay U c1 U<|aw U<|zo (s:=15) U (fun c2=>?_) (fun c2=>?_)
 ·refine H U U c2<|H U U c2<|H U U c2<|aA U c2 U<|Y<|ym U U<|Z<|ap U<|Y<|zf ?_
  repeat (first|refine ad ?_|refine aa ?_)
  refine gu U ?_;rw[show eC f=false by unfold eC;simp_all];simp
 refine M U U c2<|ae Z2 jk U U<|M U U c2<|zb (FQ f hf hS) U<|M U U c2<|aL U<|ay U c2 U<|Y<|zq U (fun c3=>?_) (fun c3=>?_)
 ·refine Z<|ap U<|Y<|zf ?_
  repeat (first|refine ad ?_|refine aa ?_)
  refine gu U ?_;rw[show eC f=false by unfold eC;simp_all];simp
 refine zc<|Z<|ae Z2 jk U U<|zb (AG f hf hL ht) U<|X (v8 U)<|X (Gv.extract (v:=.pf _) U U)<|X (nU U U)<|X (q9 (v:=.pf _) U)<|ap U<|Y<|za<|Z<|C U<|aT U U<|Y<|yl U U<|zc<|Z<|ae Z2 jk U U<|zb (m3 f hf hL ht) U<|X (oU U)<|Y<|za<|Z<|ao jf U Zd U U<|aK Zf U<|am jr U<|C U<|Y<|zd<|zu (γ:=Nat) [1,3,5,32] (fun k=>[(33,.i k)]) (fun k=>[]) (fun k=>k≤f.q.length∧(List.range k).all (N9 f)=true) (fun k=>f.q.length - k) 0 aN aJ (⟨qw _,U⟩) ?_;rintro k ⟨hk,hall⟩;refine Z<|aq U U<|Y<|za<|zh U (fun ck=>?_) (fun ck=>?_)
 ·have hk2:k<f.q.length:=by simp at ck;omega
  refine zc<|za<|zd<|Z<|C U<|ap U<|Y<|Z<|ae Z2 jk U U<|X (nT U)<|bj U<|C U<|zb (AH f hE hf hS k hk2 (sd eI (En f)) .any) U<|aL U<|Y<|zq U (fun cq=>?_) (fun cq=>?_)
  ·refine Z<|ap U<|Y<|zf ?_
   repeat (first|refine ad ?_|refine aa ?_)
   refine gu U ?_;rw[show eC f=false by unfold eC;rw[show CS f=false from eG hk2 (by simpa using cq)];simp];simp
  refine zc<|bQ U U ?_;exact ⟨k+1,f7,aN,aJ,⟨hk2,du hall (by simpa using cq)⟩,by omega⟩
 have hkn:k=f.q.length:=by simp at ck;omega
 subst hkn;refine zt<|Z<|ap U<|Y<|zf ?_
 repeat (first|refine ad ?_|refine aa ?_)
 refine gu U ?_;rw[ht,show eC f=true by unfold eC;rw[show CS f=true from hall];simp_all];rfl
def qM (f:ab):Bool:=f.q.all fun b=>!(b.s.any fun x=>decide (x.op=25)||decide (x.op=26))
end
section
open Go.Proofs.Tryz
structure FrS (E:Int→List Int) (a shut:Int) (n:Nat) (out:List Bool):Prop where
 len:out.length=n
 sound:∀b:Nat,out[b]?=some true→kc E a shut b
def CZ (a:Int) (out:List Bool) (shut x:Int):Prop:=x≠shut∧(x=a∨gb out x=true)
instance (a:Int) (out:List Bool) (shut x:Int):Decidable (CZ a out shut x):=by unfold CZ;infer_instance
def FR (E:Int→List Int) (a shut:Int) (out:List Bool) (k:Nat):Prop:=∀x:Nat,x<k→CZ a out shut x→∀y:Nat,(y:Int)∈E x→(y:Int)≠shut→gb out y=true
def Oc (E:Int→List Int) (a shut:Int) (out:List Bool) (x j:Nat):Prop:=CZ a out shut x→∀y:Nat,y<j→(y:Int)∈E x→(y:Int)≠shut→gb out y=true
def oF (out:List Bool):Nat:=(out.filter fun b=>!b).length
theorem oG (out:List Bool) (k:Nat):gb out (k:Int)=(out[k]?).getD false:=rfl
theorem kL {out:List Bool} {k:Nat} (h:k<out.length):out[k]?=some (gb out k):=by
 rw[oG,qt h];rfl
theorem FrS.begin (E:Int→List Int) (a shut:Int) (n:Nat):FrS E a shut n (List.replicate n false):=⟨by simp,fun b h=>by
 rw[List.getElem?_replicate] at h;split at h<;>simp at h⟩
theorem FrS.set {E:Int→List Int} {a shut:Int} {n:Nat} {out:List Bool} (h:FrS E a shut n out) {x y:Nat} (hx:CZ a out shut x) (ha:a≠shut∨(x:Int)≠a) (he:(y:Int)∈E x) (hy:(y:Int)≠shut):FrS E a shut n (out.set y true):=by
 refine ⟨by rw[List.length_set];exact h.len,fun b hb=>?_⟩
 by_cases e:b=y
 ·subst e;refine kc.step (x:=x) ?_ he hy;rcases hx.2 with e|hg
  ·left
   refine ⟨e,?_⟩;rw[←e];exact hx.1
  right
  by_cases hlt:x<out.length
  ·exact h.sound x (by rw[kL hlt,hg])
  rw[oG,List.getElem?_eq_none (by omega)] at hg;simp at hg
 rw[List.getElem?_set_ne (fun e2=>e e2.symm)] at hb;exact h.sound b hb
theorem C0 {out:List Bool} {y:Nat} (hy:y<out.length) (h:gb out y=false):oF (out.set y true)+1=oF out:=lT out y (by rw[kL hy,h])
structure Od (E:Int→List Int) (a shut:Int) (n:Nat) (o0 out:List Bool) (again:Bool):Prop extends FrS E a shut n out where
 less:oF out≤oF o0
 more:again=true→oF out<oF o0
 same:again=false→out=o0
theorem Od.hit {E:Int→List Int} {a shut:Int} {n:Nat} {o0 out:List Bool} {again:Bool} (h:Od E a shut n o0 out again) {x y:Nat} (hx:CZ a out shut x) (he:(y:Int)∈E x) (hy:(y:Int)≠shut) (hlt:y<n) (hf:gb out y=false):Od E a shut n o0 (out.set y true) true:=by
 have h1:=C0 (out:=out) (y:=y) (by rw[h.len];exact hlt) hf;have h2:=h.less;exact { h.toFrS.set hx (by
      by_cases e:(x:Int)=a
      ·left;rw[←e];exact hx.1
      exact .inr e) he hy with
     less:=by omega
     more:=fun _=>by omega
     same:=fun e=>by cases e }
theorem FrS.all {E:Int→List Int} {a shut:Int} {n:Nat} {out:List Bool} (hE:gx E n) (ha:a=a∧0≤a∧a<n) (h:FrS E a shut n out) (hc:FR E a shut out n) (b:Nat) (hb:b<n):gb out b=true↔kc E a shut b:=by
 constructor
 ·intro hg;exact h.sound b (by rw[kL (by rw[h.len];exact hb),hg])
 intro hf;have:=kc.closed (out:=fun x:Int=>0≤x∧x<n∧gb out x=true) (fun x y h1 h2 h3 h4=>by
  have hxr:0≤x∧x<n:=by
   rcases h2 with e|h2
   ·rw[e];exact ha.2
   exact ⟨h2.1,h2.2.1⟩
  have hy:=hE.rng x hxr.1 hxr.2 y h3;have e1:((x.toNat:Nat):Int)=x:=we hxr.1;have e2:((y.toNat:Nat):Int)=y:=we hy.1;refine ⟨hy.1,hy.2,?_⟩;have:=hc x.toNat (by omega) ⟨by rw[e1];exact h1,by
   rw[e1];rcases h2 with e|h2
   ·exact .inl e
   exact .inr h2.2.2⟩ y.toNat (by rw[e1,e2];exact h3) (by rw[e2];exact h4)
  rwa [e2] at this) hf
 exact this.2.2
open Classical in
noncomputable def m4 (E:Int→List Int) (n:Nat) (a shut:Int):List Bool:=(ba n).map fun b=>decide (kc E a shut b)
open Classical in
theorem FrS.eq {E:Int→List Int} {a shut:Int} {n:Nat} {out:List Bool} (hE:gx E n) (ha:0≤a∧a<n) (h:FrS E a shut n out) (hc:FR E a shut out n):out=m4 E n a shut:=by
 refine List.ext_getElem (by rw[h.len];unfold m4;rw[w2,cA]) fun k h1 h2=>?_;have hk:k<n:=by rw[h.len] at h1;exact h1
 have:=h.all hE ⟨rfl,ha⟩ hc k hk;have e1:out[k]=gb out k:=by have:=kL h1;rw[qt h1] at this;simpa using this
 have e2:(m4 E n a shut)[k]=decide (kc E a shut k):=by
  have h3:(m4 E n a shut)[k]?=some (decide (kc E a shut k)):=by unfold m4;rw[w3,ot hk];rfl
  rw[qt h2] at h3
  simpa using h3
 rw[e1,e2]
 by_cases hf:kc E a shut k
 ·rw[wa hf];exact this.2 hf
 rw[wb hf];exact Bool.eq_false_iff.2 fun e=>hf (this.1 e)
open Classical in
noncomputable def fz (E:Int→List Int) (n:Nat) (shut:Int):List Bool:=(ba n).map fun b=>decide (kV E (fun x=>x≠shut) 0 b)
open Classical in
theorem FS {E:Int→List Int} {n k:Nat} {a shut:Int} (hk:k<n):(m4 E n a shut)[k]?=some (decide (kc E a shut k)):=by unfold m4;rw[w3,ot hk];rfl
open Classical in
theorem l3 {E:Int→List Int} {n k:Nat} {shut:Int} (hk:k<n):(fz E n shut)[k]?=some (decide (kV E (fun x=>x≠shut) 0 k)):=by unfold fz;rw[w3,ot hk];rfl
theorem nG (E:Int→List Int) (n:Nat) (a shut:Int):(m4 E n a shut).length=n:=by unfold m4;rw[w2,cA]
theorem oH (E:Int→List Int) (n:Nat) (shut:Int):(fz E n shut).length=n:=by unfold fz;rw[w2,cA]
open Classical in
theorem FT {E:Int→List Int} {n:Nat} (shut:Int):(m4 E n 0 shut).set 0 (decide (shut≠0))=fz E n shut:=by
 refine List.ext_getElem? fun k=>?_
 by_cases hk:k<n
 ·rw[l3 hk];have hiff:=Hx (E:=E) (shut:=shut) (b:=(k:Int))
  by_cases e:k=0
  ·subst e;rw[List.getElem?_set_self (by rw[nG];exact hk)];refine congrArg some (Bool.eq_iff_iff.2 ?_);rw[decide_eq_true_iff,decide_eq_true_iff,←hiff]
   constructor
   ·intro h;exact .inl ⟨rfl,h⟩
   rintro (⟨_,h⟩|⟨h,_⟩)
   ·exact h
   exact absurd rfl h
  rw[List.getElem?_set_ne (fun e2=>e e2.symm),FS hk];refine congrArg some (Bool.eq_iff_iff.2 ?_);rw[decide_eq_true_iff,decide_eq_true_iff,←hiff]
  constructor
  ·intro h;exact .inr ⟨by omega,h⟩
  rintro (⟨h,_⟩|⟨_,h⟩)
  ·omega
  exact h
 rw[List.getElem?_eq_none (by rw[List.length_set,nG];omega),List.getElem?_eq_none (by rw[oH];omega)]
end
section
open Go.Proofs.Tryz
open Go.Proofs Go.Lib Go.Shelf Go.RowKit
variable {E:World}
set_option maxRecDepth 20000
theorem iz (t:fJ) (b:Int):b∈cS t↔(t.kind=0∧t.to0=b)∨(t.kind=1∧(t.to0=b∨t.to1=b)):=by
 unfold cS
 by_cases h0:t.kind=0
 ·rw[if_pos h0];simp[h0];exact eq_comm
 rw[if_neg h0]
 by_cases h1:t.kind=1
 ·rw[if_pos h1]
  by_cases h2:t.to0=t.to1
  ·rw[if_pos h2];simp[h1,h2];exact eq_comm
  rw[if_neg h2];simp[h1]
  constructor
  ·rintro (h|h);exact .inl h.symm;exact .inr h.symm
  rintro (h|h);exact .inl h.symm;exact .inr h.symm
 rw[if_neg h1];simp[h0,h1]
theorem l4 (f:ab) (hn:f.q.length≤1000) (a b:Int) (h0:0≤a) (ha:a<f.q.length):aS prog E 48 [.agg (bH f),.i a,.i b] (.bool (decide (b∈aj f a))):=by
 obtain ⟨c,hc⟩:∃c,f.q[a.toNat]'(by omega)=c:=⟨_,rfl⟩;have hget:f.q[a.toNat]?=some c:=by rw[qt (by omega),hc]
 have hE:aj f a=cS c.t:=by rw[lV h0 (by omega),hc]
 rw[hE];refine zm func48 U (by decide) U<|Z<|zx (cs:=_) U U U<|ah U<|Y<|Z<|ao jf U Zd U U<|aK Zf U<|C U<|X (bD a.toNat jr Z1 U U (by omega) hget)<|ao ji U Zp U U<|ae Xl Zp U U<|zp (cs:=[.i 0,.i 0,.i 0,.i 0]) Xg U U<|fun i7=>zi Zp U U U U U U .head U<|y9 (zz (t:=7) U .head)<|Y<|Z<|ao jj U Y5 U U<|aD Yk U<|au U U<|aw U<|zo (s:=17) U (fun c1=>?_) (fun c1=>?_)
 ·refine M U U c1<|ao jj U Zi U U<|M U U c1<|X (yt (j:=0) Z8 j9 U U U (by decide) U)<|M U U c1<|aD jg U<|M U U c1<|C U<|M U U c1<|au U U<|aA U c1 U<|aw U<|zo (s:=24) U (fun c2=>?_) (fun c2=>?_)
  ·refine H U U c2<|H U U c2<|H U U c2<|H U U c2<|zg U U<|zg U U<|zg U U<|zg U U<|zg U U<|zg U U<|zg U U<|zg U U<|zg U U<|zg U U<|zg U U<|zg U U<|H U U c2<|aA U c2 U<|ah U<|Y<|zf ?_
   repeat (first|refine ad ?_|refine aa ?_)
   refine bt U<|congrArg AV.bool ?_;rw[w4];simp only[wi,iz];simp_all
  refine M U U c2<|ao jj U Y5 U U<|M U U c2<|aD Yk U<|M U U c2<|au U U<|M U U c2<|aw U<|zo (s:=28) U (fun c3=>?_) (fun c3=>?_)
  ·refine M U U c3<|ao jj U Zi U U<|M U U c3<|X (yt (j:=0) Z8 j9 U U U (by decide) U)<|M U U c3<|aD jg U<|M U U c3<|C U<|M U U c3<|au U U<|M U U c3<|aw U<|zo (s:=34) U (fun c4=>?_) (fun c4=>?_)
   ·refine H U U c4<|H U U c4<|H U U c4<|H U U c4<|H U U c4<|M U U c3<|aA U c4 U<|M U U c2<|aA U c3 U<|ay U c2 U<|ah U<|Y<|zf ?_
    repeat (first|refine ad ?_|refine aa ?_)
    refine bt U<|congrArg AV.bool ?_;rw[w4];simp only[wi,iz];simp_all
   refine M U U c4<|ao jj U Zi U U<|M U U c4<|X (yt (j:=1) Z8 j9 U U U (by decide) U)<|M U U c4<|aD jg U<|M U U c4<|C U<|M U U c4<|au U U<|M U U c3<|ay U c4 U<|M U U c2<|aA U c3 U<|ay U c2 U<|ah U<|Y<|zf ?_
   repeat (first|refine ad ?_|refine aa ?_)
   refine bt U<|congrArg AV.bool ?_;rw[w4];simp only[wi,iz];simp_all
  refine H U U c3<|H U U c3<|H U U c3<|H U U c3<|H U U c3<|H U U c3<|zg U U<|zg U U<|zg U U<|zg U U<|zg U U<|H U U c3<|M U U c2<|ay U c3 U<|ay U c2 U<|ah U<|Y<|zf ?_
  repeat (first|refine ad ?_|refine aa ?_)
  refine bt U<|congrArg AV.bool ?_;rw[w4];simp only[wi,iz];simp_all
 refine H U U c1<|H U U c1<|H U U c1<|H U U c1<|H U U c1<|ay U c1 U<|aw U<|M U U U<|ao jj U Y5 U U<|M U U U<|aD Yk U<|M U U U<|au U U<|M U U U<|aw U<|zo (s:=28) U (fun c5=>?_) (fun c5=>?_)
 ·refine M U U c5<|ao jj U Zi U U<|M U U c5<|X (yt (j:=0) Z8 j9 U U U (by decide) U)<|M U U c5<|aD jg U<|M U U c5<|C U<|M U U c5<|au U U<|M U U c5<|aw U<|zo (s:=34) U (fun c6=>?_) (fun c6=>?_)
  ·refine H U U c6<|H U U c6<|H U U c6<|H U U c6<|H U U c6<|M U U c5<|aA U c6 U<|M U U U<|aA U c5 U<|ay U U U<|ah U<|Y<|zf ?_
   repeat (first|refine ad ?_|refine aa ?_)
   refine bt U<|congrArg AV.bool ?_;rw[w4];simp only[wi,iz];simp_all
  refine M U U c6<|ao jj U Zi U U<|M U U c6<|X (yt (j:=1) Z8 j9 U U U (by decide) U)<|M U U c6<|aD jg U<|M U U c6<|C U<|M U U c6<|au U U<|M U U c5<|ay U c6 U<|M U U U<|aA U c5 U<|ay U U U<|ah U<|Y<|zf ?_
  repeat (first|refine ad ?_|refine aa ?_)
  refine bt U<|congrArg AV.bool ?_;rw[w4];simp only[wi,iz];simp_all
 refine H U U c5<|H U U c5<|H U U c5<|H U U c5<|H U U c5<|H U U c5<|zg U U<|zg U U<|zg U U<|zg U U<|zg U U<|H U U c5<|M U U U<|ay U c5 U<|ay U U U<|ah U<|Y<|zf ?_
 repeat (first|refine ad ?_|refine aa ?_)
 refine bt U<|congrArg AV.bool ?_;rw[w4];simp only[wi,iz];simp_all
theorem KR {a shut x:Int} {out:List Bool} {y:Nat} (hx:CZ a out shut x) (h0:0≤x) (hy:y<out.length):CZ a (out.set y true) shut x:=by
 refine ⟨hx.1,?_⟩;rcases hx.2 with h|h
 ·exact .inl h
 right
 unfold gb at h ⊢;rw[List.getElem?_set]
 by_cases e:y=x.toNat
 ·rw[if_pos e,if_pos (by omega)];rfl
 rw[if_neg e];exact h
set_option maxHeartbeats 4000000 in
theorem HV (f:ab) (hE:cK f) (hn:f.q.length≤1000) (a shut:Int) (h0:0≤a) (ha:a<f.q.length):aX prog E 88 [.agg (bH f),.i a,.i shut] []
  fun x O=>∃i:Nat,x=.j i f.q.length∧O=[(i,.u 1 4 (cB (m4 (aj f) f.q.length a shut)))]:=by
 have hG:=hE.grph;obtain ⟨n,hnn⟩:∃n,f.q.length=n:=⟨_,rfl⟩;rw[hnn] at hG hn ha ⊢;refine zm func88 U (by decide) U<|Z<|zx (cs:=_) U U U<|X (kT U)<|Y<|Z<|ao jf U Zd U U<|aK Zf U<|am jr U<|ap U<|Y<|Z<|C U<|qk (m:=n) ju Yr U U U U U (by omega) (by omega) (by show (1:Int)*_≤_;omega) (by omega)<|fun i16=>X (eO U)<|Y<|za<|Z<|ah U<|Y<|zd<|zu (γ:=List Bool × Bool) [1,2,3,7,8] (fun g=>[(9,.bool g.2)]) (fun g=>[(i16,.u 1 4 (cB g.1))]) (fun g=>FrS (aj f) a shut n g.1∧(g.2=false→FR (aj f) a shut g.1 n)) (fun g=>2*oF g.1+(if g.2=true then 1 else 0)) (List.replicate n false,true) aN aJ (⟨FrS.begin _ _ _ _,fun h=>by cases h⟩) ?_;rintro ⟨o0,again⟩ ⟨hS0,hfin⟩;try dsimp only at *
 refine za<|Z<|aw U<|Y<|zq U (fun ca=>?_) (fun ca=>?_)
 ·have ca:again=true:=by simpa using ca
  subst ca;refine zc<|zd<|Z<|ah U<|Y<|Z<|C U<|C U<|Y<|zd<|zu (γ:=Nat × List Bool × Bool) [1,2,3,7,8,18] (fun g=>[(19,.i g.1),(9,.bool g.2.2)]) (fun g=>[(i16,.u 1 4 (cB g.2.1))]) (fun g=>g.1≤n∧Od (aj f) a shut n o0 g.2.1 g.2.2∧(g.2.2=false→FR (aj f) a shut g.2.1 g.1)) (fun g=>n - g.1) (0,o0,false) cV aJ (⟨qw _,⟨hS0,Nat.le_refl _,fun h=>(by cases h),fun _=>U⟩,fun _ x hx=>by omega⟩) ?_;rintro ⟨x,out,ag⟩ ⟨hx,hR,hcl⟩;try dsimp only at *
  have hol:=hR.len;refine Z<|aq U U<|Y<|za<|zh U (fun cx=>?_) (fun cx=>?_)
  ·have hx2:x<n:=by omega
   have hgx:out[x]?=some (gb out (x:Int)):=kL (by omega);refine zc<|za<|zd<|Z<|C U<|ap U<|Y<|za<|za<|y3 (γ:=Bool) [1,2,3,7,8,9,10,18,19] (fun u=>[(36,.bool u)]) (fun u=>[(i16,.u 1 4 (cB out))]) (fun u=>u=!decide (CZ a out shut x)) ?_ (fun _ _ h=>h) ?_
   ·refine bZ<|C U<|C U<|au U U<|aw U<|zo (s:=25) U (fun c7=>?_) (fun c7=>?_)
    ·refine H U U c7<|H U U c7<|H U U c7<|H U U c7<|zg U U<|zg U U<|zg U U<|zg U U<|zg U U<|H U U c7<|aA U c7 U<|Y ?_;exact ⟨_,p9,aN,aJ,by simp_all[CZ]⟩
    refine M U U c7<|C U<|M U U c7<|C U<|M U U c7<|aT U U<|M U U c7<|aw U<|zo (s:=29) U (fun c8=>?_) (fun c8=>?_)
    ·refine M U U c8<|bX U<|M U U c8<|C U<|M U U c8<|X (y7 (j:=x) ju Zc U U U ⟨_,.head⟩ (by first|rfl|(simp[aH,aP];done)|(simp[aH,aP];omega)) hx2)<|M U U c8<|X (Gv.loadB (j:=x) Yn U ⟨_,.head⟩ hgx)<|M U U c8<|aL U<|M U U c7<|aA U c8 U<|ay U c7 U<|Y ?_;exact ⟨_,p9,aN,aJ,by simp_all[CZ]⟩
    refine H U U c8<|H U U c8<|H U U c8<|H U U c8<|H U U c8<|M U U c7<|ay U c8 U<|ay U c7 U<|Y ?_;exact ⟨_,p9,aN,aJ,by simp_all[CZ]⟩
   rintro u hu;subst hu;refine zq U (fun co=>?_) (fun co=>?_)
   ·have hno:¬CZ a out shut x:=by simpa using co
    refine zt<|bQ U U ?_;exact ⟨(x+1,out,ag),rX,cV,aJ,⟨hx2,hR,fun h z hz hok=>by rcases Nat.lt_succ_iff_lt_or_eq.1 hz with h1|h1;exact hcl h z h1 hok;exact absurd (h1▸hok) hno⟩,by dsimp only;omega⟩
   have hok:CZ a out shut x:=by simpa using co
   refine zc<|Z<|C U<|C U<|Y<|zd<|zu (γ:=Nat × List Bool × Bool) [1,2,3,7,8,10,18,19,37] (fun g=>[(38,.i g.1),(9,.bool g.2.2)]) (fun g=>[(i16,.u 1 4 (cB g.2.1))]) (fun g=>g.1≤n∧Od (aj f) a shut n o0 g.2.1 g.2.2∧CZ a g.2.1 shut x∧(g.2.2=false→FR (aj f) a shut g.2.1 x∧Oc (aj f) a shut g.2.1 x g.1)) (fun g=>n - g.1) (0,out,ag) cV aJ (⟨qw _,hR,hok,fun h=>⟨hcl h,fun _ y hy=>by omega⟩⟩) ?_;rintro ⟨y,out,ag⟩ ⟨hy,hR,hok,hcl⟩;try dsimp only at *
   have hol:=hR.len;refine Z<|aq U U<|Y<|za<|zh U (fun cy=>?_) (fun cy=>?_)
   ·have hy2:y<n:=by omega
    have hgy:out[y]?=some (gb out (y:Int)):=kL (by omega);have hstep:(ag=false→(y:Int)∈aj f x→(y:Int)≠shut→gb out y=true)→(ag=false→FR (aj f) a shut out x∧Oc (aj f) a shut out x (y+1)):=fun h1 h2=>⟨(hcl h2).1,fun ho z hz he hs=>by
     rcases Nat.lt_succ_iff_lt_or_eq.1 hz with h3|h3
     ·exact (hcl h2).2 ho z h3 he hs
     subst h3;exact h1 h2 he hs⟩
    refine zc<|za<|zd<|Z<|C U<|ap U<|Y<|Z<|C U<|C U<|aT U U<|aw U<|zo (s:=44) U (fun c1=>?_) (fun c1=>?_)
    ·have d1:(y:Int)≠shut:=by simpa using c1
     refine M U U c1<|bX U<|M U U c1<|C U<|M U U c1<|X (y7 (j:=y) ju Zc U U U ⟨_,.head⟩ (by first|rfl|(simp[aH,aP];done)|(simp[aH,aP];omega)) hy2)<|M U U c1<|X (Gv.loadB (j:=y) Yn U ⟨_,.head⟩ hgy)<|M U U c1<|aL U<|aA U c1 U<|aw U<|zo (s:=51) U (fun c2=>?_) (fun c2=>?_)
     ·have d2:gb out (y:Int)=false:=by simpa using c2
      refine M U U c2<|ae Z2 jk U U<|M U U c2<|C U<|M U U c2<|C U<|M U U c2<|zb (l4 f (by omega) (x:Int) (y:Int) (by omega) (by omega)) U<|aA U c2 U<|Y<|zq U (fun c3=>?_) (fun c3=>?_)
      ·have d3:(y:Int)∈aj f x:=by simpa using c3
       refine Z<|bX U<|C U<|X (y7 (j:=y) ju Zc U U U ⟨_,.head⟩ (by first|rfl|(simp[aH,aP];done)|(simp[aH,aP];omega)) hy2)<|yy (j:=y) Zc U U .head (by first|omega|(simp;omega))<|Y<|bZ<|ah U<|Y<|bQ U U ?_;exact ⟨(y+1,out.set y true,true),p9,cV,aJ,⟨hy2,hR.hit hok d3 d1 hy2 d2,KR hok (by omega) (by omega),fun h=>by cases h⟩,by dsimp only;omega⟩
      have d3:¬(y:Int)∈aj f x:=by simpa using c3
      refine zc<|bQ U U ?_;exact ⟨(y+1,out,ag),p9,cV,aJ,⟨hy2,hR,hok,hstep fun _ h _=>absurd h d3⟩,by dsimp only;omega⟩
     have d2:gb out (y:Int)=true:=by simpa using c2
     refine H U U c2<|H U U c2<|H U U c2<|H U U c2<|ay U c2 U<|Y<|yl U U<|zc<|bQ U U ?_;exact ⟨(y+1,out,ag),p9,cV,aJ,⟨hy2,hR,hok,hstep fun _ _ _=>d2⟩,by dsimp only;omega⟩
    have d1:(y:Int)=shut:=by simpa using c1
    refine H U U c1<|H U U c1<|H U U c1<|H U U c1<|H U U c1<|ay U c1 U<|aw U<|H U U U<|H U U U<|H U U U<|H U U U<|ay U U U<|Y<|yl U U<|zc<|bQ U U ?_;exact ⟨(y+1,out,ag),p9,cV,aJ,⟨hy2,hR,hok,hstep fun _ _ h=>absurd d1 h⟩,by dsimp only;omega⟩
   have hyn:y=n:=by omega
   refine zt<|bQ U U ?_;exact ⟨(x+1,out,ag),rX,cV,aJ,⟨hx2,hR,fun h z hz ho=>by rcases Nat.lt_succ_iff_lt_or_eq.1 hz with h1|h1;exact (hcl h).1 z h1 ho;subst h1;exact fun y2 he hs=>(by by_cases hlt:y2<n;exact (hcl h).2 ho y2 (by omega) he hs;exact absurd (hG.rng z (by omega) (by omega) _ he).2 (by omega))⟩,by dsimp only;omega⟩
  have hxn:x=n:=by omega
  subst hxn;refine zt ?_;exact ⟨(out,ag),lf,aN,aJ,⟨hR.toFrS,hcl⟩,by dsimp only;have h1:=hR.less;have h2:=hR.more;cases ag;simp;omega;have:=h2 rfl;simp;omega⟩
 have ca:again=false:=by simpa using ca
 rw[hS0.eq hG ⟨h0,ha⟩ (hfin ca)];refine zt<|Z<|bX U<|X (eO U)<|Y<|zf<|yz (x:=.j _ _) U ?_;exact ⟨i16,rfl,rfl⟩
theorem jG (f:ab) (hE:cK f) (hn:f.q.length≤1000) (shut:Int):aS prog E 47 [.agg (bH f),.i shut] (.fro 1 ((fz (aj f) f.q.length shut).map vB)):=by
 have hpos:=hE.grph.npos;refine zm func47 U (by decide) U<|Z<|zx (cs:=_) U U U<|X (kT U)<|Y<|Z<|ae Z2 jk U U<|C U<|zy U (zk (.rest _)) (HV f hE hn 0 shut (Int.le_refl _) (by omega)) ?_;rintro r8 O8 ⟨i8,rfl,rfl⟩;refine X (eO U)<|Y<|Z<|bX U<|C U<|aT U U<|X (y7 (j:=0) ju Zc U U U ⟨_,.head⟩ (by rw[aP,nG]) hpos)<|yy (j:=0) Zc U U .head (by rw[nG];exact hpos)<|Y<|Z<|bX U<|X (eO U)<|Y ?_;rw[show (!decide (shut=0))=decide (shut≠0) by simp,FT];refine yd (aR.knowB (t:=4) U .head (oH _ _ _))<|zf<|yz (x:=.fro _ _) U ?_
 rfl
end
section
open Go.Proofs.Tryz
def mF (v:Nat) (ev:List (Int × lk)):Nat:=(ev.filter fun e=>decide (e.1=(v:Int))).length
theorem nH (v:Nat) (ev:List (Int × lk)) (d:Int) (x:lk):mF v (ev++[(d,x)])=mF v ev+if d=(v:Int) then 1 else 0:=by
 unfold mF;rw[List.filter_append,qz]
 by_cases h:d=(v:Int)<;>simp[h]
theorem AJ (f:ab) (v:Nat):(aZ f v).length=mF v (ee f f.q.length):=by rw[←pw,w2];rfl
theorem Ep (v:Nat) (ev:List (Int × lk)):mF v ev≤ev.length:=List.length_filter_le _ _
theorem tZ {f:ab}:∀{n k:Nat},k≤n→n≤f.q.length→ee f k <+: ee f n
 |0,k,h,_=>by rw[show k=0 by omega];exact List.prefix_refl _
 |n+1,k,h,hn=>by
  by_cases e:k=n+1
  ·rw[e];exact List.prefix_refl _
  rw[ir (by omega)];exact (tZ (by omega) (by omega)).trans (List.prefix_append _ _)
theorem HW (i:Nat) (ps:List dh) (j:Nat):eg i (ps.take j) <+: eg i ps:=by
 unfold eg;obtain ⟨r,hr⟩:=List.take_prefix j ps;exact ⟨r.map fun p=>(p.dst,((i:Int),-1)),by rw[←w7,hr]⟩
theorem AK (i:Nat) (xs:List aB):∀(m j:Nat),j≤m→m≤xs.length→iL i (xs.take j) <+: iL i (xs.take m)
 |0,j,h,_=>by rw[show j=0 by omega];exact List.prefix_refl _
 |m+1,j,h,hm=>by
  by_cases e:j=m+1
  ·rw[e];exact List.prefix_refl _
  rw[lp i (by omega)];exact (AK i xs m j (by omega) (by omega)).trans (List.prefix_append _ _)
theorem KT {f:ab} {k j:Nat} {b:aF} (hk:k<f.q.length) (hb:f.q[k]=b) (hj:j<b.p.length):(ee f k++eg k (b.p.take j))++[(b.p[j].dst,((k:Int),(-1:Int)))] <+: ee f f.q.length:=by
 refine List.IsPrefix.trans ?_ (tZ (show k+1≤f.q.length by omega) (Nat.le_refl _));rw[ir hk,hb,qv,←nF k hj,tN];exact (List.prefix_append_right_inj _).2 ((HW k b.p (j+1)).trans (List.prefix_append _ _))
theorem HX {f:ab} {k j:Nat} {b:aF} (hk:k<f.q.length) (hb:f.q[k]=b) (hj:j<b.s.length) (h0:0≤b.s[j].dst):(ee f k++eg k b.p++iL k (b.s.take j))++[(b.s[j].dst,((k:Int),(j:Int)))] <+: ee f f.q.length:=by
 refine List.IsPrefix.trans ?_ (tZ (show k+1≤f.q.length by omega) (Nat.le_refl _));have h:=lp k hj;rw[if_pos h0] at h;rw[ir hk,hb,qv,←h,tN,qv];have h2:=AK k b.s b.s.length (j+1) (by omega) (Nat.le_refl _);rw[qy] at h2;exact (List.prefix_append_right_inj _).2 ((List.prefix_append_right_inj _).2 h2)
theorem wJ {f:ab} {v:Nat} {pre:List (Int × lk)} {x:lk} (hp:pre++[((v:Int),x)] <+: ee f f.q.length) (h0:mF v pre=0):aE f v=x:=by
 obtain ⟨r,hr⟩:=hp;have h1:pre.filter (fun e=>decide (e.1=(v:Int)))=[]:=w6 h0;unfold aE;rw[←pw,←hr,List.filter_append,List.filter_append,h1];simp
theorem C1 {f:ab} {v:Nat} (h0:mF v (ee f f.q.length)=0):aE f v=(-1,0):=by
 unfold aE;rw[←pw,w6 h0]
 rfl
noncomputable section
def fA (f:ab) (m:lk) (b at_:Int):Bool:=by
 classical exact if m.1<0 then true else if m.1=b then decide (m.2<at_) else !decide (kV (aj f) (fun x=>x≠m.1) 0 b)
def NP (f:ab) (p:dh):Bool:=(p.args.zip p.w).all fun q=>fA f (aE f q.1) q.2 (eM f q.2)
def NQ (f:ab) (i:Nat) (x:aB × Nat):Bool:=x.1.args.all fun v=>fA f (aE f v) i x.2
def NR (f:ab) (i:Nat) (b:aF):Bool:=decide (b.t.kind=0)||fA f (aE f b.t.var) i b.s.length
def sm (f:ab) (i:Nat) (b:aF):Bool:=by
 classical exact decide (oV (aj f) (i:Int))&&(b.p.all (NP f)&&(b.s.zipIdx.all (NQ f i)&&NR f i b))
def NS (f:ab) (i:Nat):Bool:=((f.q[i]?).map (sm f i)).getD true
def lu (f:ab):Bool:=dO f&&(nY f&&(List.range f.q.length).all (NS f))
end
theorem qN {f:ab} {i:Nat} {b:aF} (h:f.q[i]?=some b):NS f i=sm f i b:=by unfold NS;rw[h];rfl
theorem qO {f:ab} (hE:cK f) (m:lk) {b:Int} (at_:Int) (hb:oV (aj f) b):fA f m b at_=eW f m b at_:=by
 rw[w4,iu hE];unfold fA bI
 by_cases h0:m.1<0
 ·rw[if_pos h0];simp[h0]
 rw[if_neg h0]
 by_cases h1:m.1=b
 ·rw[if_pos h1];simp[h1];omega
 rw[if_neg h1];simp only[Bool.not_eq_true',decide_eq_false_iff_not]
 constructor
 ·intro h;exact .inr (.inr ⟨by omega,h1,hb,h⟩)
 rintro (h|h|h)
 ·exact absurd h h0
 ·exact absurd h.1 h1
 exact h.2.2.2
theorem HY {f:ab} (hE:cK f) (hfr:∀b∈f.q,∀p∈b.p,∀c∈p.w,0≤c∧c<f.q.length):lu f=eC f:=by
 unfold lu eC
 by_cases hA:Hz f
 ·have hall:(ik (aj f) f.q.length).contains false=false:=(oB hE).2 hA;rw[hall];have hrch:∀c:Int,0≤c→c<f.q.length→oV (aj f) c:=fun c h0 h1=>by
   have:=hA c.toNat (by omega)
   rwa [show ((c.toNat:Nat):Int)=c by omega] at this
  have:(List.range f.q.length).all (NS f)=CS f:=by
   unfold CS;rw[w4,wd,wd];refine forall_congr' fun i=>?_
   constructor
   all_goals
    intro h hi;have hi2:=List.mem_range.1 hi;have h:=h hi;have hget:f.q[i]?=some f.q[i]:=qt hi2;have hmem:=qx hi2;have e1:f.q[i].p.all (NP f)=f.q[i].p.all (MO f):=by
     rw[w4,wd,wd];refine forall_congr' fun p=>forall_congr' fun hp=>?_;unfold NP MO;rw[wd,wd];refine forall_congr' fun q=>forall_congr' fun hq=>?_;have hc:=hfr _ hmem p hp q.2 (List.of_mem_zip hq).2;rw[qO hE _ _ (hrch q.2 hc.1 hc.2)]
    have e2:f.q[i].s.zipIdx.all (NQ f i)=f.q[i].s.zipIdx.all (HR f i):=by
     rw[w4,wd,wd];refine forall_congr' fun x=>forall_congr' fun _=>?_;unfold NQ HR;rw[wd,wd];refine forall_congr' fun v=>forall_congr' fun _=>?_;rw[qO hE _ _ (hA i hi2)]
    have e3:NR f i f.q[i]=NO f i f.q[i]:=by unfold NR NO;rw[qO hE _ _ (hA i hi2)]
    have e:sm f i f.q[i]=vA f i f.q[i]:=by
     unfold sm vA;rw[e1,e2,e3];simp[hA i hi2,Bool.and_assoc]
    first
     |(rw[qN hget,e] at h;rw[tR hget];exact h)
     |(rw[tR hget,←e] at h;rw[qN hget];exact h)
  rw[this];simp
 have h1:(ik (aj f) f.q.length).contains false=true:=by
  cases h:(ik (aj f) f.q.length).contains false with
  |true=>rfl
  |false=>exact absurd ((oB hE).1 h) hA
 have h2:(List.range f.q.length).all (NS f)=false:=by
  rw[Bool.eq_false_iff];intro h;apply hA;intro i hi;have:=List.all_eq_true.1 h i (List.mem_range.2 hi);rw[qN (qt hi)] at this;unfold sm at this;simp only[wc,wi] at this;exact this.1
 rw[h1,h2];simp
end
section
open Go.Proofs.Tryz
open Go.Proofs Go.Lib Go.Shelf Go.RowKit
variable {E:World}
set_option maxRecDepth 20000
set_option maxHeartbeats 4000000 in
theorem l5 (f:ab) (hf:small f) (v:Nat):aS prog E 31 [.agg (bH f),.i v] (.tup [.i (aE f v).1,.i (aE f v).2]):=by
 have hn:=hf.2.2.1;refine zm func31 U (by decide) U<|Z<|zx (cs:=_) U U U<|ap U<|ap U<|Y<|za<|Z<|ao jf U Zd U U<|aK Zf U<|am jr U<|C U<|Y<|zd<|zu (γ:=Nat) [1,13,14] (fun k=>[(15,.i k)]) (fun k=>[]) (fun k=>k≤f.q.length∧mF v (ee f k)=0) (fun k=>f.q.length - k) 0 aN aJ (⟨qw _,U⟩) ?_;rintro k ⟨hk,hc⟩;refine Z<|aq U U<|Y<|za<|zh U (fun ck=>?_) (fun ck=>?_)
 ·have hk2:k<f.q.length:=by simp at ck;omega
  obtain ⟨b,hbk⟩:∃b,f.q[k]=b:=⟨_,rfl⟩;have hget:f.q[k]?=some b:=by rw[qt hk2,hbk]
  have hmem:b∈f.q:=hbk▸qx hk2;obtain ⟨hb0,hb1,hb2,hb3,hb4⟩:=hf.2.2.2.2 b hmem;refine zc<|za<|zd<|Z<|C U<|X (bD k jr Z1 U U U hget)<|ae Ye Z1 U U<|zp (cs:=[.e,.n,.n,.int .i64 0,.int .i64 0,.int .i64 0,.int .i64 0]) Zh U U<|fun i7=>ap U<|zi Z1 U U U U U U .head U<|y9 (zz (t:=7) U .head)<|Y<|za<|Z<|ao ji U Zv U U<|aK Yf U<|am Z6 U<|C U<|Y<|zd<|zu (γ:=Nat) [1,6,7,13,14,15,21,22] (fun j=>[(23,.i j)]) (fun j=>[]) (fun j=>j≤b.p.length∧mF v (ee f k++eg k (b.p.take j))=0) (fun j=>b.p.length - j) 0 aN aJ (⟨qw _,by rw[show eg k (b.p.take 0)=[] from rfl,w8];exact hc⟩) ?_;rintro j ⟨hj,hcj⟩;refine Z<|aq U U<|Y<|za<|zh U (fun cj=>?_) (fun cj=>?_)
  ·have hj2:j<b.p.length:=by simp at cj;omega
   have hpre:=KT hk2 hbk hj2;have hsc:=nH v (ee f k++eg k (b.p.take j)) b.p[j].dst ((k:Int),(-1:Int));rw[qv,←nF k hj2] at hsc;refine zc<|za<|zd<|Z<|X (bD j Z6 Ze U U U (qt hj2))<|ae Ys Ze U U<|zp (cs:=[.i 0,.n,.n]) Y0 U U<|fun i9=>zi Ze U U U U U U .head U<|y9 (zz (t:=9) U .head)<|Y<|Z<|ao Z3 U j9 U U<|aD jg U<|C U<|au U U<|Y<|zq U (fun cd=>?_) (fun cd=>?_)
   ·have hd:b.p[j].dst=(v:Int):=by simpa using cd
    rw[hd] at hpre;refine Z<|C U<|ap U<|ap U<|Y<|zf<|ql (x:=.int _ _) (y:=.int _ _) U U ?_;rw[wJ hpre hcj]
   have hd:¬b.p[j].dst=(v:Int):=by simpa using cd
   refine zc<|bQ U U ?_;exact ⟨j+1,rY,aN,aJ,⟨hj2,by rw[hsc,if_neg hd,hcj]⟩,by omega⟩
  have hjn:j=b.p.length:=by simp at cj;omega
  subst hjn;rw[qy] at hcj;refine zt<|Z<|ao ji U Zw U U<|aK Y3 U<|am Z4 U<|C U<|Y<|zd<|zu (γ:=Nat) [1,6,13,14,15,34,35] (fun j=>[(36,.i j)]) (fun j=>[]) (fun j=>j≤b.s.length∧mF v (ee f k++eg k b.p++iL k (b.s.take j))=0) (fun j=>b.s.length - j) 0 aN aJ (⟨qw _,by rw[show iL k (b.s.take 0)=[] from rfl,w8];exact hcj⟩) ?_;rintro j ⟨hj,hci⟩;refine Z<|aq U U<|Y<|za<|zh U (fun cj=>?_) (fun cj=>?_)
  ·have hj2:j<b.s.length:=by simp at cj;omega
   have hev:=lp k hj2;refine zc<|za<|zd<|Z<|C U<|X (bD j Z4 Z9 U U U (qt hj2))<|ae Yg Z9 U U<|zp (cs:=[.i 0,.i 0,.n,.i 0]) Zo U U<|fun i11=>ap U<|zi Z9 U U U U U U .head U<|y9 (zz (t:=11) U .head)<|Y<|Z<|ao jd U j9 U U<|aD jg U<|C U<|au U U<|Y<|zq U (fun cd=>?_) (fun cd=>?_)
   ·have hd:b.s[j].dst=(v:Int):=by simpa using cd
    have hpre:=HX hk2 hbk hj2 (by omega);rw[hd] at hpre;refine Z<|C U<|C U<|ap U<|ap U<|Y<|zf<|ql (x:=.int _ _) (y:=.int _ _) U U ?_;rw[wJ hpre hci]
   have hd:¬b.s[j].dst=(v:Int):=by simpa using cd
   have hsc:mF v (ee f k++eg k b.p++iL k (b.s.take (j+1)))=0:=by
    rw[hev];split
    ·rw[←qv,nH,if_neg hd,hci]
    rw[w8];exact hci
   refine zc<|bQ U U ?_;exact ⟨j+1,lI,aN,aJ,⟨hj2,hsc⟩,by omega⟩
  have hjn:j=b.s.length:=by simp at cj;omega
  subst hjn;rw[qy] at hci;refine zt<|bQ U U ?_;exact ⟨k+1,eX,aN,aJ,⟨hk2,by rw[ir hk2,hbk,tN,←qv];exact hci⟩,by omega⟩
 have hkn:k=f.q.length:=by simp at ck;omega
 subst hkn;refine zt<|Z<|ap U<|ap U<|Y<|zf<|ql (x:=.int _ _) (y:=.int _ _) U U ?_;rw[C1 hc]
set_option maxHeartbeats 4000000 in
theorem sn (f:ab) (hf:small f) (v:Nat):aS prog E 86 [.agg (bH f),.i v] (.i (aZ f v).length):=by
 have hn:=hf.2.2.1;refine zm func86 U (by decide) U<|Z<|zx (cs:=_) U U U<|ap U<|Y<|Z<|ap U<|Y<|za<|Z<|ao jf U Zd U U<|aK Zf U<|am jr U<|C U<|Y<|zd<|zu (γ:=Nat) [1,13,14] (fun k=>[(15,.i k),(5,.i (mF v (ee f k)))]) (fun k=>[]) (fun k=>k≤f.q.length) (fun k=>f.q.length - k) 0 cV aJ (qw _) ?_;rintro k hk;refine Z<|aq U U<|Y<|za<|zh U (fun ck=>?_) (fun ck=>?_)
 ·have hk2:k<f.q.length:=by simp at ck;omega
  obtain ⟨b,hbk⟩:∃b,f.q[k]=b:=⟨_,rfl⟩;have hget:f.q[k]?=some b:=by rw[qt hk2,hbk]
  have hmem:b∈f.q:=hbk▸qx hk2;obtain ⟨hb0,hb1,hb2,hb3,hb4⟩:=hf.2.2.2.2 b hmem;have hel:=hf.evs hk;refine zc<|za<|zd<|Z<|X (bD k jr Z1 U U U hget)<|ae Ye Z1 U U<|zp (cs:=[.e,.n,.n,.int .i64 0,.int .i64 0,.int .i64 0,.int .i64 0]) Zh U U<|fun i7=>zi Z1 U U U U U U .head U<|y9 (zz (t:=7) U .head)<|Y<|za<|Z<|ao ji U Zv U U<|aK Yf U<|am Z6 U<|C U<|Y<|zd<|zu (γ:=Nat) [1,7,13,14,15,20,21] (fun j=>[(22,.i j),(5,.i (mF v (ee f k++eg k (b.p.take j))))]) (fun j=>[]) (fun j=>j≤b.p.length) (fun j=>b.p.length - j) 0 ⟨U,(by rw[show eg k (b.p.take 0)=[] from rfl,w8];rfl),trivial⟩ aJ (qw _) ?_;rintro j hj;refine Z<|aq U U<|Y<|za<|zh U (fun cj=>?_) (fun cj=>?_)
  ·have hj2:j<b.p.length:=by simp at cj;omega
   have hsc:=nH v (ee f k++eg k (b.p.take j)) b.p[j].dst ((k:Int),(-1:Int));rw[qv,←nF k hj2] at hsc;have hcl:mF v (ee f k++eg k (b.p.take j))≤2001000:=by
    have h1:=Ep v (ee f k++eg k (b.p.take j));have h2:(eg k (b.p.take j)).length≤1000:=by unfold eg;rw[w2,w9];omega
    rw[qz] at h1;omega
   refine zc<|za<|zd<|Z<|X (bD j Z6 Ze U U U (qt hj2))<|ae Ys Ze U U<|zp (cs:=[.i 0,.n,.n]) Y0 U U<|fun i9=>zi Ze U U U U U U .head U<|y9 (zz (t:=9) U .head)<|Y<|Z<|ao Z3 U j9 U U<|aD jg U<|C U<|au U U<|Y<|zq U (fun cd=>?_) (fun cd=>?_)
   ·have hd:b.p[j].dst=(v:Int):=by simpa using cd
    rw[if_pos hd] at hsc;refine bZ<|C U<|X (ky U U)<|ap U<|Y<|bQ U U ?_;exact ⟨j+1,lI,⟨rfl,(by rw[hsc];rfl),trivial⟩,aJ,hj2,by omega⟩
   have hd:¬b.p[j].dst=(v:Int):=by simpa using cd
   rw[if_neg hd] at hsc;refine zc<|bQ U U ?_;exact ⟨j+1,lI,⟨rfl,(by rw[hsc];rfl),trivial⟩,aJ,hj2,by omega⟩
  have hjn:j=b.p.length:=by simp at cj;omega
  subst hjn;rw[qy];refine zt<|Z<|ao ji U Zw U U<|aK Y3 U<|am Z4 U<|C U<|Y<|zd<|zu (γ:=Nat) [1,13,14,15,34,35] (fun j=>[(36,.i j),(5,.i (mF v (ee f k++eg k b.p++iL k (b.s.take j))))]) (fun j=>[]) (fun j=>j≤b.s.length) (fun j=>b.s.length - j) 0 ⟨U,(by rw[show iL k (b.s.take 0)=[] from rfl,w8];rfl),trivial⟩ aJ (qw _) ?_;rintro j hj;refine Z<|aq U U<|Y<|za<|zh U (fun cj=>?_) (fun cj=>?_)
  ·have hj2:j<b.s.length:=by simp at cj;omega
   have hcl:mF v (ee f k++eg k b.p++iL k (b.s.take j))≤2002000:=by
    have h1:=Ep v (ee f k++eg k b.p++iL k (b.s.take j));have h2:(eg k b.p).length≤1000:=by unfold eg;rw[w2];omega
    have h3:=tO k (b.s.take j);rw[w9] at h3;rw[qz,qz] at h1;omega
   have hsc:mF v (ee f k++eg k b.p++iL k (b.s.take (j+1)))=mF v (ee f k++eg k b.p++iL k (b.s.take j))+if b.s[j].dst=(v:Int) then 1 else 0:=by
    rw[lp k hj2];split
    ·rw[←qv,nH]
    rw[w8,if_neg (by omega)];rfl
   refine zc<|za<|zd<|Z<|X (bD j Z4 Z9 U U U (qt hj2))<|ae Yg Z9 U U<|zp (cs:=[.i 0,.i 0,.n,.i 0]) Zo U U<|fun i11=>zi Z9 U U U U U U .head U<|y9 (zz (t:=11) U .head)<|Y<|Z<|ao jd U j9 U U<|aD jg U<|C U<|au U U<|Y<|zq U (fun cd=>?_) (fun cd=>?_)
   ·have hd:b.s[j].dst=(v:Int):=by simpa using cd
    rw[if_pos hd] at hsc;refine bZ<|C U<|X (ky U U)<|ap U<|Y<|bQ U U ?_;exact ⟨j+1,rX,⟨rfl,(by rw[hsc];rfl),trivial⟩,aJ,hj2,by omega⟩
   have hd:¬b.s[j].dst=(v:Int):=by simpa using cd
   rw[if_neg hd] at hsc;refine zc<|bQ U U ?_;exact ⟨j+1,rX,⟨rfl,(by rw[hsc];rfl),trivial⟩,aJ,hj2,by omega⟩
  have hjn:j=b.s.length:=by simp at cj;omega
  subst hjn;rw[qy];refine zt<|bQ U U ?_;exact ⟨k+1,eX,⟨rfl,(by rw[ir hk2,hbk,tN,←qv];rfl),trivial⟩,aJ,hk2,by omega⟩
 have hkn:k=f.q.length:=by simp at ck;omega
 subst hkn;refine zt<|Z<|C U<|ap U<|Y<|zf ?_
 repeat (first|refine ad ?_|refine aa ?_)
 refine gu U ?_;rw[AJ]
theorem vC (f:ab) (hE:cK f) (hf:small f) (v:Nat) (b a:Int) (h0:0≤b) (hb:b<f.q.length):aS prog E 87 [.agg (bH f),.i v,.i b,.i a] (.bool (fA f (aE f v) b a)):=by
 have hn:=hf.2.2.1;refine zm func87 U (by decide) U<|Z<|zx (cs:=_) U U U<|ah U<|Y<|Z<|ae Z2 jk U U<|C U<|zb (l5 f hf v) U<|X (v8 U)<|X (nU U U)<|X (nU U U)<|ap U<|ap U<|Y<|za<|zd<|Z<|C U<|aq U U<|ah U<|Y<|zh U (fun c0=>?_) (fun c0=>?_)
 ·refine Z<|ah U<|Y<|zf ?_
  repeat (first|refine ad ?_|refine aa ?_)
  refine bt U ?_;rw[fA,if_pos c0]
 refine Z<|C U<|C U<|au U U<|ah U<|Y<|zq U (fun c1=>?_) (fun c1=>?_)
 ·have d1:(aE f v).1=b:=by simpa using c1
  refine Z<|C U<|C U<|aq U U<|ah U<|Y<|zf ?_
  repeat (first|refine ad ?_|refine aa ?_)
  refine bt U ?_;rw[fA,if_neg c0,if_pos d1]
 have d1:¬(aE f v).1=b:=by simpa using c1
 have hg:=l3 (E:=aj f) (n:=f.q.length) (k:=b.toNat) (shut:=(aE f v).1) (by omega);rw[show ((b.toNat:Nat):Int)=b by omega] at hg;refine zc<|Z<|ae Z2 jk U U<|C U<|zb (jG f hE hn (aE f v).1) U<|C U<|X (bD b.toNat ju Zc U U (by omega) hg)<|X (q8 (c:=.bool _) Yn U)<|aL U<|ah U<|Y<|zf ?_
 repeat (first|refine ad ?_|refine aa ?_)
 refine bt U ?_;rw[fA,if_neg c0,if_neg d1]
end
section
open Go.Proofs.Tryz
open Go.Proofs Go.Lib Go.Shelf Go.RowKit
variable {E:World}
set_option maxRecDepth 20000
theorem Eq {f:ab} (hE:cK f) (i:Nat) (p:dh):J6 f i p=true↔Ec f i p.w:=by
 unfold J6;rw[wi,qF,Fs hE]
theorem C2 {l:List Int} (hn:l.Nodup) {i:Int} (h:i∈l):(l.filter fun c=>decide (c=i))=[i]:=by
 induction l with
 |nil=>cases h
 |cons c l ih=>
  obtain ⟨h1,h2⟩:=List.nodup_cons.1 hn
  by_cases e:c=i
  ·subst e;have:(l.filter fun x=>decide (x=c))=[]:=List.filter_eq_nil_iff.2 fun x hx=>by
    simp only[wi];rintro rfl;exact h1 hx
   simp[this]
  rw[List.filter_cons_of_neg (by simpa using e)];rcases List.mem_cons.1 h with h3|h3
  ·exact absurd h3.symm e
  exact ih h2 h3
theorem C3 {f:ab} (k:Nat) (i:Int):(bm (aj f) (k+1) i).length=(bm (aj f) k i).length+if i∈aj f k then 1 else 0:=by
 rw[mW,qz,w2];have hn:=jF f k
 congr 1
 by_cases h:i∈aj f k
 ·rw[if_pos h];have h1:=C2 hn h;rw[h1];rfl
 rw[if_neg h];have h1:((aj f k).filter fun c=>decide (c=i))=[]:=List.filter_eq_nil_iff.2 fun c hc=>by
  simp only[wi];rintro rfl;exact h hc
 rw[h1];rfl
set_option maxHeartbeats 4000000 in
theorem ua (f:ab) (hE:cK f) (hf:small f) (hS:bN f):aS prog E 85 [.agg (bH f)] (.bool (dO f)):=by
 have hn:=hf.2.2.1;refine zm func85 U (by decide) U<|Z<|zx (cs:=_) U U U<|ah U<|Y<|za<|Z<|ao jf U Zd U U<|aK Zf U<|am jr U<|C U<|Y<|zd<|zu (γ:=Nat) [1,13,14] (fun i=>[(15,.i i)]) (fun i=>[]) (fun i=>i≤f.q.length∧(List.range i).all (HP f)=true) (fun i=>f.q.length - i) 0 aN aJ (⟨qw _,U⟩) ?_;rintro i ⟨hi,hall⟩;refine Z<|aq U U<|Y<|za<|zh U (fun ci=>?_) (fun ci=>?_)
 ·have hi2:i<f.q.length:=by simp at ci;omega
  obtain ⟨b,hbi⟩:∃b,f.q[i]=b:=⟨_,rfl⟩;have hget:f.q[i]?=some b:=by rw[qt hi2,hbi]
  have hmem:b∈f.q:=hbi▸qx hi2;obtain ⟨hb0,hb1,hb2,hb3,hb4⟩:=hf.2.2.2.2 b hmem;have hPh:=(hS.2.2.2.2.2 b hmem).1;refine zc<|za<|zd<|Z<|C U<|X (bD i jr Z1 U U U hget)<|ae Ye Z1 U U<|zp (cs:=[.e,.n,.n,.i 0,.i 0,.i 0,.i 0]) Zh U U<|fun i4=>ap U<|zi Z1 U U U U U U .head U<|y9 (zz (t:=4) U .head)<|Y<|Z<|ao ji U Zv U U<|aK Yf U<|am Z6 U<|C U<|Y<|zd<|zu (γ:=Nat) [1,3,13,14,15,21,22] (fun j=>[(23,.i j)]) (fun j=>[]) (fun j=>j≤b.p.length∧(b.p.take j).all (J6 f i)=true) (fun j=>b.p.length - j) 0 aN aJ (⟨qw _,U⟩) ?_;rintro j ⟨hj,hjall⟩;refine Z<|aq U U<|Y<|za<|zh U (fun cj=>?_) (fun cj=>?_)
  ·have hj2:j<b.p.length:=by simp at cj;omega
   obtain ⟨p,hp⟩:∃p,b.p[j]=p:=⟨_,rfl⟩;have hpm:p∈b.p:=hp▸qx hj2;have hpl:=(hb3 p hpm).2;have hpr:∀c∈p.w,0≤c∧c<f.q.length:=fun c hc=>by have:=List.all_eq_true.1 (hPh p hpm).2.2.2.2 c hc;simpa [eQ] using this
   have hbad:¬Ec f i p.w→dO f=false:=fun h=>eG hi2 (by rw[nE hget];exact Bool.eq_false_iff.2 (dW hj2 (by rw[hp];exact Bool.eq_false_iff.2 fun h2=>h ((Eq hE i p).1 h2))));refine zc<|za<|zd<|Z<|X (bD j Z6 Ze U U U (by rw[qt hj2,hp])) ?_;refine ae Ys Ze U U<|zp (cs:=[.i 0,.n,.n]) Y0 U U<|fun i6=>zi Ze U U U U U U .head U<|y9 (zz (t:=6) U .head)<|Y<|Z<|ap U<|Y<|za<|Z<|ao jf U Zd U U<|aK Zf U<|am jr U<|C U<|Y<|zd<|zu (γ:=Nat) [1,3,6,13,14,15,21,22,23,29] (fun a=>[(30,.i a),(7,.i (bm (aj f) a i).length)]) (fun a=>[]) (fun a=>a≤f.q.length) (fun a=>f.q.length - a) 0 cV aJ (qw _) ?_;rintro a ha;refine Z<|aq U U<|Y<|za<|zh U (fun ca=>?_) (fun ca=>?_)
   ·have ha2:a<f.q.length:=by simp at ca;omega
    have hone:=C3 (f:=f) a i;have hle:=ke f i a;refine zc<|za<|zd<|Z<|C U<|ap U<|Y<|Z<|ae Z2 jk U U<|C U<|C U<|zb (l4 f hn (a:Int) (i:Int) (by omega) (by omega)) U<|Y<|zq U (fun cl=>?_) (fun cl=>?_)
    ·have hl:(i:Int)∈aj f a:=by simpa using cl
     rw[if_pos hl] at hone;refine bZ<|C U<|X (ky U U)<|ap U<|Y<|bQ U U ?_;exact ⟨a+1,jX,⟨rfl,(by rw[hone];rfl),trivial⟩,aJ,ha2,by omega⟩
    have hl:¬(i:Int)∈aj f a:=by simpa using cl
    rw[if_neg hl] at hone;refine zc<|bQ U U ?_;exact ⟨a+1,jX,⟨rfl,(by rw[hone];rfl),trivial⟩,aJ,ha2,by omega⟩
   have han:a=f.q.length:=by simp at ca;omega
   subst han;refine zt<|za<|Z<|C U<|ao Z3 U jh U U<|aK jy U<|am j7 U<|aT U U<|Y<|zq U (fun cn=>?_) (fun cn=>?_)
   ·have hne:¬(bm (aj f) f.q.length i).length=p.w.length:=by have h0:¬((bm (aj f) f.q.length i).length:Int)=(p.w.length:Int):=(by simpa using cn);omega
    refine Z<|ah U<|Y<|zf ?_
    repeat (first|refine ad ?_|refine aa ?_)
    refine bt U ?_;rw[hbad fun h=>hne h.1]
   have hne:(bm (aj f) f.q.length i).length=p.w.length:=by have h0:((bm (aj f) f.q.length i).length:Int)=(p.w.length:Int):=(by simpa using cn);omega
   refine zc<|Z<|ao Z3 U jh U U<|aK jy U<|am j7 U<|C U<|Y<|zd<|zu (γ:=Nat) [1,3,6,13,14,15,21,22,23,46,47] (fun k=>[(48,.i k)]) (fun k=>[]) (fun k=>k≤p.w.length∧∀q (h:q<p.w.length),q<k→(i:Int)∈aj f p.w[q]∧p.w[q] ∉ p.w.take q) (fun k=>p.w.length - k) 0 aN aJ (⟨qw _,fun q h h2=>by omega⟩) ?_;rintro k ⟨hk,hok⟩;refine Z<|aq U U<|Y<|za<|zh U (fun ck=>?_) (fun ck=>?_)
   ·have hk2:k<p.w.length:=by simp at ck;omega
    obtain ⟨c,hc⟩:∃c,p.w[k]=c:=⟨_,rfl⟩;obtain ⟨hc0,hcn⟩:=hpr c (hc▸qx hk2);refine zc<|za<|zd<|Z<|C U<|X (bD k j7 j9 U U U (by rw[qt hk2,hc])) ?_;refine aD jg U<|ap U<|ap U<|Y<|za<|Z<|ae Z2 jk U U<|C U<|C U<|zb (l4 f hn c (i:Int) hc0 hcn) U<|aL U<|Y<|zq U (fun cl=>?_) (fun cl=>?_)
    ·have hl:¬(i:Int)∈aj f c:=by simpa using cl
     refine Z<|ah U<|Y<|zf ?_
     repeat (first|refine ad ?_|refine aa ?_)
     refine bt U ?_;rw[hbad fun h=>hl (hc▸(h.2 k hk2).1)]
    have hl:(i:Int)∈aj f c:=by simpa using cl
    refine zc<|Z<|C U<|C U<|Y<|zd<|zu (γ:=Nat) [1,3,6,10,13,14,15,21,22,23,46,47,48,58] (fun q=>[(59,.i q)]) (fun q=>[]) (fun q=>q≤k∧c ∉ p.w.take q) (fun q=>k - q) 0 aN aJ (⟨qw _,by simp⟩) ?_;rintro q ⟨hq,hqn⟩;refine Z<|aq U U<|Y<|za<|zh U (fun cq=>?_) (fun cq=>?_)
    ·have hq2:q<k:=by omega
     have hq3:q<p.w.length:=by omega
     refine zc<|za<|zd<|Z<|C U<|ap U<|Y<|Z<|ao Z3 U jh U U<|aK jy U<|C U<|X (bD q j7 j9 U U U (qt hq3))<|aD jg U<|C U<|au U U<|Y<|zq U (fun ce=>?_) (fun ce=>?_)
     ·have he:p.w[q]=c:=by simpa using ce
      have hin:c∈p.w.take k:=by rw[←he];exact List.mem_take_iff_getElem.2 ⟨q,by omega,rfl⟩
      refine Z<|ah U<|Y<|zf ?_
      repeat (first|refine ad ?_|refine aa ?_)
      refine bt U ?_;rw[hbad fun h=>(h.2 k hk2).2 (by rw[hc];exact hin)]
     have he:¬p.w[q]=c:=by simpa using ce
     refine zc<|bQ U U ?_;exact ⟨q+1,⟨rfl,rfl,rfl,rfl,rfl,rfl,rfl,rfl,rfl,rfl,rfl,rfl,rfl,rfl,trivial⟩,aN,aJ,⟨hq2,fun hm=>by rw[qu hq3] at hm;rcases List.mem_append.1 hm with h1|h1;exact hqn h1;simp at h1;exact he h1.symm⟩,by omega⟩
    have hqn2:q=k:=by omega
    subst hqn2;refine zt<|bQ U U ?_;exact ⟨q+1,sX,aN,aJ,⟨hk2,fun r hr h2=>by rcases Nat.lt_succ_iff_lt_or_eq.1 h2 with h3|h3;exact hok r hr h3;subst h3;rw[hc];exact ⟨hl,hqn⟩⟩,by omega⟩
   have hkn:k=p.w.length:=by simp at ck;omega
   subst hkn;refine zt<|bQ U U ?_;exact ⟨j+1,lI,aN,aJ,⟨hj2,cD hj2 hjall (by rw[hp];exact (Eq hE i p).2 ⟨hne,fun q hq=>hok q hq hq⟩)⟩,by omega⟩
  have hjn:j=b.p.length:=by simp at cj;omega
  subst hjn;rw[qy] at hjall;refine zt<|bQ U U ?_;exact ⟨i+1,eX,aN,aJ,⟨hi2,du hall (by rw[nE hget];exact hjall)⟩,by omega⟩
 have hin:i=f.q.length:=by simp at ci;omega
 subst hin;refine zt<|Z<|ah U<|Y<|zf ?_
 repeat (first|refine ad ?_|refine aa ?_)
 refine bt U ?_;rw[show dO f=true from hall]
end
section
open Go.Proofs.Tryz
open Go.Proofs Go.Lib Go.Shelf Go.RowKit
variable {E:World}
set_option maxRecDepth 20000
theorem HZ {f:ab} {v:Int} (h:bn f v=true):∃k:Nat,v=(k:Int)∧k<f.v.length:=by
 have h1:0≤v∧v<f.v.length:=by simpa [bn] using h
 exact ⟨v.toNat,by omega,by omega⟩
theorem kh (f:ab) (hE:cK f) (hf:small f) {v:Int} (hv:bn f v=true) (b a:Int) (h0:0≤b) (hb:b<f.q.length):aS prog E 87 [.agg (bH f),.i v,.i b,.i a] (.bool (fA f (aE f v) b a)):=by
 obtain ⟨k,rfl,hk⟩:=HZ hv;exact vC f hE hf k b a h0 hb
theorem sG {f:ab} {i:Nat} {b:aF} (hi:i<f.q.length) (hg:f.q[i]?=some b) (h:sm f i b=false):lu f=false:=by
 unfold lu;rw[eG hi (by rw[qN hg];exact h)];simp
set_option maxHeartbeats 8000000 in
theorem ub (f:ab) (hE:cK f) (hf:small f) (hS:bN f):aS prog E 46 [.agg (bH f)] (.bool (lu f)):=by
 have hn:=hf.2.2.1;have hv:=hf.1;have hG:=hE.grph;refine zm func46 U (by decide) U<|Z<|zx (cs:=_) U U U<|ah U<|Y<|za<|Z<|ae Z2 jk U U<|zb (ua f hE hf hS) U<|aL U<|Y<|zq U (fun cj=>?_) (fun cj=>?_)
 ·have dj:dO f=false:=by simpa using cj
  refine Z<|ah U<|Y<|zf ?_
  repeat (first|refine ad ?_|refine aa ?_)
  refine bt U ?_;rw[show lu f=false by unfold lu;rw[dj];rfl]
 have dj:dO f=true:=by simpa using cj
 refine zc<|Z<|ae Z2 jk U U<|zb (jG f hE hn (-1)) U<|X (oU U)<|Y<|za<|Z<|ao jf U Zs U U<|aK Y4 U<|am Z7 U<|C U<|Y<|zd<|zu (γ:=Nat) [1,3,23] (fun v=>[(24,.i v)]) (fun v=>[]) (fun v=>v≤f.v.length∧(List.range v).all (lq f)=true) (fun v=>f.v.length - v) 0 aN aJ (⟨qw _,U⟩) ?_;rintro v ⟨hvl,hall⟩;refine Z<|aq U U<|Y<|za<|zh U (fun cv=>?_) (fun cv=>?_)
 ·have hv2:v<f.v.length:=by simp at cv;omega
  have hbad:lq f v=false→lu f=false:=fun h=>by unfold lu;rw[show nY f=false from eG hv2 h];simp
  refine zc<|za<|zd<|Z<|C U<|ap U<|Y<|Z<|ae Z2 jk U U<|C U<|zb (sn f hf v) U<|ap U<|Y<|Z<|C U<|bg U U<|aw U<|zo (s:=32) U (fun c1=>?_) (fun c1=>?_)
  ·have d1:1<(aZ f v).length:=by have h0:(1:Int)<((aZ f v).length:Int):=(by simpa using c1);omega
   refine H U U c1<|H U U c1<|H U U c1<|zg U U<|zg U U<|zg U U<|zg U U<|zg U U<|H U U c1<|aA U c1 U<|Y<|ym U U<|Z<|ah U<|Y<|zf ?_
   repeat (first|refine ad ?_|refine aa ?_)
   refine bt U ?_;rw[hbad (by unfold lq;simp[d1])]
  have d1:¬1<(aZ f v).length:=by have h0:¬(1:Int)<((aZ f v).length:Int):=(by simpa using c1);omega
  refine M U U c1<|C U<|M U U c1<|bg U U<|M U U c1<|aw U<|zo (s:=35) U (fun c2=>?_) (fun c2=>?_)
  ·have d2:0<(aZ f v).length:=by have h0:(0:Int)<((aZ f v).length:Int):=(by simpa using c2);omega
   refine M U U c2<|C U<|M U U c2<|ao jf U jh U U<|M U U c2<|aK jy U<|M U U c2<|am j7 U<|M U U c2<|aq U U<|M U U c1<|aA U c2 U<|ay U c1 U<|Y<|zq U (fun c3=>?_) (fun c3=>?_)
   ·have d3:v<f.z.length:=by simpa using c3
    refine Z<|ah U<|Y<|zf ?_
    repeat (first|refine ad ?_|refine aa ?_)
    refine bt U ?_;rw[hbad (by unfold lq;rw[wa d2,wa d3];simp)]
   have d3:¬v<f.z.length:=by simpa using c3
   refine zc<|bQ U U ?_;exact ⟨v+1,eX,aN,aJ,⟨hv2,du hall (by unfold lq;rw[wb d1,wb d3];simp)⟩,by omega⟩
  have d2:¬0<(aZ f v).length:=by have h0:¬(0:Int)<((aZ f v).length:Int):=(by simpa using c2);omega
  refine H U U c2<|H U U c2<|H U U c2<|H U U c2<|H U U c2<|M U U c1<|ay U c2 U<|ay U c1 U<|Y<|yl U U<|zc<|bQ U U ?_;exact ⟨v+1,eX,aN,aJ,⟨hv2,du hall (by unfold lq;rw[wb d1,wb d2];rfl)⟩,by omega⟩
 have hvn:v=f.v.length:=by simp at cv;omega
 subst hvn;have donce:nY f=true:=hall;refine zt<|za<|Z<|ao jf U Zd U U<|aK Zf U<|am jr U<|C U<|Y<|zd<|zu (γ:=Nat) [1,3,45,46] (fun i=>[(47,.i i)]) (fun i=>[]) (fun i=>i≤f.q.length∧(List.range i).all (NS f)=true) (fun i=>f.q.length - i) 0 aN aJ (⟨qw _,U⟩) ?_;rintro i ⟨hi,hiall⟩;refine Z<|aq U U<|Y<|za<|zh U (fun ci=>?_) (fun ci=>?_)
 ·have hi2:i<f.q.length:=by simp at ci;omega
  obtain ⟨b,hbi⟩:∃b,f.q[i]=b:=⟨_,rfl⟩;have hget:f.q[i]?=some b:=by rw[qt hi2,hbi]
  have hmem:b∈f.q:=hbi▸qx hi2;obtain ⟨hb0,hb1,hb2,hb3,hb4⟩:=hf.2.2.2.2 b hmem;obtain ⟨hPh,hIn,hTm⟩:=hS.2.2.2.2.2 b hmem;have hth:=l3 (E:=aj f) (shut:=-1) hi2;refine zc<|za<|zd<|Z<|C U<|X (bD i jr Z1 U U U hget)<|ae Ye Z1 U U<|zp (cs:=[.e,.n,.n,.i 0,.i 0,.i 0,.i 0]) Zh U U<|fun i7=>ap U<|zi Z1 U U U U U U .head U<|y9 (zz (t:=7) U .head)<|Y<|za<|Z<|bj U<|C U<|X (bD i ju Zc U U U hth)<|X (q8 (c:=.bool _) Yn U)<|aL U<|Y<|zq U (fun cr=>?_) (fun cr=>?_)
  ·have dr:¬oV (aj f) (i:Int):=fun h=>by simp at cr;exact cr ((D8 hG).2 h)
   refine Z<|ah U<|Y<|zf ?_
   repeat (first|refine ad ?_|refine aa ?_)
   refine bt U ?_;rw[sG hi2 hget (by unfold sm;simp[dr])]
  have dr:oV (aj f) (i:Int):=by simp at cr;exact (D8 hG).1 cr
  refine zc<|za<|Z<|ao ji U Zv U U<|aK Yf U<|am Z6 U<|C U<|Y<|zd<|zu (γ:=Nat) [1,3,6,7,45,46,47,58,59] (fun j=>[(60,.i j)]) (fun j=>[]) (fun j=>j≤b.p.length∧(b.p.take j).all (NP f)=true) (fun j=>b.p.length - j) 0 aN aJ (⟨qw _,U⟩) ?_;rintro j ⟨hj,hjall⟩;refine Z<|aq U U<|Y<|za<|zh U (fun cjj=>?_) (fun cjj=>?_)
  ·have hj2:j<b.p.length:=by simp at cjj;omega
   obtain ⟨p,hp⟩:∃p,b.p[j]=p:=⟨_,rfl⟩;have hpm:p∈b.p:=hp▸qx hj2;obtain ⟨hpd,hpl,hpn,hpa,hpf⟩:=hPh p hpm;have hpb:=hb3 p hpm;refine zc<|za<|zd<|Z<|X (bD j Z6 Ze U U U (by rw[qt hj2,hp])) ?_;refine ae Ys Ze U U<|zp (cs:=[.i 0,.n,.n]) Y0 U U<|fun i9=>zi Ze U U U U U U .head U<|y9 (zz (t:=9) U .head)<|Y<|Z<|ao Z3 U jh U U<|aK jy U<|am j7 U<|C U<|Y<|zd<|zu (γ:=Nat) [1,3,6,7,9,45,46,47,58,59,60,65,66] (fun k=>[(67,.i k)]) (fun k=>[]) (fun k=>k≤p.args.length∧((p.args.zip p.w).take k).all (fun q=>fA f (aE f q.1) q.2 (eM f q.2))=true) (fun k=>p.args.length - k) 0 aN aJ (⟨qw _,U⟩) ?_;rintro k ⟨hk,hkall⟩;refine Z<|aq U U<|Y<|za<|zh U (fun ck=>?_) (fun ck=>?_)
   ·have hk2:k<p.args.length:=by simp at ck;omega
    have hk3:k<p.w.length:=by omega
    obtain ⟨v,hv⟩:∃v,p.args[k]=v:=⟨_,rfl⟩;obtain ⟨c,hc⟩:∃c,p.w[k]=c:=⟨_,rfl⟩;have hvv:=List.all_eq_true.1 hpa v (hv▸qx hk2);have hcr:0≤c∧c<f.q.length:=by have:=List.all_eq_true.1 hpf c (hc▸qx hk3);simpa [eQ] using this
    obtain ⟨d,hd⟩:∃d,f.q[c.toNat]'(by omega)=d:=⟨_,rfl⟩;have hdg:f.q[c.toNat]?=some d:=by rw[qt (by omega),hd]
    have hla:eM f c=d.s.length:=by unfold eM;rw[hdg];rfl
    have hz:k<(p.args.zip p.w).length:=by rw[List.length_zip];omega
    have hzk:(p.args.zip p.w)[k]=(v,c):=by rw[List.getElem_zip,hv,hc]
    refine zc<|za<|zd<|Z<|C U<|X (bD k j7 j9 U U U (by rw[qt hk2,hv])) ?_;refine aD jg U<|ap U<|ap U<|Y<|za<|zn (fun j=>false) (by kernel_rfl) U (zk (.rest _))<|D 0 U (yj Z2 jk U U)<|D 1 U (dC U)<|D 2 U (dk Z3 U jh U U)<|D 3 U (gJ jy U)<|D 4 U (dC U)<|D 5 U (bD k j7 j9 U U U (by rw[qt hk3,hc])) ?_;refine D 6 U (d9 jg U)<|D 7 U (dk jf U Zd U U)<|D 8 U (gJ Zf U)<|D 9 U (dk Z3 U jh U U)<|D 10 U (gJ jy U)<|D 11 U (dC U)<|D 12 U (bD k j7 j9 U U U (by rw[qt hk3,hc])) ?_;refine D 13 U (d9 jg U)<|D 14 U (bD c.toNat jr Z1 U U (by omega) hdg)<|D 15 U (dk ji U Zw U U)<|D 16 U (gJ Y3 U)<|D 17 U (Gv.lenM Z4 U)<|bp 18 U<|zb (kh f hE hf hvv c d.s.length hcr.1 hcr.2) U<|Y<|D 19 U (Gv.not U)<|dS<|zq U (fun cq=>?_) (fun cq=>?_)
    ·have hq:fA f (aE f v) c (eM f c)=false:=by rw[hla];simpa using cq
     refine Z<|ah U<|Y<|zf ?_
     repeat (first|refine ad ?_|refine aa ?_)
     refine bt U ?_;rw[sG hi2 hget (by unfold sm;rw[show b.p.all (NP f)=false from Bool.eq_false_iff.2 (dW hj2 (by rw[hp];unfold NP;exact Bool.eq_false_iff.2 (dW hz (by rw[hzk];exact hq))))];simp)]
    have hq:fA f (aE f v) c (eM f c)=true:=by rw[hla];simpa using cq
    refine zc<|bQ U U ?_;exact ⟨k+1,⟨rfl,rfl,rfl,rfl,rfl,rfl,rfl,rfl,rfl,rfl,rfl,rfl,rfl,trivial⟩,aN,aJ,⟨hk2,cD hz hkall (by rw[hzk];exact hq)⟩,by omega⟩
   have hkn:k=p.args.length:=by simp at ck;omega
   have hzl:(p.args.zip p.w).length=p.args.length:=by rw[List.length_zip];omega
   rw[hkn,←hzl,qy] at hkall;refine zt<|bQ U U ?_;exact ⟨j+1,p9,aN,aJ,⟨hj2,cD hj2 hjall (by rw[hp];exact hkall)⟩,by omega⟩
  have hjn:j=b.p.length:=by simp at cjj;omega
  subst hjn;rw[qy] at hjall;refine zt<|za<|Z<|ao ji U Zw U U<|aK Y3 U<|am Z4 U<|C U<|Y<|zd<|zu (γ:=Nat) [1,3,6,7,45,46,47,95,96] (fun k=>[(97,.i k)]) (fun k=>[]) (fun k=>k≤b.s.length∧((b.s.zipIdx).take k).all (NQ f i)=true) (fun k=>b.s.length - k) 0 aN aJ (⟨qw _,U⟩) ?_;rintro k ⟨hk,hkall⟩;refine Z<|aq U U<|Y<|za<|zh U (fun ck=>?_) (fun ck=>?_)
  ·have hk2:k<b.s.length:=by simp at ck;omega
   obtain ⟨z,hzk⟩:∃z,b.s[k]=z:=⟨_,rfl⟩;have hzm:z∈b.s:=hzk▸qx hk2;have hI:=fG (hIn z hzm);have hzl:=hb4 z hzm;have hzi:k<b.s.zipIdx.length:=by simp;exact hk2
   have hze:b.s.zipIdx[k]=(z,k):=by simp[hzk]
   refine zc<|za<|zd<|Z<|C U<|X (bD k Z4 Z9 U U U (by rw[qt hk2,hzk])) ?_;refine ae Yg Z9 U U<|zp (cs:=[.i 0,.i 0,.n,.i 0]) Zo U U<|fun i13=>ap U<|zi Z9 U U U U U U .head U<|y9 (zz (t:=13) U .head)<|Y<|Z<|ao jd U jh U U<|aK jy U<|am j7 U<|C U<|Y<|zd<|zu (γ:=Nat) [1,3,6,7,12,45,46,47,95,96,97,103,104] (fun m=>[(105,.i m)]) (fun m=>[]) (fun m=>m≤z.args.length∧(z.args.take m).all (fun v=>fA f (aE f v) i k)=true) (fun m=>z.args.length - m) 0 aN aJ (⟨qw _,U⟩) ?_;rintro m ⟨hm,hmall⟩;refine Z<|aq U U<|Y<|za<|zh U (fun cm=>?_) (fun cm=>?_)
   ·have hm2:m<z.args.length:=by simp at cm;omega
    obtain ⟨v,hv⟩:∃v,z.args[m]=v:=⟨_,rfl⟩;have hvv:=hI.args v (hv▸qx hm2);refine zc<|za<|zd<|Z<|X (bD m j7 j9 U U U (by rw[qt hm2,hv])) ?_;refine aD jg U<|ap U<|Y<|Z<|ae Z2 jk U U<|C U<|C U<|C U<|zb (kh f hE hf hvv (i:Int) (k:Int) (by omega) (by omega)) U<|aL U<|Y<|zq U (fun cq=>?_) (fun cq=>?_)
    ·have hq:fA f (aE f v) i k=false:=by simpa using cq
     refine Z<|ah U<|Y<|zf ?_
     repeat (first|refine ad ?_|refine aa ?_)
     refine bt U ?_;rw[sG hi2 hget (by unfold sm;rw[show b.s.zipIdx.all (NQ f i)=false from Bool.eq_false_iff.2 (dW hzi (by rw[hze];unfold NQ;exact Bool.eq_false_iff.2 (dW hm2 (by rw[hv];exact hq))))];simp)]
    have hq:fA f (aE f v) i k=true:=by simpa using cq
    refine zc<|bQ U U ?_;exact ⟨m+1,⟨rfl,rfl,rfl,rfl,rfl,rfl,rfl,rfl,rfl,rfl,rfl,rfl,rfl,trivial⟩,aN,aJ,⟨hm2,cD hm2 hmall (by rw[hv];exact hq)⟩,by omega⟩
   have hmn:m=z.args.length:=by simp at cm;omega
   rw[hmn,qy] at hmall;refine zt<|bQ U U ?_;exact ⟨k+1,p9,aN,aJ,⟨hk2,cD hzi hkall (by rw[hze];exact hmall)⟩,by omega⟩
  have hkn:k=b.s.length:=by simp at ck;omega
  rw[hkn,show b.s.length=b.s.zipIdx.length by simp,qy] at hkall;refine zt<|Z<|ao ji U Zp U U<|ao jj U Y5 U U<|aD Yk U<|aT U U<|aw U<|zo (s:=121) U (fun c0=>?_) (fun c0=>?_)
  ·have d0:¬b.t.kind=0:=by simpa using c0
   refine M U U c0<|ae Z2 jk U U<|M U U c0<|ao ji U Zp U U<|M U U c0<|ao jj U j9 U U<|M U U c0<|aD jg U<|M U U c0<|C U<|M U U c0<|ao ji U Zw U U<|M U U c0<|aK Y3 U<|M U U c0<|am Z4 U<|M U U c0<|zb (kh f hE hf (gl hTm d0) (i:Int) (b.s.length:Int) (by omega) (by omega)) U<|M U U c0<|aL U<|aA U c0 U<|Y<|zq U (fun cq=>?_) (fun cq=>?_)
   ·have hq:fA f (aE f b.t.var) i b.s.length=false:=by simpa using cq
    refine Z<|ah U<|Y<|zf ?_
    repeat (first|refine ad ?_|refine aa ?_)
    refine bt U ?_;rw[sG hi2 hget (by unfold sm NR;rw[hq,wb d0];simp)]
   have hq:fA f (aE f b.t.var) i b.s.length=true:=by simpa using cq
   refine zc<|bQ U U ?_;exact ⟨i+1,f7,aN,aJ,⟨hi2,du hiall (by rw[qN hget];unfold sm NR;rw[hjall,hkall,hq];simp[dr])⟩,by omega⟩
  have d0:b.t.kind=0:=by simpa using c0
  refine H U U c0<|H U U c0<|H U U c0<|H U U c0<|H U U c0<|H U U c0<|H U U c0<|H U U c0<|H U U c0<|H U U c0<|ay U c0 U<|Y<|yl U U<|zc<|bQ U U ?_;exact ⟨i+1,f7,aN,aJ,⟨hi2,du hiall (by rw[qN hget];unfold sm NR;rw[hjall,hkall,d0];simp[dr])⟩,by omega⟩
 have hin:i=f.q.length:=by simp at ci;omega
 subst hin;refine zt<|Z<|ah U<|Y<|zf ?_
 repeat (first|refine ad ?_|refine aa ?_)
 refine bt U ?_;rw[show lu f=true by unfold lu;rw[dj,donce,hiall];rfl]
end
section
open Go.Proofs.Tryz
open Go.Proofs Go.Lib Go.Shelf Go.RowKit
variable {E:World}
set_option maxRecDepth 20000
theorem gP (f:ab) (v:Int) (hv:bn f v=true):aS prog E 127 [.agg (bH f),.i v] (.i (aM f v)):=by
 obtain ⟨x,hx,hv2,hk⟩:=zL hv;rw[hk];refine zm func127 U (by decide) U<|Z<|zx (cs:=_) U U U<|ap U<|Y<|Z<|ao jf U Zs U U<|aK Y4 U<|C U<|X (bD v.toNat Z7 Yc U U hv2 hx)<|ao Zr U X5 U U<|aD Xh U<|ap U<|Y<|zf ?_
 repeat (first|refine ad ?_|refine aa ?_)
 refine gu U ?_
 rfl
theorem uc (c:Int):aS prog E 128 [.int .u8 c] (.i (fc c)):=by
 refine zm func128 U (by decide) U<|Z<|ap U<|Y<|za<|Z<|C U<|Y<|zd<|Z<|au U U<|ah U<|Y<|zq U (fun c1=>?_) (fun c1=>?_)
 ·refine Z<|ap U<|Y<|zf ?_
  repeat (first|refine ad ?_|refine aa ?_)
  refine gu U ?_;unfold fc;simp_all
 refine Z<|au U U<|ah U<|Y<|zq U (fun c2=>?_) (fun c2=>?_)
 ·refine Z<|ap U<|Y<|zf ?_
  repeat (first|refine ad ?_|refine aa ?_)
  refine gu U ?_;unfold fc;simp_all
 refine zc<|Z<|ap U<|Y<|zf ?_
 repeat (first|refine ad ?_|refine aa ?_)
 refine gu U ?_;unfold fc;simp_all
theorem FU:∀j:Nat,j<27→decide ((cF (j:Int)).1=⟨#[99,111,112,121]⟩)=decide (j=1):=by decide
theorem sH {op:Int} (h:0≤op∧op≤26):((cF op).1=⟨#[99,111,112,121]⟩)↔op=1:=by
 have h1:=FU op.toNat (by omega);rw[we h.1] at h1
 constructor
 ·intro e;have:decide (op.toNat=1)=true:=by rw[←h1];exact wa e
  have:=wg this;omega
 intro e;have h2:op.toNat=1:=by omega
 have:decide ((cF op).1=⟨#[99,111,112,121]⟩)=true:=by rw[h1];exact wa h2
 exact wg this
theorem ud {op:Int} (h:0≤op∧op≤26):iJ[op.toNat]?=some (cF op):=by
 unfold cF;have hl:op.toNat<iJ.length:=by have:iJ.length=27:=rfl;omega
 rw[if_pos h.1,qt hl];rfl
def jD (f:ab) (x:aB):List Int:=if x.op=1 then[aM f x.dst] else aW x.op
theorem FV {f:ab} {x:aB} (h:dT f x):x.args.length=(jD f x).length:=by
 rw[h.len];unfold jD;split
 ·rename_i e;rw[e];rfl
 rfl
theorem ue {f:ab} {x:aB} (h:dT f x):fl f x=(decide (x.args.map (aM f)=jD f x)&&(!bF x.op||(decide (x.op=1)||decide (aM f x.dst=dq x.op)))):=by
 unfold fl jD
 by_cases e:x.op=1
 ·have hl:=h.len;rw[e,show (aW 1).length=1 from rfl] at hl;obtain ⟨a,ha⟩:=List.length_eq_one_iff.1 hl;rw[if_pos e,if_pos e,ha];simp[e];exact eq_comm
 rw[if_neg e,if_neg e];simp[e]
theorem C4 {op:Int} {m:Nat} (h:m<(aW op).length):∃c:UInt8,(cF op).2.1.data[m]?=some c∧(aW op)[m]=fc (c.toNat:Int):=by
 have h1:m<(cF op).2.1.data.size:=by rw[qJ] at h;exact h
 have e:(aW op)[m]?=((cF op).2.1.data.toList[m]?).map fun b=>fc b.toNat:=by unfold aW;rw[w3]
 rw[qt h,Array.getElem?_toList,Array.getElem?_eq_getElem h1] at e;exact ⟨(cF op).2.1.data[m],by rw[Array.getElem?_eq_getElem h1],by simpa using e⟩
theorem C5 {op:Int} (h:¬(cF op).2.2=⟨#[]⟩):∃c:UInt8,(cF op).2.2.data[0]?=some c∧dq op=fc (c.toNat:Int):=by
 unfold dq
 generalize (cF op).2.2=m at h ⊢
 obtain ⟨⟨l⟩⟩:=m;cases l with
 |nil=>exact absurd rfl h
 |cons c l=>exact ⟨c,by simp,rfl⟩
end
end Go.Proofs.YtbbonnfjealmpaaGreatDoor
