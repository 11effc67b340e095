/- What an operation on ranges comes to, by the program. Of int64s. -/
import Derived.Test.YtbbonnfjealmpaaGreatDoorZXf
import Derived.Test.YtbbonnfjealmpaaGreatDoorZXc
import Derived.Test.YtbbonnfjealmpaaGreatDoorZXb
set_option linter.unusedVariables false
set_option linter.unusedSimpArgs false
set_option linter.unusedSectionVars false
namespace Go.Proofs.YtbbonnfjealmpaaGreatDoor
section
open Go.Proofs.Tryz
open Go.Proofs Go.Lib Go.Shelf Go.RowKit
variable {E:World}
set_option maxRecDepth 20000
theorem H0 {f:ab} {x:aB} {m:Nat} (e:x.op=1) (h:m<(jD f x).length):(jD f x)[m]=aM f x.dst:=by
 have h2:(jD f x)[m]?=some (aM f x.dst):=by
  unfold jD at h ⊢;rw[if_pos e] at h ⊢;simp at h;subst h;rfl
 rw[qt h] at h2;exact Option.some.inj h2
theorem H1 {f:ab} {x:aB} {m:Nat} (e:¬x.op=1) (h:m<(jD f x).length) (h':m<(aW x.op).length):(jD f x)[m]=(aW x.op)[m]:=by
 have h2:(jD f x)[m]?=some ((aW x.op)[m]):=by
  unfold jD;rw[if_neg e,qt h']
 rw[qt h] at h2;exact Option.some.inj h2
theorem FW {f:ab} {t:fJ} (h:bP f t=true):t.kind=0∨t.kind=1∨t.kind=2:=by
 unfold bP at h
 by_cases h0:t.kind=0
 ·exact .inl h0
 rw[if_neg h0] at h
 by_cases h1:t.kind=1
 ·exact .inr (.inl h1)
 rw[if_neg h1] at h
 by_cases h2:t.kind=2
 ·exact .inr (.inr h2)
 rw[if_neg h2] at h;cases h
set_option maxHeartbeats 8000000 in
theorem vD (f:ab) (hf:small f) (hS:bN f):aS prog E 84 [.agg (bH f)] (.bool (f.q.all (gX f))):=by
 have hn:=hf.2.2.1;refine zm func84 U (by decide) U<|Z<|zx (cs:=_) U U U<|ah U<|Y<|za<|Z<|ao jf U Zd U U<|aK Zf U<|am jr U<|C U<|Y<|zd<|zu (γ:=Nat) [1,16,17] (fun i=>[(18,.i i)]) (fun i=>[]) (fun i=>i≤f.q.length∧(f.q.take i).all (gX f)=true) (fun i=>f.q.length - i) 0 aN aJ (⟨qw _,U⟩) ?_;rintro i ⟨hi,hall⟩;refine Z<|aq U U<|Y<|za<|zh U (fun ci=>?_) (fun ci=>?_)
 ·have hi2:i<f.q.length:=by simp at ci;omega
  obtain ⟨b,hbi⟩:∃b,f.q[i]=b:=⟨_,rfl⟩;have hget:f.q[i]?=some b:=by rw[qt hi2,hbi]
  have hmem:b∈f.q:=hbi▸qx hi2;obtain ⟨hb0,hb1,hb2,hb3,hb4⟩:=hf.2.2.2.2 b hmem;obtain ⟨hPh,hIn,hTm⟩:=hS.2.2.2.2.2 b hmem;have hbad:gX f b=false→f.q.all (gX f)=false:=fun h=>Bool.eq_false_iff.2 (dW hi2 (by rw[hbi];exact h));refine zc<|za<|zd<|Z<|X (bD i jr Z1 U U U hget)<|ae Ye Z1 U U<|zp (cs:=[.e,.n,.n,.i 0,.i 0,.i 0,.i 0]) Zh U U<|fun i4=>zi Z1 U U U U U U .head U<|y9 (zz (t:=4) U .head)<|Y<|za<|Z<|ao ji U Zv U U<|aK Yf U<|am Z6 U<|C U<|Y<|zd<|zu (γ:=Nat) [1,4,16,17,18,23,24] (fun j=>[(25,.i j)]) (fun j=>[]) (fun j=>j≤b.p.length∧(b.p.take j).all (o5 f)=true) (fun j=>b.p.length - j) 0 aN aJ (⟨qw _,U⟩) ?_;rintro j ⟨hj,hjall⟩;refine Z<|aq U U<|Y<|za<|zh U (fun cj=>?_) (fun cj=>?_)
  ·have hj2:j<b.p.length:=by simp at cj;omega
   obtain ⟨p,hp⟩:∃p,b.p[j]=p:=⟨_,rfl⟩;have hpm:p∈b.p:=hp▸qx hj2;obtain ⟨hpd,hpl,hpn,hpa,hpf⟩:=hPh p hpm;have hpb:=(hb3 p hpm).1;refine zc<|za<|zd<|Z<|X (bD j Z6 Ze U U U (by rw[qt hj2,hp])) ?_;refine ae Ys Ze U U<|zp (cs:=[.i 0,.n,.n]) Y0 U U<|fun i6=>zi Ze U U U U U U .head U<|y9 (zz (t:=6) U .head)<|Y<|Z<|ao Z3 U jh U U<|aK jy U<|am j7 U<|C U<|Y<|zd<|zu (γ:=Nat) [1,4,6,16,17,18,23,24,25,30,31] (fun k=>[(32,.i k)]) (fun k=>[]) (fun k=>k≤p.args.length∧(p.args.take k).all (fun v=>decide (aM f v=aM f p.dst))=true) (fun k=>p.args.length - k) 0 aN aJ (⟨qw _,U⟩) ?_;rintro k ⟨hk,hkall⟩;refine Z<|aq U U<|Y<|za<|zh U (fun ck=>?_) (fun ck=>?_)
   ·have hk2:k<p.args.length:=by simp at ck;omega
    obtain ⟨v,hv⟩:∃v,p.args[k]=v:=⟨_,rfl⟩;have hvv:=List.all_eq_true.1 hpa v (hv▸qx hk2);refine zc<|za<|zd<|Z<|X (bD k j7 j9 U U U (by rw[qt hk2,hv])) ?_;refine aD jg U<|ap U<|Y<|za<|zn (fun j=>false) (by kernel_rfl) U (zk (.rest _))<|D 0 U (yj Z2 jk U U)<|D 1 U (dC U)<|D 3 U (yj Z2 jk U U)<|D 4 U (dk Z3 U j9 U U)<|D 5 U (d9 jg U)<|bp 2 U<|zb (gP f v hvv) U<|Y<|bp 6 U<|zb (gP f p.dst hpd) U<|Y<|D 7 U (Gv.neqI U U)<|dS<|zq U (fun cq=>?_) (fun cq=>?_)
    ·have hq:¬aM f v=aM f p.dst:=by simpa using cq
     have hph:o5 f p=false:=by
      unfold o5;rw[show (p.args.any fun v=>!decide (aM f v=aM f p.dst))=true from List.any_eq_true.2 ⟨v,hv▸qx hk2,by simp[hq]⟩];rfl
     refine Z<|ah U<|Y<|zf ?_
     repeat (first|refine ad ?_|refine aa ?_)
     refine bt U ?_;rw[hbad (by unfold gX;rw[show b.p.all (o5 f)=false from Bool.eq_false_iff.2 (dW hj2 (by rw[hp];exact hph))];rfl)]
    have hq:aM f v=aM f p.dst:=by simpa using cq
    refine zc<|bQ U U ?_;exact ⟨k+1,sX,aN,aJ,⟨hk2,cD hk2 hkall (by rw[hv];simp[hq])⟩,by omega⟩
   have hkn:k=p.args.length:=by simp at ck;omega
   rw[hkn,qy] at hkall;have hph:o5 f p=true:=by
    unfold o5;rw[show (p.args.any fun v=>!decide (aM f v=aM f p.dst))=false from List.any_eq_false.2 fun v hv=>by have:=List.all_eq_true.1 hkall v hv;simpa using this];rfl
   refine zt<|bQ U U ?_;exact ⟨j+1,lI,aN,aJ,⟨hj2,cD hj2 hjall (by rw[hp];exact hph)⟩,by omega⟩
  have hjn:j=b.p.length:=by simp at cj;omega
  subst hjn;rw[qy] at hjall;refine zt<|za<|Z<|ao ji U Zw U U<|aK Y3 U<|am Z4 U<|C U<|Y<|zd<|zu (γ:=Nat) [1,4,16,17,18,47,48] (fun k=>[(49,.i k)]) (fun k=>[]) (fun k=>k≤b.s.length∧(b.s.take k).all (fl f)=true) (fun k=>b.s.length - k) 0 aN aJ (⟨qw _,U⟩) ?_;rintro k ⟨hk,hkall⟩;refine Z<|aq U U<|Y<|za<|zh U (fun ck=>?_) (fun ck=>?_)
  ·have hk2:k<b.s.length:=by simp at ck;omega
   obtain ⟨z,hz⟩:∃z,b.s[k]=z:=⟨_,rfl⟩;have hzm:z∈b.s:=hz▸qx hk2;have hI:=fG (hIn z hzm);have hzl:=hb4 z hzm;have hwl:=FV hI;have hdst:bF z.op=true→bn f z.dst=true:=fun h=>by
    rcases hI.dst with ⟨d1,_⟩|⟨_,_,d3⟩
    ·rw[h] at d1;cases d1
    exact d3
   have hcopy:z.op=1→bF z.op=true:=fun h=>by rw[h];rfl
   have hib:fl f z=false→f.q.all (gX f)=false:=fun h=>hbad (by unfold gX;rw[hjall,show b.s.all (fl f)=false from Bool.eq_false_iff.2 (dW hk2 (by rw[hz];exact h))];rfl);refine zc<|za<|zd<|Z<|X (bD k Z4 Z9 U U U (by rw[qt hk2,hz])) ?_;refine ae Yg Z9 U U<|zp (cs:=[.i 0,.i 0,.n,.i 0]) Zo U U<|fun i10=>zi Z9 U U U U U U .head U<|y9 (zz (t:=10) U .head)<|Y<|za<|y3 (γ:=Nat) [1,4,10,16,17,18,47,48,49] (fun g=>[(11,.po g 0)]) (fun g=>[(g,.cells 169 (vu (cF z.op)))]) (fun g=>True) ?_ (fun _ _ h=>h) ?_
   ·refine zn (fun j=>false) (by kernel_rfl) U (zk (.rest _))<|D 1 U (dk jd U Zu U U)<|D 2 U (d9 Y2 U)<|yq (i:=0) (j:=5) U U (by kernel_rfl) ?_ ?_
    ·refine zb (lm) U<|Y<|D 3 U (bD z.op.toNat Xc Yz U U (by have:=hI.op;omega) (ud hI.op))<|D 4 U (yj isAgg169 Yz U U)<|bp 5 U<|zp (cs:=[.e,.e,.e]) Xi U U<|fun i11=>Y<|bp 6 U<|zi Yz U U U U U U .head U<|Y<|dS ?_;exact ⟨i11,p9,aN,aJ,trivial⟩
    refine zp (cs:=[.e,.e,.e]) Xi U U<|fun i11=>Y<|bp 0 U<|zb (lm) U<|Y<|D 3 U (bD z.op.toNat Xc Yz U U (by have:=hI.op;omega) (ud hI.op))<|D 4 U (yj isAgg169 Yz U U)<|bp 6 U<|zi Yz U U U U U U .head U<|Y<|dS ?_;exact ⟨i11,p9,aN,aJ,trivial⟩
   rintro i11 _;refine za<|Z<|ao jd U jh U U<|aK jy U<|am j7 U<|C U<|Y<|zd<|zu (γ:=Nat) [1,4,10,11,16,17,18,47,48,49,60] (fun m=>[(61,.i m)]) (fun m=>[(i11,.cells 169 (vu (cF z.op)))]) (fun m=>m≤z.args.length∧(z.args.take m).map (aM f)=(jD f z).take m) (fun m=>z.args.length - m) 0 aN aJ (⟨qw _,by simp⟩) ?_;rintro m ⟨hm,hmall⟩;refine Z<|aq U U<|Y<|za<|zh U (fun cm=>?_) (fun cm=>?_)
   ·have hm2:m<z.args.length:=by simp at cm;omega
    have hmw:m<(jD f z).length:=by omega
    have hmt:m<(aW z.op).length:=by have:=hI.len;omega
    obtain ⟨v,hv⟩:∃v,z.args[m]=v:=⟨_,rfl⟩;have hvv:=hI.args v (hv▸qx hm2);obtain ⟨c,hc,hct⟩:=C4 hmt;have hbadm:¬aM f v=(jD f z)[m]→f.q.all (gX f)=false:=fun h=>hib (by rw[ue hI,wb (G8 hm2 hmw (by rw[hv];exact h))];rfl);refine zc<|za<|zd<|Z<|C U<|ap U<|Y<|Z<|X (ze Y8 U Y7 (by decide) U U)<|X (zj (c:=.str _) Ym U ⟨_,.head⟩ U)<|C U<|X (Gv.indexT (j:=m) Zy U U U hc)<|zb (uc (c.toNat:Int)) U<|ap U<|Y<|za<|Z<|X (ze Y8 U Y7 (by decide) U U)<|X (zj (c:=.str _) Ym U ⟨_,.head⟩ U)<|X (q6 U U)<|Y<|zq U (fun cw=>?_) (fun cw=>?_)
    ·have ew:z.op=1:=(sH hI.op).1 (by simpa using cw);refine bZ<|ae Z2 jk U U<|ao jd U j9 U U<|aD jg U<|zb (gP f z.dst (hdst (hcopy ew))) U<|ap U<|Y<|za<|zn (fun j=>false) (by kernel_rfl) U (zk (.rest _))<|D 0 U (yj Z2 jk U U)<|D 1 U (dk jd U jh U U)<|D 2 U (gJ jy U)<|D 3 U (dC U)<|D 4 U (bD m j7 j9 U U U (by rw[qt hm2,hv])) ?_;refine D 5 U (d9 jg U)<|D 7 U (dC U)<|bp 6 U<|zb (gP f v hvv) U<|Y<|D 8 U (Gv.neqI U U)<|dS<|zq U (fun cq=>?_) (fun cq=>?_)
     ·have hq:¬aM f v=aM f z.dst:=by simpa using cq
      refine Z<|ah U<|Y<|zf ?_
      repeat (first|refine ad ?_|refine aa ?_)
      refine bt U ?_;rw[hbadm (by rw[H0 ew hmw];exact hq)]
     have hq:aM f v=aM f z.dst:=by simpa using cq
     refine zc<|bQ U U ?_;exact ⟨m+1,sX,aN,aJ,⟨hm2,kU hm2 hmw hmall (by rw[hv,H0 ew hmw];exact hq)⟩,by omega⟩
    have ew:¬z.op=1:=fun e=>by have:=(sH hI.op).2 e;simp[this] at cw
    refine zc<|za<|zn (fun j=>false) (by kernel_rfl) U (zk (.rest _))<|D 0 U (yj Z2 jk U U)<|D 1 U (dk jd U jh U U)<|D 2 U (gJ jy U)<|D 3 U (dC U)<|D 4 U (bD m j7 j9 U U U (by rw[qt hm2,hv])) ?_;refine D 5 U (d9 jg U)<|D 7 U (dC U)<|bp 6 U<|zb (gP f v hvv) U<|Y<|D 8 U (Gv.neqI U U)<|dS<|zq U (fun cq=>?_) (fun cq=>?_)
    ·have hq:¬aM f v=fc (c.toNat:Int):=by simpa using cq
     refine Z<|ah U<|Y<|zf ?_
     repeat (first|refine ad ?_|refine aa ?_)
     refine bt U ?_;rw[hbadm (by rw[H1 ew hmw hmt,hct];exact hq)]
    have hq:aM f v=fc (c.toNat:Int):=by simpa using cq
    refine zc<|bQ U U ?_;exact ⟨m+1,sX,aN,aJ,⟨hm2,kU hm2 hmw hmall (by rw[hv,H1 ew hmw hmt,hct];exact hq)⟩,by omega⟩
   have hmn:m=z.args.length:=by simp at cm;omega
   have hall2:z.args.map (aM f)=jD f z:=by rw[hmn,qy,hwl,qy] at hmall;exact hmall
   have hiw:=ue hI;rw[wa hall2,Bool.true_and] at hiw;refine zt<|za<|zn (fun j=>false) (by kernel_rfl) U (zk (.r (.rest _)))<|D 0 U (ze Y8 U Y7 (by decide) U U)<|D 1 U (zj (c:=.str _) Ym U ⟨_,.head⟩ U)<|D 2 U (Gv.neqT U U)<|D 3 U (Cl U)<|bJ.case (s:=89) U (fun c1=>?_) (fun c1=>?_)
   ·have d1:¬(cF z.op).2.2=⟨#[]⟩:=by simpa using c1
    have dm:bF z.op=true:=by rw[nD,wb d1];rfl
    obtain ⟨c,hc,hct⟩:=C5 d1;refine iU 4 U U U c1 (ze Y8 U Y7 (by decide) U U)<|iU 5 U U U c1 (zj (c:=.str _) Ym U ⟨_,.head⟩ U)<|iU 6 U U U c1 (Gv.neqT U U)<|D 7 U (G4 U c1 U)<|D 8 U (Cl U)<|bJ.case (s:=94) U (fun c2=>?_) (fun c2=>?_)
    ·have ew:¬z.op=1:=fun e=>by have:=(sH hI.op).2 e;simp[this] at c2
     refine iU 9 U U U c2 (yj Z2 jk U U)<|iU 10 U U U c2 (dk jd U j9 U U)<|iU 11 U U U c2 (d9 jg U)<|iU 13 U U U c2 (ze Y8 U Y7 (by decide) U U)<|iU 14 U U U c2 (zj (c:=.str _) Ym U ⟨_,.head⟩ U)<|iU 15 U U U c2 (Gv.indexT (j:=0) Zy U U U hc)<|bp 12 U<|M U U c2<|zb (gP f z.dst (hdst dm)) U<|Y<|bp 16 U<|M U U c2<|zb (uc (c.toNat:Int)) U<|Y<|iU 17 U U U c2 (Gv.neqI U U)<|D 18 U (G4 U c2 U)<|dS<|zq U (fun cq=>?_) (fun cq=>?_)
     ·have hq:¬aM f z.dst=fc (c.toNat:Int):=by simpa using cq
      refine Z<|ah U<|Y<|zf ?_
      repeat (first|refine ad ?_|refine aa ?_)
      refine bt U ?_;rw[hib (by rw[hiw,dm,wb ew,hct,wb hq];rfl)]
     have hq:aM f z.dst=fc (c.toNat:Int):=by simpa using cq
     refine zc<|bQ U U ?_;exact ⟨k+1,lI,aN,⟨_,(.drop (.refl _)),rfl⟩,⟨hk2,cD hk2 hkall (by rw[hz,hiw,hct,wa hq];simp)⟩,by omega⟩
    have ew:z.op=1:=(sH hI.op).1 (by simpa using c2);refine fX 9 U U U c2<|fX 10 U U U c2<|fX 11 U U U c2<|fX 12 U U U c2<|fX 13 U U U c2<|fX 14 U U U c2<|fX 15 U U U c2<|fX 16 U U U c2<|fX 17 U U U c2<|D 18 U (GT U c2 U)<|dS<|yl U U<|zc<|bQ U U ?_;exact ⟨k+1,lI,aN,⟨_,(.drop (.refl _)),rfl⟩,⟨hk2,cD hk2 hkall (by rw[hz,hiw,wa ew];simp)⟩,by omega⟩
   have d1:(cF z.op).2.2=⟨#[]⟩:=by simpa using c1
   have dm:bF z.op=false:=by rw[nD,wa d1];rfl
   refine fX 4 U U U c1<|fX 5 U U U c1<|fX 6 U U U c1<|D 7 U (GT U c1 U)<|D 8 U (Cl U)<|fX 9 U U U U<|fX 10 U U U U<|fX 11 U U U U<|fX 12 U U U U<|fX 13 U U U U<|fX 14 U U U U<|fX 15 U U U U<|fX 16 U U U U<|fX 17 U U U U<|D 18 U (GT U U U)<|dS<|yl U U<|zc<|bQ U U ?_;exact ⟨k+1,lI,aN,⟨_,(.drop (.refl _)),rfl⟩,⟨hk2,cD hk2 hkall (by rw[hz,hiw,dm];rfl)⟩,by omega⟩
  have hkn:k=b.s.length:=by simp at ck;omega
  rw[hkn,qy] at hkall;refine zt<|Z<|ao ji U Zp U U<|ae Xl Zp U U<|zp (cs:=[.i 0,.i 0,.i 0,.i 0]) Xg U U<|fun i14=>zi Zp U U U U U U .head U<|y9 (zz (t:=14) U .head)<|Y<|za<|y3 (γ:=Bool) [1,16,17,18] (fun u=>[(152,.bool u)]) (fun u=>[]) (fun u=>u=!eK f b.t) ?_ (fun _ _ h=>h) ?_
  ·have hk3:=FW hTm;refine bZ<|ao jj U Y5 U U<|aD Yk U<|au U U<|aw U<|zo (s:=111) U (fun c1=>?_) (fun c1=>?_)
   ·refine M U U c1<|ae Z2 jk U U<|M U U c1<|ao jj U j9 U U<|M U U c1<|aD jg U<|M U U c1<|zb (gP f b.t.var (gl hTm (by simp_all))) U<|M U U c1<|aT U U<|aA U c1 U<|aw U<|zo (s:=118) U (fun c2=>?_) (fun c2=>?_)
    ·refine H U U c2<|H U U c2<|H U U c2<|H U U c2<|zg U U<|zg U U<|zg U U<|zg U U<|zg U U<|zg U U<|zg U U<|zg U U<|zg U U<|zg U U<|zg U U<|zg U U<|zg U U<|zg U U<|zg U U<|zg U U<|zg U U<|H U U c2<|aA U c2 U<|aw U<|H U U U<|H U U U<|H U U U<|H U U U<|zg U U<|zg U U<|zg U U<|zg U U<|H U U U<|aA U U U<|Y ?_;exact ⟨_,f7,aN,aJ,by simp_all[eK]<;>omega⟩
    refine M U U c2<|ao jj U Y5 U U<|M U U c2<|aD Yk U<|M U U c2<|au U U<|M U U c2<|aw U<|zo (s:=122) U (fun c3=>?_) (fun c3=>?_)
    ·refine M U U c3<|ae Z2 jk U U<|M U U c3<|ao jj U j9 U U<|M U U c3<|aD jg U<|M U U c3<|zb (gP f b.t.var (gl hTm (by simp_all))) U<|M U U c3<|aT U U<|M U U c3<|aw U<|zo (s:=128) U (fun c4=>?_) (fun c4=>?_)
     ·refine H U U c4<|H U U c4<|H U U c4<|H U U c4<|M U U c3<|aA U c4 U<|M U U c3<|aw U<|H U U U<|H U U U<|H U U U<|H U U U<|M U U c3<|aA U U U<|M U U c2<|aA U c3 U<|ay U c2 U<|aw U<|H U U U<|H U U U<|H U U U<|H U U U<|zg U U<|zg U U<|zg U U<|zg U U<|H U U U<|aA U U U<|Y ?_;exact ⟨_,f7,aN,aJ,by simp_all[eK]<;>omega⟩
     refine M U U c4<|ao jj U Zi U U<|M U U c4<|X (yt (j:=0) Z8 j9 U U U (by decide) U)<|M U U c4<|aD jg U<|M U U c4<|au U U<|M U U c3<|ay U c4 U<|M U U c3<|aw U<|zo (s:=134) U (fun c5=>?_) (fun c5=>?_)
     ·refine H U U c5<|H U U c5<|H U U c5<|H U U c5<|M U U c3<|aA U c5 U<|M U U c2<|aA U c3 U<|ay U c2 U<|aw U<|H U U U<|H U U U<|H U U U<|H U U U<|zg U U<|zg U U<|zg U U<|zg U U<|H U U U<|aA U U U<|Y ?_;exact ⟨_,f7,aN,aJ,by simp_all[eK]<;>omega⟩
     refine M U U c5<|ao jj U Zi U U<|M U U c5<|X (yt (j:=1) Z8 j9 U U U (by decide) U)<|M U U c5<|aD jg U<|M U U c5<|au U U<|M U U c3<|ay U c5 U<|M U U c2<|aA U c3 U<|ay U c2 U<|aw U<|zo (s:=142) U (fun c6=>?_) (fun c6=>?_)
     ·refine H U U c6<|H U U c6<|H U U c6<|H U U c6<|zg U U<|zg U U<|zg U U<|zg U U<|H U U c6<|aA U c6 U<|Y ?_;exact ⟨_,f7,aN,aJ,by simp_all[eK]<;>omega⟩
     refine M U U c6<|ao jj U Y5 U U<|M U U c6<|aD Yk U<|M U U c6<|au U U<|M U U c6<|aw U<|zo (s:=146) U (fun c7=>?_) (fun c7=>?_)
     ·refine M U U c7<|ao jj U Zi U U<|M U U c7<|X (yt (j:=0) Z8 j9 U U U (by decide) U)<|M U U c7<|aD jg U<|M U U c7<|au U U<|M U U c6<|aA U c7 U<|ay U c6 U<|Y ?_;exact ⟨_,f7,aN,aJ,by simp_all[eK]<;>omega⟩
     refine H U U c7<|H U U c7<|H U U c7<|H U U c7<|M U U c6<|ay U c7 U<|ay U c6 U<|Y ?_;exact ⟨_,f7,aN,aJ,by simp_all[eK]<;>omega⟩
    refine H U U c3<|H U U c3<|H U U c3<|H U U c3<|H U U c3<|H U U c3<|zg U U<|zg U U<|zg U U<|zg U U<|H U U c3<|H U U c3<|zg U U<|zg U U<|zg U U<|zg U U<|H U U c3<|M U U c2<|ay U c3 U<|ay U c2 U<|aw U<|M U U U<|ao jj U Y5 U U<|M U U U<|aD Yk U<|M U U U<|au U U<|M U U U<|aw U<|zo (s:=146) U (fun c8=>?_) (fun c8=>?_)
    ·refine M U U c8<|ao jj U Zi U U<|M U U c8<|X (yt (j:=0) Z8 j9 U U U (by decide) U)<|M U U c8<|aD jg U<|M U U c8<|au U U<|M U U U<|aA U c8 U<|ay U U U<|Y ?_;exact ⟨_,f7,aN,aJ,by simp_all[eK]<;>omega⟩
    refine H U U c8<|H U U c8<|H U U c8<|H U U c8<|M U U U<|ay U c8 U<|ay U U U<|Y ?_;exact ⟨_,f7,aN,aJ,by simp_all[eK]<;>omega⟩
   refine H U U c1<|H U U c1<|H U U c1<|H U U c1<|H U U c1<|ay U c1 U<|aw U<|M U U U<|ao jj U Y5 U U<|M U U U<|aD Yk U<|M U U U<|au U U<|M U U U<|aw U<|zo (s:=122) U (fun c9=>?_) (fun c9=>?_)
   ·refine M U U c9<|ae Z2 jk U U<|M U U c9<|ao jj U j9 U U<|M U U c9<|aD jg U<|M U U c9<|zb (gP f b.t.var (gl hTm (by simp_all))) U<|M U U c9<|aT U U<|M U U c9<|aw U<|zo (s:=128) U (fun c10=>?_) (fun c10=>?_)
    ·refine H U U c10<|H U U c10<|H U U c10<|H U U c10<|M U U c9<|aA U c10 U<|M U U c9<|aw U<|H U U U<|H U U U<|H U U U<|H U U U<|M U U c9<|aA U U U<|M U U U<|aA U c9 U<|ay U U U<|aw U<|H U U U<|H U U U<|H U U U<|H U U U<|zg U U<|zg U U<|zg U U<|zg U U<|H U U U<|aA U U U<|Y ?_;exact ⟨_,f7,aN,aJ,by simp_all[eK]<;>omega⟩
    refine M U U c10<|ao jj U Zi U U<|M U U c10<|X (yt (j:=0) Z8 j9 U U U (by decide) U)<|M U U c10<|aD jg U<|M U U c10<|au U U<|M U U c9<|ay U c10 U<|M U U c9<|aw U<|zo (s:=134) U (fun c11=>?_) (fun c11=>?_)
    ·refine H U U c11<|H U U c11<|H U U c11<|H U U c11<|M U U c9<|aA U c11 U<|M U U U<|aA U c9 U<|ay U U U<|aw U<|H U U U<|H U U U<|H U U U<|H U U U<|zg U U<|zg U U<|zg U U<|zg U U<|H U U U<|aA U U U<|Y ?_;exact ⟨_,f7,aN,aJ,by simp_all[eK]<;>omega⟩
    refine M U U c11<|ao jj U Zi U U<|M U U c11<|X (yt (j:=1) Z8 j9 U U U (by decide) U)<|M U U c11<|aD jg U<|M U U c11<|au U U<|M U U c9<|ay U c11 U<|M U U U<|aA U c9 U<|ay U U U<|aw U<|zo (s:=142) U (fun c12=>?_) (fun c12=>?_)
    ·refine H U U c12<|H U U c12<|H U U c12<|H U U c12<|zg U U<|zg U U<|zg U U<|zg U U<|H U U c12<|aA U c12 U<|Y ?_;exact ⟨_,f7,aN,aJ,by simp_all[eK]<;>omega⟩
    refine M U U c12<|ao jj U Y5 U U<|M U U c12<|aD Yk U<|M U U c12<|au U U<|M U U c12<|aw U<|zo (s:=146) U (fun c13=>?_) (fun c13=>?_)
    ·refine M U U c13<|ao jj U Zi U U<|M U U c13<|X (yt (j:=0) Z8 j9 U U U (by decide) U)<|M U U c13<|aD jg U<|M U U c13<|au U U<|M U U c12<|aA U c13 U<|ay U c12 U<|Y ?_;exact ⟨_,f7,aN,aJ,by simp_all[eK]<;>omega⟩
    refine H U U c13<|H U U c13<|H U U c13<|H U U c13<|M U U c12<|ay U c13 U<|ay U c12 U<|Y ?_;exact ⟨_,f7,aN,aJ,by simp_all[eK]<;>omega⟩
   refine H U U c9<|H U U c9<|H U U c9<|H U U c9<|H U U c9<|H U U c9<|zg U U<|zg U U<|zg U U<|zg U U<|H U U c9<|H U U c9<|zg U U<|zg U U<|zg U U<|zg U U<|H U U c9<|M U U U<|ay U c9 U<|ay U U U<|aw U<|M U U U<|ao jj U Y5 U U<|M U U U<|aD Yk U<|M U U U<|au U U<|M U U U<|aw U<|zo (s:=146) U (fun c14=>?_) (fun c14=>?_)
   ·refine M U U c14<|ao jj U Zi U U<|M U U c14<|X (yt (j:=0) Z8 j9 U U U (by decide) U)<|M U U c14<|aD jg U<|M U U c14<|au U U<|M U U U<|aA U c14 U<|ay U U U<|Y ?_;exact ⟨_,f7,aN,aJ,by simp_all[eK]<;>omega⟩
   refine H U U c14<|H U U c14<|H U U c14<|H U U c14<|M U U U<|ay U c14 U<|ay U U U<|Y ?_;exact ⟨_,f7,aN,aJ,by simp_all[eK]<;>omega⟩
  rintro u hu;subst hu;refine zq U (fun ct=>?_) (fun ct=>?_)
  ·have dt:eK f b.t=false:=by simpa using ct
   refine Z<|ah U<|Y<|zf ?_
   repeat (first|refine ad ?_|refine aa ?_)
   refine bt U ?_;rw[hbad (by unfold gX;rw[hjall,hkall,dt];rfl)]
  have dt:eK f b.t=true:=by simpa using ct
  refine zc<|bQ U U ?_;exact ⟨i+1,eX,aN,aJ,⟨hi2,cD hi2 hall (by rw[hbi];unfold gX;rw[hjall,hkall,dt];rfl)⟩,by omega⟩
 have hin:i=f.q.length:=by simp at ci;omega
 rw[hin,qy] at hall;refine zt<|Z<|ah U<|Y<|zf ?_
 repeat (first|refine ad ?_|refine aa ?_)
 refine bt U ?_;rw[hall]
end
section
open Go.Proofs.Tryz
variable {α:Type}
def mg (k:Int):List (Int × List α)→List α
 |[]=>[]
 |(k',r)::es=>if k=k' then r else mg k es
def ms (k:Int) (r:List α):List (Int × List α)→List (Int × List α)
 |[]=>[(k,r)]
 |(k',r')::es=>if k=k' then (k,r)::es else (k',r')::ms k r es
theorem L6 (k k':Int) (r:List α):∀es:List (Int × List α),mg k (ms k' r es)=if k=k' then r else mg k es
 |[]=>by simp only[ms,mg]
 |(q,r')::es=>by
  simp only[ms]
  by_cases h:k'=q
  ·subst h;rw[if_pos rfl];simp only[mg]
   by_cases h2:k=k'
   ·rw[if_pos h2,if_pos h2]
   rw[if_neg h2,if_neg h2,if_neg h2]
  rw[if_neg h];simp only[mg]
  by_cases h2:k=q
  ·rw[if_pos h2,if_pos h2,if_neg (fun e=>h (by rw[←e,h2]))]
  rw[if_neg h2,if_neg h2];exact L6 k k' r es
def kv (k:Int):Value:=.int .i64 k
theorem uf (k:Int):MapKept.IsKey (.int .i64) (kv k):=rfl
theorem xT (k k':Int):Instr.sameNow (.int .i64) (kv k) (kv k')=some (decide (k=k')):=by
 simp[Instr.sameNow,kv];by_cases h:k=k'<;>simp[h]
def H2 (arr:Array MapEntry):List (Value × Value):=arr.toList.map fun e=>(e.key,e.val)
inductive nQ (c:fu α) (e:TypeId):List (Int × List α)→List (Value × Value)→List (Nat × Obj)→Prop
 |nil:nQ c e [] [] []
 |cons {k r es a n cap hs A B}:fI c.k e a n cap (c.vs r) A→nQ c e es hs B→nQ c e ((k,r)::es) ((kv k,.slice a n cap)::hs) (A++B)
def Oe (c:fu α) (e:TypeId) (es:List (Int × List α)) (k:Int) (l:List MapEntry) (B:List (Nat × Obj)):Prop:=
 (Instr.findNow (.int .i64) (kv k) l 0=some none∧∀r' a' n' c' A',fI c.k e a' n' c' (c.vs r') A'→∃L',nQ c e (ms k r' es) (l.map (fun e=>(e.key,e.val))++[(kv k,.slice a' n' c')]) L'∧L'.Perm (A'++B)) ∨
 (∃j v e0,Instr.findNow (.int .i64) (kv k) l 0=some (some (j,v))∧l[j]?=some e0∧e0.key=kv k∧∀r' a' n' c' A',fI c.k e a' n' c' (c.vs r') A'→∃L',nQ c e (ms k r' es) ((l.map fun e=>(e.key,e.val)).set j (kv k,.slice a' n' c')) L'∧L'.Perm (A'++B))
theorem nQ.get {c:fu α} {e:TypeId} {k:Int}:∀{l:List MapEntry} {es:List (Int × List α)} {L:List (Nat × Obj)} (i:Nat),nQ c e es (l.map fun e=>(e.key,e.val)) L →
  (Instr.findNow (.int .i64) (kv k) l i=some none∧mg k es=[]∧∀r' a' n' c' A',fI c.k e a' n' c' (c.vs r') A'→∃L',nQ c e (ms k r' es) (l.map (fun e=>(e.key,e.val))++[(kv k,.slice a' n' c')]) L'∧L'.Perm (A'++L)) ∨
  (∃j e0 a n cap A B,Instr.findNow (.int .i64) (kv k) l i=some (some (i+j,.slice a n cap))∧l[j]?=some e0∧e0.key=kv k∧fI c.k e a n cap (c.vs (mg k es)) A∧L.Perm (A++B) ∧
   ∀r' a' n' c' A',fI c.k e a' n' c' (c.vs r') A'→∃L',nQ c e (ms k r' es) ((l.map fun e=>(e.key,e.val)).set j (kv k,.slice a' n' c')) L'∧L'.Perm (A'++B))
 |[],es,L,i,h=>by
  cases h;exact .inl ⟨rfl,rfl,fun r' a' n' c' A' h=>⟨_,by simpa [ms] using nQ.cons (k:=k) h .nil,by simp⟩⟩
 |x::l,es,L,i,h=>by
  generalize hl:((x::l).map fun e=>(e.key,e.val))=hs0 at h
  cases h with
  |nil=>simp at hl
  |@cons k1 r es a n cap hs A B h1 h2=>
   simp only[List.map_cons,List.cons.injEq,Prod.mk.injEq] at hl;obtain ⟨⟨hk,hv⟩,rfl⟩:=hl
   by_cases e1:k=k1
   ·subst e1
    right
    refine ⟨0,x,a,n,cap,A,B,?_,U,hk,by simpa [mg] using h1,.refl _,fun r' a' n' c' A' h=>⟨A'++B,?_,.refl _⟩⟩
    ·unfold Instr.findNow;rw[hk,xT,wa rfl];simp[hv]
    simp only[ms,if_pos,List.map_cons,List.set_cons_zero];exact .cons h h2
   have hf:Instr.findNow (.int .i64) (kv k) (x::l) i=Instr.findNow (.int .i64) (kv k) l (i+1):=by
    rw[Instr.findNow,hk,xT,wb e1]
   have hg:mg k ((k1,r)::es)=mg k es:=by simp[mg,e1]
   have hms:∀r',ms k r' ((k1,r)::es)=(k1,r)::ms k r' es:=fun r'=>by simp[ms,e1]
   rw[hf,hg];rcases nQ.get (k:=k) (i+1) h2 with ⟨g1,g2,g3⟩|⟨j,e0,a1,n1,c1,A1,B1,g1,g2,g3,g4,g5,g6⟩
   ·left
    refine ⟨g1,g2,fun r' a' n' c' A' h=>?_⟩;obtain ⟨L',q1,q2⟩:=g3 r' a' n' c' A' h;refine ⟨A++L',?_,?_⟩
    ·rw[hms,List.cons_append];exact .cons h1 q1
    refine (q2.append_left A).trans ?_;rw[←qv,←qv];exact List.perm_append_comm.append_right B
   right
   refine ⟨j+1,e0,a1,n1,c1,A1,A++B1,by rw[g1];congr 3;omega,by simpa using g2,g3,g4,?_,fun r' a' n' c' A' h=>?_⟩
   ·refine (g5.append_left A).trans ?_;rw[←qv,←qv];exact List.perm_append_comm.append_right B1
   obtain ⟨L',q1,q2⟩:=g6 r' a' n' c' A' h;refine ⟨A++L',?_,?_⟩
   ·rw[hms,List.set_cons_succ];exact .cons h1 q1
   refine (q2.append_left A).trans ?_;rw[←qv,←qv];exact List.perm_append_comm.append_right B1
def m5 (c:fu α) (e:TypeId) (b:Nat) (es:List (Int × List α)):bC:=.heap fun L=>∃arr clock B,L=(b,.map arr clock)::B∧nQ c e es (H2 arr) B
def H3 (c:fu α) (e:TypeId) (b:Nat) (es:List (Int × List α)) (k:Int):bC:=.heap fun L=>∃arr clock B,L=(b,.map arr clock)::B∧Oe c e es k arr.toList B
section
variable {E:World} {P:Program} {ops:Array Oper} {K:aU→OL→Prop} {env:aU} {O O' O'':OL} {rest:List Oper} {n:Nat}
variable {d ty:Nat} {pos:String} {af:Array Edge} {x y z:Operand} {t u e T kt:TypeId} {b:Nat}
theorem ax.makeMapN (c:fu α) (e:TypeId) (k:∀b,ax P E ops K rest (bB env d (lh b)) ((0,m5 c e b [])::O)):ax P E ops K (Oper.mk (some d) (.makeMap t none) ty pos af none::rest) env O:=fun I F ρ w h1 ⟨ht,L,hL,hS⟩=>by
 refine bL.step U ?_;unfold mJ;have:(execOp (Go.Proofs.YtbbonnfjealmpaaGreatDoor.ev ρ) (Oper.mk (some d) (.makeMap t none) ty pos af none)).run P w=.ok (.value (.map (some w.heap.size))) (w.alloc (.map #[] 0)):=by
  simp only[execOp,Option.map_none];rw[Sem.run_bind,run_makeMap_plain];rfl
 rw[this];exact k w.heap.size I F _ _ (h1.upd d rfl) ⟨ht,(w.heap.size,.map #[] 0)::L,⟨[_],L,rfl,⟨#[],0,[],rfl,.nil⟩,hL⟩,hS.alloc _⟩
theorem ax.mapTake {c:fu α} {k:Int} {m:Nat} {es:List (Int × List α)} (ht:P.underlying t=some (.map kt u)) (hk:P.underlying kt=some (.int .i64)) (hz:∀w,(zeroValue u).run P w=.ok (.slice none 0 0) w) (hx:bd env x=lh b) (hy:bd env y=.int .i64 k)
  (hO:gc O m (m5 c e b es) (H3 c e b es k) O') (kk:∀i,ax P E ops K rest (bB env d (.j i (mg k es).length)) ((i,.u c.k e (c.av (mg k es)))::O')) :
  ax P E ops K (Oper.mk (some d) (.lookup t x y false) ty pos af none::rest) env O:=fun I F ρ w h1 h2=>by
 obtain ⟨i,hi⟩:=h2.name;obtain ⟨htop,L,hL,hS⟩:=h2;have hx:=iZ h1 hx;have hy:=gV h1 hy;obtain ⟨A,B,hp,⟨arr,clock,B0,rfl,hN⟩,hback⟩:=hO.rep hL;have hS2:SL I.k ((b,.map arr clock)::(B0++(B++F))) E w:=hS.perm (by
  have:=hp.append_right F
  simpa using this.symm)
 have hb:=hS2.j _ (.head _);simp only at hb;have hc:(Instr.checkKey arr.isEmpty 10000 kt (kv k)).run P w=.ok () w:=MapKept.run_checkKey (k:=kv k) hk (uf k) _ 9999;rcases nQ.get (k:=k) 0 hN with ⟨g1,g2,g3⟩|⟨j,e0,a,n1,cap,A1,B1,g1,g2,g3,g4,g5,g6⟩
 ·obtain ⟨J,e1,hle,e2,htop'⟩:=hi (none,0);refine bL.step U ?_;unfold mJ;have hrun:(execOp (Go.Proofs.YtbbonnfjealmpaaGreatDoor.ev ρ) (Oper.mk (some d) (.lookup t x y false) ty pos af none)).run P w=.ok (.value (.slice none 0 0)) w:=by
   simp only[kv] at hc g1;simp[execOp,Instr.lookup,run_underlying ht,hx,hy,MapKept.run_getObj_map hb,hc,MapKept.run_findKey hk g1,hz,Result.andThen]
  rw[hrun];obtain ⟨L',h5,h6⟩:=hback hle (A':=(b,.map arr clock)::B0) ⟨arr,clock,B0,rfl,.inl ⟨g1,g3⟩⟩;rw[g2] at kk;refine bL.mono (fun _ _=>dB.up hle) _ _ _ (kk i J F _ _ ((h1.mono hle).upd d ⟨none,0,e2,U⟩) ⟨htop',L',⟨[],L',U,⟨none,0,0,[],e2,U,fun _ h=>(by cases h),fI.nil _ _⟩,h5⟩,?_⟩);rw[e1];refine hS2.perm<|(h6.append_right F).trans ?_;simp
 obtain ⟨b1,rfl⟩:=g4.adr;have hn:n1=(mg k es).length:=by have:=g4.1;rw[c.vs_len] at this;exact (Nat.eq_of_mul_eq_mul_right c.pos this).symm
 subst hn;obtain ⟨J,e1,hle,e2,htop'⟩:=hi (b1,cap);rw[Nat.zero_add] at g1;refine bL.step U ?_;unfold mJ;have hrun:(execOp (Go.Proofs.YtbbonnfjealmpaaGreatDoor.ev ρ) (Oper.mk (some d) (.lookup t x y false) ty pos af none)).run P w=.ok (.value (.slice (adr b1) (mg k es).length cap)) w:=by
  simp only[kv] at hc g1;simp[execOp,Instr.lookup,run_underlying ht,hx,hy,MapKept.run_getObj_map hb,hc,MapKept.run_findKey hk g1,Result.andThen]
 rw[hrun];obtain ⟨L',h5,h6⟩:=hback hle (A':=(b,.map arr clock)::B1) ⟨arr,clock,B1,rfl,.inr ⟨j,_,e0,g1,g2,g3,g6⟩⟩;refine bL.mono (fun _ _=>dB.up hle) _ _ _ (kk i J F _ _ ((h1.mono hle).upd d ⟨b1,cap,e2,U⟩) ⟨htop',A1++L',⟨A1,L',U,⟨b1,cap,_,c.vs (mg k es),e2,by rw[c.av_eq];exact fj J _,c.vs_one _,g4⟩,h5⟩,?_⟩);rw[e1];refine hS2.perm<|List.Perm.trans ?_ (List.Perm.cons _ ((g5.append_right (B++F)).symm));have h7:(A1++L'++F).Perm (A1++((b,Obj.map arr clock)::(B1++B))++F):=(h6.append_left A1).append_right F;refine h7.trans ?_;simp only[qv,List.cons_append];exact List.perm_middle
theorem ax.mapPut {c:fu α} {k:Int} {m i n1 q:Nat} {es:List (Int × List α)} {r:List α} {cs:List AV} (ht:P.underlying t=some (.map kt u)) (hk:P.underlying kt=some (.int .i64)) (hx:bd env x=lh b) (hy:bd env y=.i k) (hz:bd env z=.j i n1)
  (hP0:dI O i (.u q e cs) O') (hO:gc O' m (H3 c e b es k) (m5 c e b (ms k r es)) O'') (hq:q=c.k) (hcs:cs=c.av r) (hn1:r.length=n1) (kk:ax P E ops K rest env O'') :
  ax P E ops K (Oper.mk none (.mapUpdate t x y z) ty pos af none::rest) env O:=fun I F ρ w h1 h2=>by
 obtain ⟨htop,L,hL,hS⟩:=h2;have hP:dI O i (.u c.k e (c.av r)) O':=by subst hq hcs;exact hP0
 have hx:=iZ h1 hx;have hy:=gV h1 hy;have h3:=h1.ev z;rw[hz] at h3;obtain ⟨b1,c1,e1,ez⟩:=h3;obtain ⟨A,B,hp,⟨b1',c1',n',vs,e2,hvs,hvc,hown⟩,hB⟩:=hP.rep hL;simp only at e2;rw[e1] at e2;simp only[Option.some.injEq,Prod.mk.injEq] at e2;obtain ⟨rfl,rfl⟩:=e2;have hv:=c.av_un hvs;subst hv;have hnn:n'=n1:=by have:=hown.1;rw[c.vs_len,hn1] at this;exact (Nat.eq_of_mul_eq_mul_right c.pos this).symm
 subst hnn;obtain ⟨A2,B2,hp2,⟨arr,clock,B0,rfl,hole⟩,hback⟩:=hO.rep hB;have hS2:SL I.k ((b,.map arr clock)::(A++(B0++(B2++F)))) E w:=hS.perm (by
  refine List.Perm.trans ?_ ((hp.append_right F).symm);refine List.Perm.trans ?_ (((hp2.append_left A).append_right F).symm);simp only[qv,List.cons_append];exact (List.perm_middle).symm)
 have hb:=hS2.j _ (.head _);simp only at hb;have hc:(Instr.checkKey false 10000 kt (kv k)).run P w=.ok () w:=MapKept.run_checkKey (k:=kv k) hk (uf k) false 9999;have fin:∀(arr':Array MapEntry) (clock':Nat) (L':List (Nat × Obj)),nQ c e (ms k r es) (H2 arr') L'→L'.Perm (A++B0) →
   (execOp (Go.Proofs.YtbbonnfjealmpaaGreatDoor.ev ρ) (Oper.mk none (.mapUpdate t x y z) ty pos af none)).run P w=.ok .skip { w with heap:=w.heap.setIfInBounds b (.map arr' clock') }→bL P ops (dB I F E K) (Oper.mk none (.mapUpdate t x y z) ty pos af none::rest) ρ w:=fun arr' clock' L' hM hpe hrun=>by
  refine bL.step U ?_;unfold mJ;rw[hrun];obtain ⟨L2,h7,h8⟩:=hback (G.le.refl I) (A':=(b,.map arr' clock')::L') ⟨arr',clock',L',rfl,hM⟩;have hh:=MapKept.heap_set (o':=.map arr' clock') hb;have hS3:SL I.k ((b,.map arr' clock')::(A++(B0++(B2++F)))) E { w with heap:=w.heap.setIfInBounds b (.map arr' clock') }:=hS2.turn rfl rfl rfl hh.1 hh.2;refine kk I F ρ _ h1 ⟨htop,L2,h7,hS3.perm ?_⟩;refine (h8.append_right F).trans ?_;simp only[List.cons_append,qv];refine List.Perm.cons _ ?_;have:=hpe.append_right (B2++F)
  simpa [qv] using this
 rcases hole with ⟨g1,g3⟩|⟨j,v0,e0,g1,g2,g3,g6⟩
 ·obtain ⟨L',k1,k2⟩:=g3 r _ _ _ A hown;refine fin (arr.push { key:=kv k,val:=.slice (adr b1) n' c1,born:=clock }) (clock+1) L' ?_ k2 ?_
  ·unfold H2;simpa using k1
  simp only[kv] at hc g1;simp[execOp,hx,hy,ez,Instr.mapUpdate,run_underlying ht,MapKept.run_getObj_map hb,hc,MapKept.run_findKey hk g1,MapKept.run_setObj_map _ hb,Result.andThen,kv]
 obtain ⟨L',k1,k2⟩:=g6 r _ _ _ A hown;have hj':arr[j]?=some e0:=by rw[←Array.getElem?_toList];exact g2
 refine fin (arr.modify j fun e=>{ e with key:=kv k,val:=.slice (adr b1) n' c1 }) clock L' ?_ k2 ?_
 ·have hjl:j<arr.toList.length:=(List.getElem?_eq_some_iff.1 g2).1;have:(arr.modify j fun e=>{ e with key:=kv k,val:=.slice (adr b1) n' c1 }).toList=arr.toList.set j { e0 with key:=kv k,val:=.slice (adr b1) n' c1 }:=by
   apply List.ext_getElem?;intro q;rw[Array.getElem?_toList,Array.getElem?_modify]
   by_cases hq:j=q
   ·subst hq;rw[if_pos rfl,hj',List.getElem?_set_self hjl];rfl
   rw[if_neg hq,List.getElem?_set_ne hq,Array.getElem?_toList]
  unfold H2;rw[this,List.map_set];exact k1
 have hkeep:(Instr.keyThatStays (kv k) (kv k)).run P w=.ok (kv k) w:=MapKept.run_keyThatStays (uf k);simp only[kv] at hc g1 g3 hkeep;simp[execOp,hx,hy,ez,Instr.mapUpdate,run_underlying ht,MapKept.run_getObj_map hb,hc,MapKept.run_findKey hk g1,MapKept.run_setObj_map _ hb,Result.andThen,hj',g3,hkeep,kv]
def ug (c:fu α) (I:G):List (Int × List α)→List (Value × Value)→Prop
 |[],hs=>hs=[]
 |(k,r)::es,hs=>∃v hs',hs=(kv k,v)::hs'∧bW I (.fro c.k (r.map c.row)) v∧ug c I es hs'
theorem ug.mono {c:fu α} {I J:G} (h:I.le J):∀{es:List (Int × List α)} {hs:List (Value × Value)},ug c I es hs→ug c J es hs
 |[],_,e=>e
 |(_,_)::_,_,⟨v,hs',e,h1,h2⟩=>⟨v,hs',e,bW.mono h _ _ h1,ug.mono h h2⟩
theorem nQ.fro {c:fu α} {I:G} {e:TypeId} {es:List (Int × List α)} {hs:List (Value × Value)} {B:List (Nat × Obj)} (h:nQ c e es hs B) (hI:∀x∈B,I.k x.1=some x.2):ug c I es hs:=by
 induction h with
 |nil=>rfl
 |cons h1 _ ih=>exact ⟨_,_,rfl,h1.fro fun x hx=>hI x (List.mem_append_left _ hx),ih fun x hx=>hI x (List.mem_append_right _ hx)⟩
theorem ug.get {c:fu α} {I:G} {k:Int}:∀{l:List MapEntry} {es:List (Int × List α)} (i:Nat),ug c I es (l.map fun e=>(e.key,e.val)) →
  (Instr.findNow (.int .i64) (kv k) l i=some none∧mg k es=[])∨(∃j v,Instr.findNow (.int .i64) (kv k) l i=some (some (j,v))∧bW I (.fro c.k ((mg k es).map c.row)) v)
 |[],[],i,_=>.inl ⟨rfl,rfl⟩
 |_::_,[],_,h=>by cases h
 |[],(_,_)::_,_,⟨_,_,e,_⟩=>by cases e
 |x::l,(k1,r)::es,i,⟨v,hs',e,h1,h2⟩=>by
  simp only[List.map_cons,List.cons.injEq,Prod.mk.injEq] at e;obtain ⟨⟨hk,hv⟩,rfl⟩:=e
  by_cases e1:k=k1
  ·subst e1
   right
   refine ⟨i,v,?_,by simpa [mg] using h1⟩;unfold Instr.findNow;rw[hk,xT,wa rfl];simp[hv]
  have hf:Instr.findNow (.int .i64) (kv k) (x::l) i=Instr.findNow (.int .i64) (kv k) l (i+1):=by
   rw[Instr.findNow,hk,xT,wb e1]
  rw[hf,show mg k ((k1,r)::es)=mg k es by simp[mg,e1]];exact ug.get (i+1) h2
def rI (c:fu α) (b:Nat) (es:List (Int × List α)):bC:=.heapG (fun I L=>∃arr clock,L=[(b,.map arr clock)]∧ug c I es (H2 arr)) fun I J L h hp=>by
 obtain ⟨arr,clock,h1,h2⟩:=hp;exact ⟨arr,clock,h1,h2.mono h⟩
theorem aR.mapKnow {c:fu α} {m:Nat} {es:List (Int × List α)} (hO:gc O m (m5 c e b es) (rI c b es) O'):aR E env O env O':=fun I F ρ w h1 h2=>by
 obtain ⟨htop,L,hL,hS⟩:=h2;obtain ⟨A,B,hp,⟨arr,clock,B0,rfl,hN⟩,hback⟩:=hO.rep hL;have hS2:SL I.k (B0++((b,.map arr clock)::(B++F))) E w:=hS.perm (by
  refine List.Perm.trans ?_ ((hp.append_right F).symm);simp only[List.cons_append,qv];exact List.perm_middle)
 obtain ⟨J,g1,g2,g3⟩:=SL.freezeAllN hS2;have hle:I.le ⟨J,I.h⟩:=⟨g1,fun _ _ h=>h⟩;obtain ⟨L',h5,h6⟩:=hback hle (A':=[(b,.map arr clock)]) ⟨arr,clock,rfl,hN.fro fun x hx=>g3 x hx⟩;refine ⟨⟨J,I.h⟩,hle,h1.mono hle,htop,L',h5,g2.perm ?_⟩;exact h6.append_right F
theorem Gv.lookupF {c:fu α} {k:Int} {m:Nat} {es:List (Int × List α)} (ht:P.underlying t=some (.map kt u)) (hk:P.underlying kt=some (.int .i64)) (hz:∀w,(zeroValue u).run P w=.ok (.slice none 0 0) w) (hx:bd env x=lh b) (hy:bd env y=.int .i64 k)
  (hO:sT O m (rI c b es)):Gv P env O (Oper.mk (some d) (.lookup t x y false) ty pos af none) (.fro c.k ((mg k es).map c.row)):=fun I L E ρ h1 hL=>by
 obtain ⟨O',hO⟩:=hO;obtain ⟨A,B,hp,⟨arr,clock,rfl,hM⟩,_⟩:=hO.rep hL;have hin0:(b,Obj.map arr clock)∈L:=hp.mem_iff.2 (by simp);have hx:=iZ h1 hx;have hy:=gV h1 hy;rcases ug.get (k:=k) 0 hM with ⟨g1,g2⟩|⟨j,v,g1,g2⟩
 ·refine ⟨.slice none 0 0,by rw[g2];exact ⟨none,0,0,rfl,rfl,Nat.le_refl _,fun _=>rfl,trivial⟩,fun w J L' hl hS hin=>?_⟩;have hb:=hS.j _ (hin _ hin0);simp only at hb;have hc:(Instr.checkKey arr.isEmpty 10000 kt (kv k)).run P w=.ok () w:=MapKept.run_checkKey (k:=kv k) hk (uf k) _ 9999;simp only[kv] at hc g1;simp[execOp,Instr.lookup,run_underlying ht,hx,hy,MapKept.run_getObj_map hb,hc,MapKept.run_findKey hk g1,hz,Result.andThen]
 refine ⟨v,g2,fun w J L' hl hS hin=>?_⟩;have hb:=hS.j _ (hin _ hin0);simp only at hb;have hc:(Instr.checkKey arr.isEmpty 10000 kt (kv k)).run P w=.ok () w:=MapKept.run_checkKey (k:=kv k) hk (uf k) _ 9999;simp only[kv] at hc g1;simp[execOp,Instr.lookup,run_underlying ht,hx,hy,MapKept.run_getObj_map hb,hc,MapKept.run_findKey hk g1,Result.andThen]
end
end
section
open Go.Proofs.Tryz
open Go.Proofs
def lC (l:List aO):List AV:=eP.av l
theorem xU (l:List aO):(lC l).length=l.length*2:=eP.av_len l
theorem Er (l:List aO) (r:aO):lC l++bM r=lC (l++[r]):=eP.av_push l r
theorem sJ (r:aO) (l:List aO):lC (r::l)=.i r.1::.i r.2::lC l:=rfl
theorem xV:∀(l:List aO) (j:Nat),(lC l).drop (j*2)=lC (l.drop j)
 |l,0=>by simp
 |[],j+1=>by simp[lC,fu.av]
 |r::l,j+1=>by
  rw[show (j+1)*2=j*2+1+1 by omega,sJ,List.drop_succ_cons,List.drop_succ_cons,xV l j,List.drop_succ_cons]
theorem MQ {l:List aO} {j:Nat} {r:aO} (h:l[j]?=some r):(lC l).drop (j*2)=.i r.1::.i r.2::lC (l.drop (j+1)):=by
 obtain ⟨hj,e⟩:=List.getElem?_eq_some_iff.1 h;rw[xV,List.drop_eq_getElem_cons hj,e,sJ]
theorem Es:∀(l:List aO) (j:Nat),(lC l).take (j*2)=lC (l.take j)
 |l,0=>by simp[lC,fu.av]
 |[],j+1=>by simp[lC,fu.av]
 |r::l,j+1=>by
  rw[show (j+1)*2=j*2+1+1 by omega,sJ,List.take_succ_cons,List.take_succ_cons,Es l j,List.take_succ_cons,sJ]
theorem MR {l:List aO} {j:Nat} (h:j<l.length) (r:aO):(lC l).take (j*2)++bM r++(lC l).drop (j*2+2)=lC (l.set j r):=by
 rw[show j*2+2=(j+1)*2 by omega,Es,xV,Er,List.set_eq_take_append_cons_drop,if_pos h];unfold lC;rw[eP.av_app];simp
theorem L7 {l:List aO} {j:Nat} (h:j<l.length):lC l≠[]:=fun e=>by have:=xU l;rw[e] at this;simp at this;omega
section
variable {E:World} {P:Program} {ops:Array Oper} {K:aU→OL→Prop} {env:aU} {O O' O'':OL} {rest:List Oper} {n:Nat}
variable {d ty:Nat} {pos:String} {af:Array Edge} {x y z:Operand} {t u e T:TypeId}
theorem Gv.idxR {i n j:Nat} {a:Int} {T:TypeId} {l:List aO} (ht:P.underlying t=some (.slice e)) (hs:∀w,(sizeOf e).run P w=.ok 2 w) (hx:bd env x=.j i n) (hy:bd env y=.i a) (hi:a=(j:Int)) (hO:sT O i (.u 2 T (lC l))) (hn:l.length=n) (hj:j<n) :
  Gv P env O (Oper.mk (some d) (.indexAddr t x y) ty pos af none) (.po i (j*2)):=Gv.idxO ht hs hx hy hi hO (L7 (j:=j) (by omega)) hj
theorem Gv.loadR {i j:Nat} {T:TypeId} {l:List aO} {r:aO} (ha:∀w,(isAgg t).run P w=.ok true w) (hs:∀w,(sizeOf t).run P w=.ok 2 w) (hx:bd env x=.po i (j*2)) (hO:sT O i (.u 2 T (lC l))) (hv:l[j]?=some r) :
  Gv P env O (Oper.mk (some d) (.load t x) ty pos af none) (.agg (bM r)):=by
 have hj:=(List.getElem?_eq_some_iff.1 hv).1;exact Gv.loadAG ha hs hx hO (L7 hj) (by rw[xU];omega) (by rw[MQ hv];rfl)
theorem ax.storeR {i j:Nat} {T:TypeId} {l:List aO} {r:aO} (hs:∀w,(sizeOf t).run P w=.ok 2 w) (hx:bd env x=.po i (j*2)) (hy:bd env y=.agg (bM r)) (hO:gc O i (.u 2 T (lC l)) (.u 2 T (lC (l.set j r))) O') (hb:j<l.length)
  (kk:ax P E ops K rest env O'):ax P E ops K (Oper.mk none (.store t x y) ty pos af none::rest) env O:=
 ax.storeG hs hx hy rfl rfl rfl rfl hO (by rw[xU];omega) (by decide) (MR hb r) kk
theorem aR.knowR {t i m:Nat} {T:TypeId} {l:List aO} (hv:env t=.j i m) (hO:dI O i (.u 2 T (lC l)) O') (hm:l.length=m):aR E env O (bB env t (.fro 2 (l.map bM))) O':=
 aR.know hv (rows:=l.map bM) (by
  have:(l.map bM).flatten=lC l:=by unfold lC fu.av;rw[List.flatMap];rfl
  rw[this];exact hO) (fun r hr=>by obtain ⟨_,_,rfl⟩:=List.mem_map.1 hr;rfl) (by decide) (by rw[w2];exact hm)
end
def xW:bC:=.heap fun L=>L=[]
theorem aX.ofEmpty {P:Program} {E:World} {f:FuncId} {args:List AV} {x:AV} {i:Nat} (h:aX P E f args [(i,xW)] fun r O=>r=x∧O=[(i,xW)]):aS P E f args x:=fun I F w vs h1 ⟨ht,L,hL,hS⟩=>
 (h I F w vs h1 ⟨ht,L,⟨[],L,rfl,rfl,hL⟩,hS⟩).mono fun _ _ ⟨J,y,O',a,b,c,d⟩=>⟨J,y,O',a,b,c,d.1⟩
end
section
open Go.Proofs.Tryz
def lv (l:List aO) (v:Int):aO:=(l[v.toNat]?).getD fD
theorem m6 {l:List aO} {v:Int} (h0:0≤v) (h:v.toNat<l.length) (r:aO) {u:Int} (hu:0≤u):lv (l.set v.toNat r) u=if u=v then r else lv l u:=by
 unfold lv
 by_cases e:u=v
 ·subst e;rw[if_pos rfl,List.getElem?_set_self h];rfl
 rw[if_neg e,List.getElem?_set_ne (by omega)]
def nrm (r:aO):Prop:=r.2<r.1→r=fD
def GU (r:aO):Nat:=if r.2<r.1 then 0 else (r.2 - r.1+1).toNat
theorem MS {r:aO} (h:bw r):GU r≤18446744073709551616:=by
 have h1:=h.1;have h2:=h.2;unfold aY at h1 h2;unfold GU;split<;>omega
theorem MT {r s:aO} (hr:nrm r) (hs:nrm s) (h:cJ r s) (hne:s≠r):GU r<GU s:=by
 unfold GU
 by_cases c:r.2<r.1
 ·rw[if_pos c]
  by_cases c2:s.2<s.1
  ·exact absurd ((hs c2).trans (hr c).symm) hne
  rw[if_neg c2];omega
 rw[if_neg c];rcases h with h|h
 ·exact absurd h c
 have hne2:¬(s.1=r.1∧s.2=r.2):=fun e=>hne (Prod.ext e.1 e.2);rw[if_neg (by omega)];omega
theorem wK (lo hi:Int):nrm (et lo hi):=by
 unfold et nrm;split
 ·exact fun _=>rfl
 rename_i h;exact fun h2=>absurd h2 h
theorem FX (a b:aO):nrm (bR a b):=wK _ _
theorem wM {a b:aO} (ha:nrm a):nrm (bU a b):=by
 unfold bU
 by_cases c:a.2<a.1
 ·rw[if_pos c];exact wK _ _
 rw[if_neg c]
 by_cases c2:b.2<b.1
 ·rw[if_pos c2];exact ha
 rw[if_neg c2];intro h
 exfalso
 dsimp only at h;unfold dM dx at h
 (repeat' split at h)<;>omega
theorem xX {a b:aO}:cJ a (bU a b):=by
 unfold bU cJ
 by_cases c:a.2<a.1
 ·exact .inl c
 rw[if_neg c]
 right
 by_cases c2:b.2<b.1
 ·rw[if_pos c2];exact ⟨Int.le_refl _,Int.le_refl _⟩
 rw[if_neg c2];dsimp only;unfold dM dx;constructor<;>split<;>omega
theorem Et {a b:aO}:cJ b (bU a b):=by
 unfold bU cJ
 by_cases c2:b.2<b.1
 ·exact .inl c2
 right
 by_cases c:a.2<a.1
 ·rw[if_pos c];unfold et;rw[if_neg c2];exact ⟨Int.le_refl _,Int.le_refl _⟩
 rw[if_neg c,if_neg c2];dsimp only;unfold dM dx;constructor<;>split<;>omega
def vE (t:aO) (a b:aO):aO:=
 let j:=bU a b
 if a.2<a.1 then j else (if j.1<a.1∧t.1≤t.2 then dM j.1 t.1 else j.1,if a.2<j.2∧t.1≤t.2 then dx j.2 t.2 else j.2)
theorem uh {t a b:aO}:cJ (bU a b) (vE t a b):=by
 unfold vE;dsimp only;split
 ·exact cJ.refl _
 right
 dsimp only;unfold dM dx
 constructor<;>(repeat' split)<;>omega
theorem H4 {t a b:aO} (ha:nrm a):nrm (vE t a b):=by
 by_cases c:a.2<a.1
 ·unfold vE;dsimp only;rw[if_pos c];exact wM ha
 have h1:=xX (a:=a) (b:=b);have h2:=(h1.trans (uh (t:=t)));intro h;rcases h2 with h2|h2
 ·exact absurd h2 c
 omega
theorem Eu {t a b:aO} (ht:bw t) (ha:bw a) (hb:bw b):bw (vE t a b):=by
 have hj:=o6 ha hb;unfold vE;dsimp only;split
 ·exact hj
 constructor
 ·dsimp only;split
  ·exact xy hj.1 ht.1
  exact hj.1
 dsimp only;split
 ·exact xz hj.2 ht.2
 exact hj.2
structure fo (n:Nat) (rule:List aO→Int→aO) (vs:List Int):Prop where
 mono:∀l l' v,l.length=n→l'.length=n→(∀u:Int,0≤u→cJ (lv l u) (lv l' u))→(∀u:Int,0≤u→bw (lv l u))→(∀u:Int,0≤u→bw (lv l' u))→v∈vs→cJ (rule l v) (rule l' v)
 ok:∀l v,l.length=n→(∀u:Int,0≤u→bw (lv l u))→v∈vs→bw (rule l v)
 rng:∀v∈vs,0≤v∧v<n
def wN (rule:List aO→Int→aO) (vs:List Int) (l:List aO):Prop:=∀v∈vs,cJ (rule l v) (lv l v)
def eh (n:Nat) (l:List aO):Prop:=l.length=n∧∀u:Int,0≤u→bw (lv l u)
theorem AL {a b:aO}:cJ (bR a b) a∧cJ (bR a b) b:=by
 unfold bR et cJ;split
 ·exact ⟨.inl (by decide),.inl (by decide)⟩
 constructor<;>right<;>dsimp only<;>unfold dM dx<;>constructor<;>split<;>omega
theorem H5 {r a b:aO} (h1:cJ r a) (h2:cJ r b):cJ r (bR a b):=by
 by_cases c:r.2<r.1
 ·exact .inl c
 right
 rcases h1 with h1|h1
 ·exact absurd h1 c
 rcases h2 with h2|h2
 ·exact absurd h2 c
 unfold bR et;have:¬dM a.2 b.2<dx a.1 b.1:=by unfold dM dx;(repeat' split)<;>omega
 rw[if_neg this];dsimp only;unfold dM dx;constructor<;>split<;>omega
def fh (rule:List aO→Int→aO) (l:List aO) (v:Int):List aO:=l.set v.toNat (bR (lv l v) (rule l v))
theorem lw {n:Nat} {rule:List aO→Int→aO} {vs:List Int} (hR:fo n rule vs) {l:List aO} (hl:eh n l) {v:Int} (hv:v∈vs):eh n (fh rule l v):=by
 have hr:=hR.rng v hv;refine ⟨by unfold fh;rw[List.length_set];exact hl.1,fun u hu=>?_⟩;unfold fh;rw[m6 hr.1 (by rw[hl.1];omega) _ hu];split
 ·exact fL (hl.2 v hr.1) (hR.ok l v hl.1 hl.2 hv)
 exact hl.2 u hu
theorem AM {n:Nat} {rule:List aO→Int→aO} {vs:List Int} (hR:fo n rule vs) {l:List aO} (hl:eh n l) (hp:wN rule vs l) {v:Int} (hv:v∈vs):wN rule vs (fh rule l v):=by
 have hr:=hR.rng v hv;have hlen:v.toNat<l.length:=by rw[hl.1];omega
 have hless:∀u:Int,0≤u→cJ (lv (fh rule l v) u) (lv l u):=fun u hu=>by
  unfold fh;rw[m6 hr.1 hlen _ hu];split
  ·rename_i e;rw[e];exact AL.1
  exact cJ.refl _
 have hn:=lw hR hl hv;intro u hu;have hur:=hR.rng u hu;have h1:=hR.mono (fh rule l v) l u hn.1 hl.1 hless hn.2 hl.2 hu;unfold fh;rw[m6 hr.1 hlen _ hur.1]
 by_cases e:u=v
 ·rw[if_pos e];subst e;exact H5 (h1.trans (hp u hu)) h1
 rw[if_neg e];exact h1.trans (hp u hu)
theorem oI {n:Nat} {rule:List aO→Int→aO} {vs:List Int} (hR:fo n rule vs):∀(us:List Int) (l:List aO),(∀u∈us,u∈vs)→eh n l→wN rule vs l→eh n (us.foldl (fh rule) l)∧wN rule vs (us.foldl (fh rule) l)
 |[],l,_,hl,hp=>⟨hl,hp⟩
 |u::us,l,hs,hl,hp=>oI hR us _ (fun x hx=>hs x (.tail _ hx)) (lw hR hl (hs u (.head _))) (AM hR hl hp (hs u (.head _)))
def gQ (rule:List aO→Int→aO) (wid:Int→Option aO) (l:List aO) (v:Int):aO:=
 match wid v with
 |some t=>vE t (lv l v) (rule l v)
 |none=>bU (lv l v) (rule l v)
def gm (rule:List aO→Int→aO) (wid:Int→Option aO) (l:List aO) (v:Int):List aO:=l.set v.toNat (gQ rule wid l v)
def gR (rule:List aO→Int→aO) (wid:Int→Option aO) (vs:List Int) (l:List aO):List aO:=vs.foldl (gm rule wid) l
theorem Ev {rule:List aO→Int→aO} {wid:Int→Option aO} {l:List aO} {v:Int}:cJ (lv l v) (gQ rule wid l v)∧cJ (rule l v) (gQ rule wid l v):=by
 unfold gQ;cases wid v with
 |none=>exact ⟨xX,Et⟩
 |some t=>exact ⟨xX.trans uh,Et.trans uh⟩
structure vF (n:Nat) (l:List aO):Prop where
 ok:eh n l
 nrm:∀u:Int,0≤u→nrm (lv l u)
def lx (l:List aO):Nat:=(l.map GU).sum
theorem Ew:∀(l:List aO) (i:Nat) (r:aO),i<l.length→lx (l.set i r)+GU ((l[i]?).getD fD)=lx l+GU r
 |[],i,_,h=>by simp at h
 |x::l,0,r,_=>by simp[lx];omega
 |x::l,i+1,r,h=>by
  have:=Ew l i r (by simpa using h);simp only[lx,List.set_cons_succ,List.map_cons,List.sum_cons,List.getElem?_cons_succ] at this ⊢;omega
theorem KU {n:Nat} {l:List aO} (h:eh n l):lx l≤n*18446744073709551616:=by
 obtain ⟨hl,ho⟩:=h;have key:∀(l:List aO),(∀r∈l,bw r)→lx l≤l.length*18446744073709551616:=fun l=>by
  induction l with
  |nil=>intro _;simp[lx]
  |cons x l ih=>
   intro h;have h1:=ih fun r hr=>h r (.tail _ hr);have h2:=MS (h x (.head _));simp only[lx,List.map_cons,List.sum_cons,List.length_cons] at h1 ⊢;omega
 rw[←hl];refine key l fun r hr=>?_;obtain ⟨k,hk,rfl⟩:=List.mem_iff_getElem.1 hr;have:=ho k (by omega);unfold lv at this;rw[show ((k:Int).toNat)=k from rfl,qt hk] at this;exact this
theorem py {n:Nat} {rule:List aO→Int→aO} {wid:Int→Option aO} {vs:List Int} (hR:fo n rule vs) (hw:∀v t,wid v=some t→bw t) {l:List aO} (hl:vF n l) {v:Int} (hv:v∈vs) :
  vF n (gm rule wid l v)∧(gQ rule wid l v=lv l v∨lx l<lx (gm rule wid l v))∧lx l≤lx (gm rule wid l v):=by
 have hr:=hR.rng v hv;have hlen:v.toNat<l.length:=by rw[hl.ok.1];omega
 have h1:=hl.ok.2 v hr.1;have h2:=hR.ok l v hl.ok.1 hl.ok.2 hv;have h3:=hl.nrm v hr.1;have hgo:bw (gQ rule wid l v):=by
  unfold gQ;cases hw':wid v with
  |none=>exact o6 h1 h2
  |some t=>exact Eu (hw v t hw') h1 h2
 have hgn:nrm (gQ rule wid l v):=by
  unfold gQ;cases wid v with
  |none=>exact wM h3
  |some t=>exact H4 h3
 have hsum:=Ew l v.toNat (gQ rule wid l v) hlen;refine ⟨⟨⟨by unfold gm;rw[List.length_set];exact hl.ok.1,fun u hu=>?_⟩,fun u hu=>?_⟩,?_⟩
 ·unfold gm;rw[m6 hr.1 hlen _ hu];split
  ·exact hgo
  exact hl.ok.2 u hu
 ·unfold gm;rw[m6 hr.1 hlen _ hu];split
  ·exact hgn
  exact hl.nrm u hu
 by_cases e:gQ rule wid l v=lv l v
 ·refine ⟨.inl e,?_⟩;unfold gm;rw[e] at hsum ⊢;have:GU (l[v.toNat]?.getD fD)=GU (lv l v):=rfl;omega
 have:=MT h3 hgn Ev.1 e;have h5:GU (l[v.toNat]?.getD fD)=GU (lv l v):=rfl;have:lx l<lx (gm rule wid l v):=by unfold gm;omega
 exact ⟨.inr this,by omega⟩
theorem oJ {rule:List aO→Int→aO} {wid:Int→Option aO} {l:List aO} {v:Int} (h0:0≤v) (h:v.toNat<l.length) (e:gQ rule wid l v=lv l v):gm rule wid l v=l:=by
 unfold gm;rw[e];refine List.ext_getElem? fun k=>?_
 by_cases ek:k=v.toNat
 ·subst ek;rw[List.getElem?_set_self h];unfold lv;rw[qt h];rfl
 rw[List.getElem?_set_ne (fun e=>ek e.symm)]
theorem FY {rule:List aO→Int→aO} {wid:Int→Option aO} {vs:List Int} {l:List aO} (h:∀v∈vs,gQ rule wid l v=lv l v):wN rule vs l:=fun v hv=>by
 have:=(Ev (rule:=rule) (wid:=wid) (l:=l) (v:=v)).2
 rwa [h v hv] at this
theorem m7 {n:Nat} {rule:List aO→Int→aO} {wid:Int→Option aO} {vs:List Int} (hR:fo n rule vs) (hw:∀v t,wid v=some t→bw t):∀(us:List Int) (l:List aO),(∀u∈us,u∈vs)→vF n l →
  vF n (gR rule wid us l)∧lx l≤lx (gR rule wid us l)∧(gR rule wid us l=l∨lx l<lx (gR rule wid us l))
 |[],l,_,hl=>⟨hl,Nat.le_refl _,.inl rfl⟩
 |u::us,l,hs,hl=>by
  have hu:=hs u (.head _);obtain ⟨h1,h2,h3⟩:=py hR hw hl hu;obtain ⟨g1,g2,g3⟩:=m7 hR hw us _ (fun x hx=>hs x (.tail _ hx)) h1;have e:gR rule wid (u::us) l=gR rule wid us (gm rule wid l u):=rfl;rw[e];refine ⟨g1,by omega,?_⟩;rcases h2 with h2|h2
  ·have hr:=hR.rng u hu;have e2:=oJ (rule:=rule) (wid:=wid) (l:=l) (v:=u) hr.1 (by rw[hl.ok.1];omega) h2;rw[e2] at g3 ⊢;exact g3
  exact .inr (by omega)
theorem rJ {n:Nat} {rule:List aO→Int→aO} {wid:Int→Option aO} {vs:List Int} (hR:fo n rule vs) (hw:∀v t,wid v=some t→bw t):∀(us:List Int) (l:List aO),(∀u∈us,u∈vs)→vF n l→gR rule wid us l=l→∀u∈us,gQ rule wid l u=lv l u
 |[],_,_,_,_=>fun _ h=>by cases h
 |u::us,l,hs,hl,he=>by
  have hu:=hs u (.head _);obtain ⟨h1,h2,h3⟩:=py hR hw hl hu;have g:=m7 hR hw us _ (fun x hx=>hs x (.tail _ hx)) h1;have e:gR rule wid (u::us) l=gR rule wid us (gm rule wid l u):=rfl;rw[e] at he;rw[he] at g;rcases h2 with h2|h2
  ·have hr:=hR.rng u hu;have e2:=oJ (rule:=rule) (wid:=wid) (l:=l) (v:=u) hr.1 (by rw[hl.ok.1];omega) h2;rw[e2] at he;intro x hx;rcases List.mem_cons.1 hx with rfl|hx
   ·exact h2
   exact rJ hR hw us l (fun x hx=>hs x (.tail _ hx)) hl he x hx
  exact absurd g.2.1 (by omega)
section
variable {n:Nat} {rule:List aO→Int→aO} {widn:Nat→Int→Option aO} {vs:List Int} (hR:fo n rule vs) (hw:∀i v t,widn i v=some t→bw t)
include hR hw
end
theorem H6 (k:Nat) (a b:aO):bw (kF k a b):=by
 have g:∀x y,aY (iV k x y):=fun x y=>DW k x y;have h:=lP (g a.1 b.1) (g a.1 b.2) (g a.2 b.1) (g a.2 b.2);have h2:(kF k a b).1≤(kF k a b).2:=by
  unfold kF fM fm
  by_cases c1:iV k a.1 b.2<iV k a.1 b.1<;>by_cases c2:iV k a.2 b.2<iV k a.2 b.1<;>simp only[c1,c2,if_true,if_false]<;>(repeat' split)<;>omega
 have h3:kF k a b=fM (fm (iV k a.1 b.1) (iV k a.1 b.2)) (fm (iV k a.2 b.1) (iV k a.2 b.2)):=rfl;rw[←h3] at h;unfold bw aY;omega
theorem pz (n y:Bool):bw (ol n y):=by cases n<;>cases y<;>exact ⟨by decide,by decide⟩
theorem xY:bw lQ:=⟨by decide,by decide⟩
theorem kY:bw fD:=⟨by decide,by decide⟩
theorem xZ (k:Nat) (a b:aO) (c:Bool):bw (o9 k a b c):=by unfold o9;split;exact H6 k a b;exact xY
theorem sK (a b:aO):(mD a b).1≤(mD a b).2:=by
 unfold mD fM fm
 by_cases c1:a.1.tdiv b.2<a.1.tdiv b.1<;>by_cases c2:a.2.tdiv b.2<a.2.tdiv b.1<;>simp only[c1,c2,if_true,if_false]<;>(repeat' split)<;>omega
theorem KV {a b:aO} (ha:bw a) (hb:bw b) (na:a.1≤a.2) (nb:b.1≤b.2):bw (fN a b):=by
 by_cases hno:a.1=gf∧b.1≤-1∧-1≤b.2
 ·have e:fN a b=(gf,gW):=by unfold fN;rw[if_pos hno]
  rw[e];exact xY
 by_cases hz:b.1=0∧b.2=0
 ·have e:fN a b=fD:=by unfold fN;rw[if_neg hno,if_pos hz]
  rw[e];exact kY
 have h:=qA (a:=a) (b:=b) (lo:=-9223372036854775808) (hi:=9223372036854775807) (fun x y hx hy h0=>CA ha hb hx hy hno h0) na nb hno;have hne:(fN a b).1≤(fN a b).2:=by
  unfold fN;rw[if_neg hno,if_neg hz];split
  ·exact sK _ _
  split
  ·exact sK _ _
  have h1:=sK a (b.1,-1);have h2:=sK a (1,b.2);unfold fM
  (repeat' split)<;>omega
 unfold bw aY;omega
theorem KW {a b:aO} (ha:bw a) (hb:bw b):bw (tb a b):=by
 have h1:=ha.1;have h2:=ha.2;have h3:=hb.1;have h4:=hb.2;unfold aY at h1 h2 h3 h4;unfold tb;split
 ·exact kY
 rename_i hz;have hk:0≤Fd b∧Fd b≤9223372036854775807:=by unfold Fd dx;(repeat' split)<;>omega
 constructor
 ·unfold aY;dsimp only;unfold dx;(repeat' split)<;>omega
 unfold aY;dsimp only;unfold dM;(repeat' split)<;>omega
theorem H7:aY gf:=by decide
theorem H8:aY gW:=by decide
theorem Ex {num:Int} {a b:aO} (ha:bw a) (hb:bw b):bw (qB num a b):=by
 have h3:=hb.1;have h4:=hb.2;unfold aY at h3 h4;unfold qB;split
 ·split
  ·exact kY
  rename_i h;exact fL ha ⟨H7,by unfold gf at h;unfold aY;dsimp only;omega⟩
 split
 ·exact fL ha ⟨H7,hb.2⟩
 split
 ·exact fL ha hb
 split
 ·exact fL ha ⟨hb.1,H8⟩
 split
 ·split
  ·exact kY
  rename_i h;exact fL ha ⟨by unfold gW at h;unfold aY;dsimp only;omega,H8⟩
 exact ha
theorem H9 {n:Int} (h:aY n):bw (sf n):=⟨h,h⟩
theorem Ia {op num:Int} {rs:List aO} {chk:Bool} (h0:bw (ra rs 0)) (h1:bw (ra rs 1)) (n0:(ra rs 0).1≤(ra rs 0).2) (n1:(ra rs 1).1≤(ra rs 1).2) (hnum:aY num):bw (nW op num rs chk):=by
 unfold nW
 by_cases c0:op=0
 ·rw[if_pos c0];exact H9 hnum
 rw[if_neg c0]
 by_cases c1:op=1∨op=12
 ·rw[if_pos c1];exact h0
 rw[if_neg c1]
 by_cases c2:op=2
 ·rw[if_pos c2];exact xZ _ _ _ _
 rw[if_neg c2]
 by_cases c3:op=3
 ·rw[if_pos c3];exact xZ _ _ _ _
 rw[if_neg c3]
 by_cases c4:op=4
 ·rw[if_pos c4];exact xZ _ _ _ _
 rw[if_neg c4]
 by_cases c5:op=5
 ·rw[if_pos c5];exact KV h0 h1 n0 n1
 rw[if_neg c5]
 by_cases c6:op=6
 ·rw[if_pos c6];exact KW h0 h1
 rw[if_neg c6]
 by_cases c7:op=7
 ·rw[if_pos c7];exact pz _ _
 rw[if_neg c7]
 by_cases c8:op=8
 ·rw[if_pos c8];exact pz _ _
 rw[if_neg c8]
 by_cases c9:op=9
 ·rw[if_pos c9];exact pz _ _
 rw[if_neg c9]
 by_cases c10:op=10
 ·rw[if_pos c10];exact pz _ _
 rw[if_neg c10]
 by_cases c11:op=11
 ·rw[if_pos c11];exact pz _ _
 rw[if_neg c11]
 by_cases c15:op=15
 ·rw[if_pos c15];exact fL h0 ⟨by decide,by decide⟩
 rw[if_neg c15]
 by_cases c16:op=16
 ·rw[if_pos c16];exact H9 (by decide)
 rw[if_neg c16]
 by_cases c25:op=25
 ·rw[if_pos c25];exact Ex h0 h1
 rw[if_neg c25]
 by_cases c26:op=26
 ·rw[if_pos c26];exact Ex (fL h0 ⟨by decide,by decide⟩) h1
 rw[if_neg c26];exact xY
def Cp (f:ab) (v:Int):Int:=((f.v[v.toNat]?).map (·.ty)).getD 0
def mu (f:ab) (l:List aO) (v:Int):aO:=bR (lv l v) (fK (Cp f v))
def Po (f:ab) (l:List aO) (p:dh):aO:=p.args.foldl (fun acc v=>bU acc (mu f l v)) fD
def dy (f:ab) (l:List aO) (x:aB):List aO:=x.args.map (mu f l)
def nR (r:aO):Bool:=decide (r.2<r.1)
def pA (f:ab) (chk:Int→Bool) (l:List aO) (x:aB):aO:=if (dy f l x).any nR then fD else nW x.op x.num (dy f l x) (chk x.dst)
def ly (f:ab) (chk:Int→Bool) (l:List aO) (v:Int):aO:=
 let m:=aE f v
 match f.q[m.1.toNat]? with
 |none=>fD
 |some b=>if 0≤m.2 then (match b.s[m.2.toNat]? with|none=>fD|some x=>pA f chk l x) else (match b.p.find? fun p=>decide (p.dst=v) with|none=>fD|some p=>Po f l p)
theorem qP {f:ab} {l:List aO} (h:∀u:Int,0≤u→bw (lv l u)) {v:Int} (hv:0≤v):bw (mu f l v):=fL (h v hv) (o7 _)
theorem AN {f:ab} {l l':List aO} {v:Int} (h:cJ (lv l v) (lv l' v)):cJ (mu f l v) (mu f l' v):=gG h (cJ.refl _)
theorem ui {f:ab} {l:List aO} {v:Int} (h:Cp f v=1) (hn:(mu f l v).1≤(mu f l v).2):0≤(mu f l v).1∧(mu f l v).2≤1:=by
 have:=(AL (a:=lv l v) (b:=fK (Cp f v))).2;rw[h] at this;unfold mu at hn ⊢;rw[h] at hn ⊢;have e:fK 1=(0,1):=rfl;rw[e] at this hn ⊢;rcases this with h1|h1
 ·omega
 exact h1
theorem nZ {f:ab} {l l':List aO} (h:∀u:Int,0≤u→cJ (lv l u) (lv l' u)):∀(az:List Int) (r r':aO),(∀a∈az,0≤a)→cJ r r'→cJ (az.foldl (fun acc v=>bU acc (mu f l v)) r) (az.foldl (fun acc v=>bU acc (mu f l' v)) r')
 |[],_,_,_,hr=>hr
 |a::az,r,r',ha,hr=>nZ h az _ _ (fun x hx=>ha x (.tail _ hx)) (Fg hr (AN (h a (ha a (.head _)))))
theorem rK {f:ab} {l:List aO} (h:∀u:Int,0≤u→bw (lv l u)):∀(az:List Int) (r:aO),(∀a∈az,0≤a)→bw r→bw (az.foldl (fun acc v=>bU acc (mu f l v)) r)
 |[],_,_,hr=>hr
 |a::az,r,ha,hr=>rK h az _ (fun x hx=>ha x (.tail _ hx)) (o6 hr (qP h (ha a (.head _))))
theorem kZ {f:ab} {l:List aO} {x:aB} (i:Nat):ra (dy f l x) i=match x.args[i]? with|some v=>mu f l v|none=>(0,0):=by
 unfold ra dy;rw[w3];cases x.args[i]?<;>rfl
structure uj (f:ab):Prop where
 args:∀b∈f.q,∀x∈b.s,∀v∈x.args,0≤v
 pargs:∀b∈f.q,∀p∈b.p,∀v∈p.args,0≤v
 bool:∀b∈f.q,∀x∈b.s,x.op=10∨x.op=11→∀v∈x.args,Cp f v=1
 two:∀b∈f.q,∀x∈b.s,(x.op=10→1≤x.args.length)∧(x.op=11→2≤x.args.length)
 num:∀b∈f.q,∀x∈b.s,aY x.num
theorem C6 {f:ab} (hf:uj f) {chk:Int→Bool} {l l':List aO} (h:∀u:Int,0≤u→cJ (lv l u) (lv l' u)) (ho:∀u:Int,0≤u→bw (lv l u)) (ho':∀u:Int,0≤u→bw (lv l' u)) {b:aF} (hb:b∈f.q) {x:aB} (hx:x∈b.s):cJ (pA f chk l x) (pA f chk l' x):=by
 unfold pA
 by_cases he:(dy f l x).any nR=true
 ·rw[if_pos he];left;decide
 rw[if_neg he];have hne:∀v∈x.args,(mu f l v).1≤(mu f l v).2:=fun v hv=>by
  refine Classical.byContradiction fun hn=>he (List.any_eq_true.2 ⟨mu f l v,List.mem_map.2 ⟨v,hv,U⟩,?_⟩);unfold nR;simp;omega
 have hless:∀v∈x.args,tc (mu f l v) (mu f l' v):=fun v hv=>by
  have h0:=hf.args b hb x hx v hv;have h1:=AN (f:=f) (h v h0);have h2:=hne v hv;refine ⟨qP ho h0,qP ho' h0,h2,?_⟩;rcases h1 with h1|h1
  ·omega
  exact h1
 have he':¬(dy f l' x).any nR=true:=fun h'=>by
  obtain ⟨r,hr,h2⟩:=List.any_eq_true.1 h';obtain ⟨v,hv,rfl⟩:=List.mem_map.1 hr;have h3:=hless v hv;have h4:=h3.ne;have h5:=h3.sub;unfold nR at h2;simp at h2;omega
 rw[if_neg he'];have hra:∀i,tc (ra (dy f l x) i) (ra (dy f l' x) i):=fun i=>by
  rw[kZ,kZ];cases hi:x.args[i]? with
  |none=>exact tc.zero
  |some v=>exact hless v (w5 hi)
 have hbool:x.op=10∨x.op=11→∀i v,x.args[i]?=some v→0≤(ra (dy f l' x) i).1∧(ra (dy f l' x) i).2≤1:=fun ho2 i v hi=>by
  rw[kZ,hi];have hv:=w5 hi;have h3:=hless v hv;have h4:=h3.ne;have h5:=h3.sub;exact ui (hf.bool b hb x hx ho2 v hv) (by omega)
 have htwo:=hf.two b hb x hx;refine Fh (hra 0) (hra 1) (fun ho2=>?_) (fun ho2=>?_)
 ·have hl:0<x.args.length:=by
   rcases ho2 with h|h
   ·have:=htwo.1 h;omega
   have:=htwo.2 h;omega
  exact hbool ho2 0 _ (qt hl)
 exact hbool (.inr ho2) 1 _ (qt (by have:=htwo.2 ho2;omega))
theorem Ib {f:ab} (hf:uj f) {chk:Int→Bool} {l:List aO} (ho:∀u:Int,0≤u→bw (lv l u)) {b:aF} (hb:b∈f.q) {x:aB} (hx:x∈b.s):bw (pA f chk l x):=by
 unfold pA
 by_cases he:(dy f l x).any nR=true
 ·rw[if_pos he];exact kY
 rw[if_neg he];have hra:∀i,bw (ra (dy f l x) i)∧(ra (dy f l x) i).1≤(ra (dy f l x) i).2:=fun i=>by
  rw[kZ];cases hi:x.args[i]? with
  |none=>exact (show bw (0,0)∧(0:Int)≤0 from ⟨⟨by decide,by decide⟩,by decide⟩)
  |some v=>
   have hv:=w5 hi;refine ⟨qP ho (hf.args b hb x hx v hv),Classical.byContradiction fun hn=>he (List.any_eq_true.2 ⟨mu f l v,List.mem_map.2 ⟨v,hv,U⟩,?_⟩)⟩;dsimp only at hn;unfold nR;simp;omega
 exact Ia (hra 0).1 (hra 1).1 (hra 0).2 (hra 1).2 (hf.num b hb x hx)
theorem AO {f:ab} (hf:uj f) (chk:Int→Bool) {vs:List Int} (hv:∀v∈vs,0≤v∧v<f.v.length):fo f.v.length (ly f chk) vs:=by
 refine ⟨fun l l' v _ _ h ho ho' _=>?_,fun l v _ ho _=>?_,hv⟩
 ·unfold ly;dsimp only;cases hb:f.q[(aE f v).1.toNat]? with
  |none=>exact cJ.refl _
  |some b=>
   have hbm:=w5 hb;dsimp only;split
   ·cases hx:b.s[(aE f v).2.toNat]? with
    |none=>exact cJ.refl _
    |some x=>exact C6 hf h ho ho' hbm (w5 hx)
   cases hp:b.p.find? fun p=>decide (p.dst=v) with
   |none=>exact cJ.refl _
   |some p=>
    have hpm:=List.mem_of_find?_eq_some hp;exact nZ h p.args fD fD (hf.pargs b hbm p hpm) (cJ.refl _)
 unfold ly;dsimp only;cases hb:f.q[(aE f v).1.toNat]? with
 |none=>exact kY
 |some b=>
  have hbm:=w5 hb;dsimp only;split
  ·cases hx:b.s[(aE f v).2.toNat]? with
   |none=>exact kY
   |some x=>exact Ib hf ho hbm (w5 hx)
  cases hp:b.p.find? fun p=>decide (p.dst=v) with
  |none=>exact kY
  |some p=>
   have hpm:=List.mem_of_find?_eq_some hp;exact rK ho p.args fD (hf.pargs b hbm p hpm) kY
theorem uk (E:Int→List Int) {n b:Nat} (hb:b<n) (s:Int):(fz E n s)[b]?=some (gb (fz E n s) b):=kL (by rw[oH];exact hb)
theorem ul {E:Int→List Int} {n b:Nat} (hb:b<n) (s:Int):gb (fz E n s) b=true↔kV E (fun x=>x≠s) 0 b:=by
 rw[oG,l3 hb];simp
theorem AP {E:Int→List Int} {n:Nat} (hE:gx E n) {b:Int}:kV E (fun x=>x≠-1) 0 b↔oV E b:=by
 constructor
 ·exact fun h=>h.mono fun _ _=>trivial
 intro h;have h2:∀c,oV E c→(0:Int)≤c:=fun c hc=>(da hE.toEOk ((b9 hE.toEOk c).2 hc)).1;have:=kV.self h;exact this.mono fun x hx=>by have:=h2 x hx.2;omega
theorem Ic {E:Int→List Int} {n a b:Nat} (hE:gx E n) (ha:a<n) (hb:b<n) (hra:gb (fz E n (-1)) a=true) :
  (gb (fz E n (-1)) b&&(decide ((a:Int)=(b:Int))||!gb (fz E n a) b))=mU E n a b:=by
 rw[w4,hE.domB_iff];simp only[wc,Bool.or_eq_true,Bool.not_eq_true',wi];rw[ul hb,AP hE,←Bool.not_eq_true,ul hb];unfold g9
 constructor
 ·rintro ⟨h1,h2⟩;refine ⟨h1,?_⟩;rcases h2 with h2|h2
  ·rw[h2];exact fun hw=>hw.end_ rfl
  exact h2
 rintro ⟨h1,h2⟩;exact ⟨h1,.inr h2⟩
theorem Id {E:Int→List Int} {n a b:Nat} (hE:gx E n) (ha:a<n) (hra:gb (fz E n (-1)) a=false):mU E n a b=false:=by
 rw[←Bool.not_eq_true,hE.domB_iff];intro h;have:=h.rch;rw[←AP hE,←ul ha,hra] at this;cases this
def mv (f:ab) (a k:Nat):List Bool:=(List.range f.q.length).map fun b=>decide (b<k)&&mU (aj f) f.q.length a b
def qQ (f:ab) (a:Nat):List Bool:=(List.range f.q.length).map fun (b:Nat)=>mU (aj f) f.q.length a b
def oK (f:ab):List (List Bool):=(List.range f.q.length).map (qQ f)
theorem jS (f:ab) (a k:Nat):(mv f a k).length=f.q.length:=by simp[mv]
theorem um (f:ab) (a:Nat):List.replicate f.q.length false=mv f a 0:=by
 unfold mv;apply List.ext_getElem
 ·simp
 intro i h1 h2;simp
theorem oL {f:ab} {a k:Nat}:(mv f a k).set k (mU (aj f) f.q.length a k)=mv f a (k+1):=by
 apply List.ext_getElem?;intro i;rw[List.getElem?_set];unfold mv
 by_cases hi:i<f.q.length
 ·by_cases e:k=i
  ·subst e;rw[if_pos rfl,if_pos (by simpa using hi),w3,List.getElem?_range hi];simp
  rw[if_neg e,w3,w3,List.getElem?_range hi];simp only[Option.map_some]
  congr 2
  exact decide_eq_decide.2 (by omega)
 by_cases e:k=i
 ·subst e;rw[if_pos rfl,if_neg (by simpa using hi),w3,List.getElem?_eq_none (by simpa using hi)];rfl
 rw[if_neg e,w3,w3,List.getElem?_eq_none (by simpa using hi)];rfl
theorem FZ (f:ab) (a:Nat):mv f a f.q.length=qQ f a:=by
 unfold mv qQ;apply List.map_congr_left;intro b hb;rw[wa (List.mem_range.1 hb),Bool.true_and]
theorem Ie {f:ab} {a:Nat} (hE:gx (aj f) f.q.length) (ha:a<f.q.length) (hra:gb (fz (aj f) f.q.length (-1)) a=false):mv f a 0=qQ f a:=by
 unfold mv qQ;apply List.map_congr_left;intro b hb;rw[Id hE ha hra];rfl
theorem Ig (f:ab) (a:Nat):(qQ f a).length=f.q.length:=by simp[qQ]
theorem iM (f:ab):(oK f).length=f.q.length:=by simp[oK]
theorem m8 {f:ab} {a:Nat} (h:a<f.q.length):(oK f)[a]?=some (qQ f a):=by unfold oK;rw[w3,List.getElem?_range h];rfl
theorem Ih {f:ab} {a b:Nat} (h:b<f.q.length):(qQ f a)[b]?=some (mU (aj f) f.q.length a b):=by unfold qQ;rw[w3,List.getElem?_range h];rfl
theorem F0 {f:ab} {k:Nat} (h:k<f.q.length):(oK f).take (k+1)=(oK f).take k++[qQ f k]:=by
 rw[qu (by rw[iM];exact h)];have:=m8 h;rw[qt (by rw[iM];exact h)] at this;rw[Option.some.inj this]
def KX (f:ab) (op:Int) (args:List Int) (i:Nat) (block at_:Int) (q:aB × Nat):Bool:=decide (q.1.op=op)&&decide (q.1.args=args)&&eW f ((i:Int),(q.2:Int)) block at_
def MU (f:ab) (op:Int) (args:List Int) (block at_:Int) (i:Nat):Bool:=((f.q[i]?).map fun b=>b.s.zipIdx.any (KX f op args i block at_)).getD false
def MV (f:ab) (op:Int) (args:List Int) (block at_:Int):Bool:=(List.range f.q.length).any (MU f op args block at_)
def L8 (op:Int):Bool:=decide (op=2∨op=3∨op=4)
def vG (f:ab) (x:aB) (block at_:Int):Bool:=L8 x.op&&MV f (x.op+19) x.args block at_
def l6 (f:ab) (m:lk):Option aB:=if 0≤m.1∧0≤m.2 then (f.q[m.1.toNat]?).bind fun b=>b.s[m.2.toNat]? else none
def pB (f:ab) (v:Int):Bool:=((l6 f (aE f v)).map fun x=>vG f x (aE f v).1 (aE f v).2).getD false
theorem Ey {f:ab} {op:Int} {args:List Int} {block at_:Int} {i:Nat} {b:aF} (h:f.q[i]?=some b):MU f op args block at_ i=b.s.zipIdx.any (KX f op args i block at_):=by unfold MU;rw[h];rfl
theorem d8 {v i:Int} {b:aF} {m:lk}:m∈ll v i b↔(∃p∈b.p,p.dst=v∧m=(i,-1))∨∃(k:Nat) (x:aB),b.s[k]?=some x∧x.dst=v∧m=(i,(k:Int)):=by
 unfold ll;rw[List.mem_append]
 constructor
 ·rintro (h|h)
  ·obtain ⟨p,hp,e⟩:=List.mem_map.1 h;obtain ⟨h1,h2⟩:=List.mem_filter.1 hp;exact .inl ⟨p,h1,by simpa using h2,e.symm⟩
  obtain ⟨q,hq,e⟩:=List.mem_map.1 h;obtain ⟨h1,h2⟩:=List.mem_filter.1 hq;obtain ⟨x,k⟩:=q;have:=List.mem_zipIdx_iff_getElem?.1 h1;exact .inr ⟨k,x,this,by simpa using h2,e.symm⟩
 rintro (⟨p,h1,h2,rfl⟩|⟨k,x,h1,h2,rfl⟩)
 ·exact .inl (List.mem_map.2 ⟨p,List.mem_filter.2 ⟨h1,by simpa using h2⟩,rfl⟩)
 exact .inr (List.mem_map.2 ⟨(x,k),List.mem_filter.2 ⟨List.mem_zipIdx_iff_getElem?.2 h1,by simpa using h2⟩,rfl⟩)
theorem de {f:ab} {v:Int} {m:lk}:m∈aZ f v↔∃(i:Nat) (b:aF),f.q[i]?=some b∧m∈ll v i b:=by
 unfold aZ;rw[List.mem_flatMap]
 constructor
 ·rintro ⟨⟨b,i⟩,h1,h2⟩;exact ⟨i,b,List.mem_zipIdx_iff_getElem?.1 h1,h2⟩
 rintro ⟨i,b,h1,h2⟩;exact ⟨(b,i),List.mem_zipIdx_iff_getElem?.2 h1,h2⟩
theorem iA {f:ab} {v:Int} (h:0≤(aE f v).1):aE f v∈aZ f v:=by
 unfold aE at h ⊢;cases hm:aZ f v with
 |nil=>rw[hm] at h;simp at h
 |cons x l=>simp
theorem lz {f:ab} {v:Int} {m:lk} (hl:(aZ f v).length≤1) (h:m∈aZ f v):aE f v=m:=by
 unfold aE;cases hm:aZ f v with
 |nil=>rw[hm] at h;cases h
 |cons x l=>
  rw[hm] at h hl;cases l with
  |nil=>simp at h;simp[h]
  |cons y l=>simp at hl
theorem iN {f:ab} {v:Int} (h:0≤(aE f v).1):∃(i:Nat) (b:aF),f.q[i]?=some b∧((∃p∈b.p,p.dst=v∧aE f v=((i:Int),-1))∨∃(k:Nat) (x:aB),b.s[k]?=some x∧x.dst=v∧aE f v=((i:Int),(k:Int))):=by
 obtain ⟨i,b,h1,h2⟩:=de.1 (iA h);exact ⟨i,b,h1,d8.1 h2⟩
theorem Ez {f:ab} {v:Int} {i k:Nat} {b:aF} {x:aB} (hb:f.q[i]?=some b) (hx:b.s[k]?=some x) (hm:aE f v=((i:Int),(k:Int))):pB f v=vG f x i k:=by
 unfold pB l6;rw[hm,if_pos ⟨by dsimp only;omega,by dsimp only;omega⟩];show (((f.q[i]?).bind fun b=>b.s[k]?).map fun x=>vG f x i k).getD false=_;rw[hb];show ((b.s[k]?).map _).getD false=_;rw[hx];rfl
end
section
open Go.Proofs.Tryz
open Go.Proofs Go.Lib Go.Shelf Go.RowKit
theorem MW:dp prog 69 92 1 1 [.n]:=⟨_,X1,Yi,zeroValue92,by decide,by decide,by kernel_rfl⟩
variable {E:World}
set_option maxRecDepth 20000
def AQ (rows:List (List Bool)):List AV:=(rows.map fun r=>[AV.fro 1 (r.map vB)]).flatten
theorem F1 (rows:List (List Bool)) (r:List Bool):AQ rows++[AV.fro 1 (r.map vB)]=AQ (rows++[r]):=by unfold AQ;simp
theorem Ii (rows:List (List Bool)):(AQ rows).length=rows.length:=by unfold AQ;induction rows with
 |nil=>rfl
 |cons r rows ih=>simp only[List.map_cons,List.flatten_cons,qz,ih,List.length_cons,List.length_nil];omega
def C7 (rows:List (List Bool)):AV:=.fro 1 (rows.map fun r=>[AV.fro 1 (r.map vB)])
set_option maxHeartbeats 4000000 in
theorem vH (f:ab) (hE:cK f) (hn:f.q.length≤1000):aS prog E 22 [.agg (bH f)] (C7 (oK f)):=by
 have hG:=hE.grph;refine zm func22 U (by decide) U<|Z<|zx (cs:=_) U U U<|X (kT U)<|Y<|Z<|ae Z2 jk U U<|zb (jG f hE hn (-1)) U<|X (oU U)<|Y<|Z<|X (kT U)<|Y<|za<|Z<|ao jf U Zd U U<|aK Zf U<|am jr U<|C U<|Y<|gN (t:=4) (k:=1) (T:=92) U<|fun i4=>zd<|zu (γ:=Nat × Nat) [1,3,13] (fun g=>[(14,.i g.1),(4,.j g.2 g.1)]) (fun g=>[(g.2,.u 1 92 (AQ ((oK f).take g.1)))]) (fun g=>g.1≤f.q.length) (fun g=>f.q.length - g.1) (0,i4) cV aJ (qw _) ?_;rintro ⟨k,io⟩ hk;try dsimp only at *
 refine Z<|aq U U<|Y<|za<|zh U (fun ck=>?_) (fun ck=>?_)
 ·have hk2:k<f.q.length:=by simp at ck;omega
  have hgk:=uk (aj f) hk2 (-1);refine zc<|za<|zd<|Z<|C U<|ap U<|Y<|Z<|ao jf U Zd U U<|aK Zf U<|am jr U<|qk (m:=f.q.length) ju Yr U U U U U (by simp) (by simp) (by show (1:Int)*_≤_;omega) (by omega)<|fun i20=>X (eO U)<|Y<|za<|Z<|bj U<|C U<|X (bD k ju Zc U U U hgk)<|X (q8 (c:=.bool _) Yn U)<|Y<|y3 (γ:=Nat) [1,3,4,13,14] (fun q=>[(6,.j q f.q.length)]) (fun q=>[(q,.u 1 4 (cB (qQ f k))),(io,.u 1 92 (AQ ((oK f).take k)))]) (fun q=>True) ?_ (fun _ _ h=>h) ?_
  ·refine zq U (fun cr=>?_) (fun cr=>?_)
   ·have hra:gb (fz (aj f) f.q.length (-1)) (k:Int)=true:=cr;refine Z<|ae Z2 jk U U<|C U<|zb (jG f hE hn (k:Int)) U<|X (oU U)<|Y<|Z<|bX U<|X (qm ju U)<|C U<|Y<|zd<|zu (γ:=Nat) [1,3,4,5,6,7,13,14,29] (fun j=>[(30,.i j)]) (fun j=>[(i20,.u 1 4 (cB (mv f k j))),(io,.u 1 92 (AQ ((oK f).take k)))]) (fun j=>j≤f.q.length) (fun j=>f.q.length - j) 0 aN ⟨_,(.refl _),by rw[←um]⟩ (qw _) ?_;rintro j hj;refine Z<|aq U U<|Y<|za<|zh U (fun cj=>?_) (fun cj=>?_)
    ·have hj2:j<f.q.length:=by simp at cj;omega
     have hgj:=uk (aj f) hj2 (-1);have hgl:=uk (aj f) hj2 (k:Int);have hcell:=Ic hG hk2 hj2 hra;refine zc<|za<|zd<|Z<|C U<|ap U<|Y<|bZ<|bX U<|C U<|bj U<|C U<|X (bD j ju Zc U U U hgj)<|X (q8 (c:=.bool _) Yn U)<|aw U<|zo (s:=39) U (fun c1=>?_) (fun c1=>?_)
     ·have d1:gb (fz (aj f) f.q.length (-1)) (j:Int)=true:=c1;refine M U U c1<|C U<|M U U c1<|C U<|M U U c1<|au U U<|M U U c1<|aw U<|zo (s:=43) U (fun c2=>?_) (fun c2=>?_)
      ·refine H U U c2<|H U U c2<|H U U c2<|H U U c2<|H U U c2<|M U U c1<|aA U c2 U<|aA U c1 U<|X (y7 (j:=j) ju Zc U U U ⟨_,.head⟩ (by rw[aP,jS]) hj2)<|yy (j:=j) Zc U U .head (by rw[jS];exact hj2)<|Y<|bQ U U ?_;exact ⟨j+1,p9,aN,⟨_,(.refl _),by rw[←oL,←hcell,d1,show decide ((k:Int)=(j:Int))=true from c2];rfl⟩,hj2,by omega⟩
      refine M U U c2<|bj U<|M U U c2<|C U<|M U U c2<|X (bD j ju Zc U U U hgl)<|M U U c2<|X (q8 (c:=.bool _) Yn U)<|M U U c2<|aL U<|M U U c1<|ay U c2 U<|aA U c1 U<|X (y7 (j:=j) ju Zc U U U ⟨_,.head⟩ (by rw[aP,jS]) hj2)<|yy (j:=j) Zc U U .head (by rw[jS];exact hj2)<|Y<|bQ U U ?_;exact ⟨j+1,p9,aN,⟨_,(.refl _),by rw[←oL,←hcell,d1,show decide ((k:Int)=(j:Int))=false from c2];rfl⟩,hj2,by omega⟩
     have d1:gb (fz (aj f) f.q.length (-1)) (j:Int)=false:=c1;refine H U U c1<|H U U c1<|H U U c1<|H U U c1<|zg U U<|zg U U<|zg U U<|zg U U<|zg U U<|H U U c1<|ay U c1 U<|X (y7 (j:=j) ju Zc U U U ⟨_,.head⟩ (by rw[aP,jS]) hj2)<|yy (j:=j) Zc U U .head (by rw[jS];exact hj2)<|Y<|bQ U U ?_;exact ⟨j+1,p9,aN,⟨_,(.refl _),by rw[←oL,←hcell,d1];rfl⟩,hj2,by omega⟩
    have hjn:j=f.q.length:=by simp at cj;omega
    refine zt ?_;exact ⟨i20,lf,aN,⟨_,(.refl _),by rw[hjn,FZ]⟩,trivial⟩
   have hra:gb (fz (aj f) f.q.length (-1)) (k:Int)=false:=cr;refine zc ?_;exact ⟨i20,lf,aN,⟨_,(.refl _),by rw[←Ie hG hk2 hra,←um]⟩,trivial⟩
  rintro q _;refine yd (aR.knowB (t:=6) U .head (Ig _ _))<|bZ<|bX U<|bj U<|zw (rows:=[[_]]) MW U U U U U<|yb (k:=1) X1 type92 U U U U U (fun _=>.head) (by rw[Ii,w9,iM];omega) (by decide) U (by show (_+1)*24≤_;omega) (by show _+1≤_;omega)<|fun i56=>X (eO U)<|Y<|bQ U U ?_;exact ⟨(k+1,i56),eX,cV,⟨_,(.refl _),by rw[F0 hk2,←F1];rfl⟩,hk2,by dsimp only;omega⟩
 have hkn:k=f.q.length:=by simp at ck;omega
 subst hkn;rw[show f.q.length=(oK f).length from (iM f).symm,qy,iM];refine zt<|Z<|bX U<|X (eO U)<|Y<|zf ?_
 repeat (first|refine ad ?_|refine aa ?_)
 refine yv (aR.know (t:=2) (rows:=(oK f).map fun r=>[AV.fro 1 (r.map vB)]) U .head (by (intro r hr;obtain ⟨x,_,rfl⟩:=List.mem_map.1 hr;rfl)) (by decide) (by (rw[w2];exact iM f)))<|yz (x:=.fro _ _) U ?_
 rfl
end
section
open Go.Proofs.Tryz
open Go.Proofs Go.Lib Go.Shelf Go.RowKit
variable {E:World}
set_option maxRecDepth 20000
end
section
open Go.Proofs.Tryz
open Go.Proofs
theorem L9:eS prog 243 #[(0,2),(2,1)] [.int .i64 0,.int .i64 0,.bool false]:=⟨_,_,Yx,zeroValue243,fun w=>by kernel_rfl,rfl⟩
theorem EA:lJ prog 272 1 [.int .i64 0,.int .i64 0]:=⟨_,_,_,underlying272,zeroValue272,Z0,rfl⟩
theorem Og:lJ prog 276 2 [.int .i64 0,.int .i64 0,.int .i64 0,.int .i64 0]:=⟨_,_,_,underlying276,zeroValue276,j8,rfl⟩
variable {E:World}
set_option maxRecDepth 20000
theorem Pp {x y:Int} (hx:aY x) (hy:aY y):aS prog E 213 [.i x,.i y] (.tup [.i (IntKind.i64.wrap (x*y)),.bool (decide (dF 2 x y))]):=by
 rw[←Pf];refine zm func213 U (by decide) U<|Z<|ap U<|ah U<|Y<|Z<|C U<|zb (N3 hx) U<|C U<|zb (N3 hy) U<|zb (CJ _ _ (Hn hx) (Hn hy)) U<|X (v8 U)<|X (nU U U)<|X (nU U U)<|ap U<|ap U<|Y<|Z<|ap U<|Y<|za<|Z<|C U<|aq U U<|C U<|aq U U<|X (Gv.neqB Yp U U)<|Y<|y3 (γ:=Int) [0,1,6,7] (fun m=>[(8,.int .u64 m)]) (fun m=>[]) (fun m=>m=if (!(decide (x<0) == decide (y<0)))=true then 9223372036854775808 else 9223372036854775807) ?_ (fun _ _ h=>h) ?_
 ·refine zq U (fun c1=>?_) (fun c1=>?_)
  ·refine bZ<|C U<|X (Gv.addW U U)<|ap U<|Y ?_;exact ⟨_,f7,aN,aJ,by simp_all<;>first|rfl|decide⟩
  refine zc ?_;exact ⟨_,f7,aN,aJ,by simp_all<;>first|rfl|decide⟩
 rintro m hm;subst hm;refine Z<|C U<|C U<|X (Gv.mulW U U)<|C U<|au U U<|aw U<|zo (s:=29) U (fun c2=>?_) (fun c2=>?_)
 ·refine M U U c2<|C U<|M U U c2<|C U<|M U U c2<|X (Gv.leq U U)<|aA U c2 U<|ap U<|ah U<|Y<|zf<|ql (x:=.int _ _) (y:=.bool _) U U ?_
  simp_all
 refine H U U c2<|H U U c2<|H U U c2<|ay U c2 U<|ap U<|ah U<|Y<|zf<|ql (x:=.int _ _) (y:=.bool _) U U ?_
 simp_all
theorem m9 (i:Nat) (h:aO × Bool) (n:Int) (fits:Bool) (e:Int):aX prog E 210 [.po i 0,.i n,.bool fits,.i e] [(i,.cells 243 (xD h))] fun r O=>r=.tup []∧O=[(i,.cells 243 (xD (om h n fits e)))]:=by
 refine zm func210 U (by decide) U<|za<|Z<|aw U<|aL U<|Y<|y3 (γ:=Int × Bool) [0] (fun g=>[(1,.i g.1)]) (fun g=>[(i,.cells 243 (xD (h.1,g.2)))]) (fun g=>g.1=(if fits then n else e)∧g.2=(h.2||!fits)) ?_ (fun _ _ h=>h) ?_
 ·refine zq U (fun c=>?_) (fun c=>?_)
  ·refine bZ<|bf U<|C U<|aC U<|X (ze Yx U Zc (by decide) U U)<|yh (l:=[_]) (new:=[_,_,_]) Zc U U U U U U .head U U<|ap U<|Y ?_;exact ⟨(e,true),aN,aN,aJ,by simp_all⟩
  refine zc ?_;exact ⟨(n,h.2),aN,aN,aJ,by simp_all⟩
 rintro ⟨m,w⟩ ⟨h1,h2⟩;dsimp only at h1 h2;subst h1 h2;refine zn (fun j=>Nat.beq j 10) (by kernel_rfl) U (zk (.r (.rest _)))<|D 0 U (dZ U)<|D 1 U (dZ U)<|D 2 U (zr U)<|D 3 U (ze Yx U j8 (by decide) U U)<|D 4 U (qh (l:=[_,_]) jw j8 U ⟨_,.head⟩ U U)<|D 5 U (dC U)<|bp 6 U<|zb (LW _) U<|Y<|bp 7 U<|zb (D4 _ _) U<|Y<|yo (i:=8) U (by kernel_rfl) (by kernel_rfl) (by kernel_rfl) (by kernel_rfl) (zr U)<|D 9 U (ze Yx U j8 (by decide) U U)<|y4<|yg (i:=10) U (by kernel_rfl) (by kernel_rfl)<|yh (l:=[_,_]) (new:=[_,_,_]) j8 U U U U U U .head U U<|Y<|y8 (by kernel_rfl)<|yu ?_;exact ⟨rfl,rfl⟩
set_option maxHeartbeats 4000000 in
theorem AR (op:Int) (k:Nat) (hk:k≤2) (hop:op=2+(k:Int)) {a b:aO} (ha:bw a) (hb:bw b):aS prog E 185 [.i op,.agg (bM a),.agg (bM b)] (.agg (xD (tf k a b))):=by
 obtain ⟨st,hst⟩:∃st,NM (iH k) (fun x y=>decide (dF k x y)) (nV k) (fD,false) a b=st:=⟨_,rfl⟩;have hstep:∀(i j:Nat),j<2→st (2*i+(j+1))=om (st (2*i+j)) (iH k (eT a i) (eT b j)) (decide (dF k (eT a i) (eT b j))) (nV k (eT a i) (eT b j)):=fun i j hj=>by rw[←hst];exact zR i hj
 have h4:st 4=tf k a b:=by rw[←hst];rfl
 have h0:st 0=(fD,false):=by rw[←hst];rfl
 refine zm func185 U (by decide) U<|Z<|zx (cs:=_) U U U<|zx (cs:=_) U U U<|zp (cs:=[.int .i64 0,.int .i64 0,.bool false]) zeroValue243 U U<|fun i6=>Y<|Z<|zb (jA) U<|X (y5 (cps:=[(0,[_,_])]) (rs:=[_,_,.bool false]) L9 U U U)<|zp (cs:=[.int .i64 0,.int .i64 0,.bool false]) zeroValue243 U U<|fun i7=>zi sizeOf243 U U U U U U .head U<|Y<|za<|Z<|ao jx U Z0 U U<|aD Zb U<|ao jx U Z0 U U<|aD Zb U<|X (Gv.buildA (cps:=[(0,[_]),(1,[_])]) (rs:=[_,_]) EA U U U)<|C U<|Y<|zd<|zu (γ:=Nat) [0,5,6,7,24] (fun i=>[(25,.i i)]) (fun i=>[(i7,.cells 243 (xD (st (2*i)))),(i6,.cells 243 [.int .i64 0,.int .i64 0,.bool false])]) (fun i=>i≤2) (fun i=>2 - i) 0 aN ⟨_,(.refl _),by rw[h0];rfl⟩ ((by omega)) ?_;rintro i hi;refine Z<|aq U U<|Y<|za<|zh U (fun ci=>?_) (fun ci=>?_)
 ·have hi2:i<2:=by omega
  have hx:=CE ha i;refine zc<|za<|zd<|Z<|X (Gv.index1 (n:=2) (j:=i) (cs:=[.i a.1,.i a.2]) (v:=.i (eT a i)) underlying272 Zb Z0 U U U hi2 (sD hi2))<|ap U<|Y<|Z<|ao jx U Z0 U U<|aD Zb U<|ao jx U Z0 U U<|aD Zb U<|X (Gv.buildA (cps:=[(0,[_]),(1,[_])]) (rs:=[_,_]) EA U U U)<|C U<|Y<|zd<|zu (γ:=Nat) [0,5,6,7,9,24,25,32] (fun j=>[(33,.i j)]) (fun j=>[(i7,.cells 243 (xD (st (2*i+j)))),(i6,.cells 243 [.i 0,.i 0,.bool false])]) (fun j=>j≤2) (fun j=>2 - j) 0 aN aJ ((by omega)) ?_;rintro j hj;refine Z<|aq U U<|Y<|za<|zh U (fun cj=>?_) (fun cj=>?_)
  ·have hj2:j<2:=by omega
   have hy:=CE hb j;have hs:=hstep i j hj2;refine zc<|za<|zd<|Z<|X (Gv.index1 (n:=2) (j:=j) (cs:=[.i b.1,.i b.2]) (v:=.i (eT b j)) underlying272 Zb Z0 U U U hj2 (sD hj2))<|ap U<|Y<|Z<|C U<|Y<|zd<|Z<|au U U<|ah U<|Y<|zh U (fun c2=>?_) (fun c2=>?_)
   ·have hk0:k=0:=by omega
    subst hk0;refine Z<|C U<|C U<|zb (Pg hx hy) U<|X (v8 U)<|X (nU U U)<|X (Cm U U)<|ap U<|ah U<|Y<|bZ<|C U<|aw U<|C U<|aq U U<|zb (Hr _) U<|zy U (zk (.l (.r (.rest _)))) (m9 i7 _ _ _ _) ?_;rintro r50 O50 ⟨rfl,rfl⟩;refine Y<|bQ U U ?_;exact ⟨j+1,rY,aN,⟨_,(.refl _),by rw[hs,mR Kq (MA _ (eT b j))];rfl⟩,hj2,by omega⟩
   refine Z<|au U U<|ah U<|Y<|zh U (fun c3=>?_) (fun c3=>?_)
   ·have hk0:k=1:=by omega
    subst hk0;refine Z<|C U<|C U<|zb (Ph hx hy) U<|X (v8 U)<|X (nU U U)<|X (Cm U U)<|ap U<|ah U<|Y<|bZ<|C U<|aw U<|C U<|aq U U<|zb (Hr _) U<|zy U (zk (.l (.r (.rest _)))) (m9 i7 _ _ _ _) ?_;rintro r64 O64 ⟨rfl,rfl⟩;refine Y<|bQ U U ?_;exact ⟨j+1,rY,aN,⟨_,(.refl _),by rw[hs,mR Kr (MB _ (eT b j))];rfl⟩,hj2,by omega⟩
   refine Z<|au U U<|ah U<|Y<|zh U (fun c4=>?_) (fun c4=>?_)
   ·have hk0:k=2:=by omega
    subst hk0;refine Z<|C U<|C U<|zb (Pp hx hy) U<|X (v8 U)<|X (nU U U)<|X (Cm U U)<|ap U<|ah U<|Y<|bZ<|C U<|aw U<|C U<|aq U U<|C U<|aq U U<|X (Gv.neqB Yp U U)<|zb (Hr _) U<|zy U (zk (.l (.r (.rest _)))) (m9 i7 _ _ _ _) ?_;rintro r81 O81 ⟨rfl,rfl⟩;refine Y<|bQ U U ?_;exact ⟨j+1,rY,aN,⟨_,(.refl _),by rw[hs,mR Hm (MC _ (eT b j))];rfl⟩,hj2,by omega⟩
   exfalso;omega
  have hj2:j=2:=by omega
  subst hj2;refine zt<|bQ U U ?_;exact ⟨i+1,lf,aN,⟨_,(.refl _),by rw[show 2*(i+1)=2*i+2 by omega]⟩,hi2,by omega⟩
 have hi2:i=2:=by omega
 subst hi2;refine zt<|Z<|X (qb isAgg243 sizeOf243 U ⟨_,.head⟩ U)<|zi sizeOf243 U U U U U U .t1 U<|Y<|zf<|yi U ⟨_,.t1⟩ isAgg243 sizeOf243 U ?_;rw[←h4];try rfl
theorem Oh {a b:aO} (ha:bw a):aS prog E 186 [.agg (bM a),.agg (bM b)] (.agg (bM (wl a b))):=by
 have h0:vw a b 0=(fD,false):=rfl
 refine zm func186 U (by decide) U<|Z<|zx (cs:=_) U U U<|zx (cs:=_) U U U<|zp (cs:=[.int .i64 0,.int .i64 0]) Za U U<|fun i4=>Y<|Z<|zb (jA) U<|X (y5 (cps:=[(0,[_,_])]) (rs:=[_,_,.bool false]) L9 U U U)<|zp (cs:=[.int .i64 0,.int .i64 0,.bool false]) zeroValue243 U U<|fun i5=>zi sizeOf243 U U U U U U .head U<|Y<|za<|za<|zn (fun j=>false) (by kernel_rfl) U (zk (.rest _))<|D 0 U (yj jw j8 U U)<|D 1 U (y5 (cps:=[(0,[_]),(1,[_])]) (rs:=[_,_]) pb U U U)<|D 3 U (yj jw j8 U U)<|D 4 U (y5 (cps:=[(0,[_]),(1,[_])]) (rs:=[_,_]) pb U U U)<|D 7 U (dC U)<|bp 2 U<|zb (pe b (gf,-1)) U<|Y<|bp 5 U<|zb (pe b (1,gW)) U<|Y<|D 6 U (Gv.buildA (cps:=[(0,[_,_]),(1,[_,_])]) (rs:=[_,_,_,_]) Og U U U)<|dS<|zd<|zu (γ:=Nat) [2,4,5,22] (fun q=>[(23,.i q)]) (fun q=>[(i5,.cells 243 (xD (vw a b q))),(i4,.cells 63 [.int .i64 0,.int .i64 0])]) (fun q=>q≤2) (fun q=>2 - q) 0 aN aJ ((by omega)) ?_;rintro q hq
 refine Z<|aq U U<|Y<|za<|zh U (fun cq=>?_) (fun cq=>?_)
 ·have hq2:q<2:=by omega
  have hqs:vw a b (q+1)=pa a (rz b q) (vw a b q):=rfl;obtain ⟨p,hp⟩:∃p,rz b q=p:=⟨_,rfl⟩;have hpg:=Hp (b:=b) hq2;rw[hp] at hqs hpg;refine zc<|za<|zd<|Z<|X (Gv.indexA (n:=2) (j:=q) (k:=2) (cs:=bM (bR b (gf,-1))++bM (bR b (1,gW))) (l:=bM p) underlying276 jw j8 U U U hq2 hpg)<|zp (cs:=[.i 0,.i 0]) Za U U<|fun i7=>zi j8 U U U U U U .head U<|Y<|yd (zz (t:=7) U .head)<|za<|Z<|ae jw j8 U U<|zb (ff _) U<|Y<|zh U (fun ce=>?_) (fun ce=>?_)
  ·refine zt<|bQ U U ?_;exact ⟨q+1,f7,aN,⟨_,(.refl _),by rw[hqs,pa,if_pos ce]⟩,hq2,by omega⟩
  obtain ⟨st,hst⟩:∃st,NM Int.tdiv gK (fun _ _=>gW) (vw a b q) a p=st:=⟨_,rfl⟩;have hstep:∀(i j:Nat),j<2→st (2*i+(j+1))=om (st (2*i+j)) ((eT a i).tdiv (eT p j)) (gK (eT a i) (eT p j)) gW:=fun i j hj=>by rw[←hst];exact zR i hj
  have h4:st 4=vw a b (q+1):=by rw[hqs,pa,if_neg ce,←hst];rfl
  have hs0:st 0=vw a b q:=by rw[←hst];rfl
  refine zc<|Z<|ao jx U Z0 U U<|aD Zb U<|ao jx U Z0 U U<|aD Zb U<|X (Gv.buildA (cps:=[(0,[_]),(1,[_])]) (rs:=[_,_]) EA U U U)<|C U<|Y<|zd<|zu (γ:=Nat) [2,4,5,7,22,23,32] (fun i=>[(33,.i i)]) (fun i=>[(i5,.cells 243 (xD (st (2*i)))),(i4,.cells 63 [.int .i64 0,.int .i64 0])]) (fun i=>i≤2) (fun i=>2 - i) 0 aN ⟨_,(.refl _),by rw[hs0]⟩ ((by omega)) ?_;rintro i hi;refine Z<|aq U U<|Y<|za<|zh U (fun ci=>?_) (fun ci=>?_)
  ·have hi2:i<2:=by omega
   have hx:=CE ha i;refine zc<|za<|zd<|Z<|X (Gv.index1 (n:=2) (j:=i) (cs:=[.i a.1,.i a.2]) (v:=.i (eT a i)) underlying272 Zb Z0 U U U hi2 (sD hi2))<|ap U<|Y<|Z<|ao jx U Z0 U U<|aD Zb U<|ao jx U Z0 U U<|aD Zb U<|X (Gv.buildA (cps:=[(0,[_]),(1,[_])]) (rs:=[_,_]) EA U U U)<|C U<|Y<|zd<|zu (γ:=Nat) [2,4,5,7,9,22,23,32,33,40] (fun j=>[(41,.i j)]) (fun j=>[(i5,.cells 243 (xD (st (2*i+j)))),(i4,.cells 63 [.i 0,.i 0])]) (fun j=>j≤2) (fun j=>2 - j) 0 aN aJ ((by omega)) ?_;rintro j hj;refine Z<|aq U U<|Y<|za<|zh U (fun cj=>?_) (fun cj=>?_)
   ·have hj2:j<2:=by omega
    have hs:=hstep i j hj2;have hy:eT p j≠0:=by have:=Ks (b:=b) (q:=q) (j:=j) (by rw[hp];exact ce);rwa [hp] at this
    refine zc<|za<|zd<|Z<|X (Gv.index1 (n:=2) (j:=j) (cs:=[.i p.1,.i p.2]) (v:=.i (eT p j)) underlying272 Zb Z0 U U U hj2 (sD hj2))<|ap U<|Y<|Z<|C U<|C U<|zb (Pi hy) U<|X (v8 U)<|X (nU U U)<|X (Cm U U)<|ap U<|ah U<|Y<|bZ<|C U<|C U<|aT U U<|aw U<|zo (s:=53) U (fun c1=>?_) (fun c1=>?_)
    ·have hf:gK (eT a i) (eT p j)=true:=by unfold gK;simp_all[gf]
     refine H U U c1<|H U U c1<|aA U c1 U<|zy U (zk (.l (.r (.rest _)))) (m9 i5 _ _ _ _) ?_;rintro r57 O57 ⟨rfl,rfl⟩;refine Y<|bQ U U ?_;exact ⟨j+1,jX,aN,⟨_,(.refl _),by rw[hs,hf,mR (fits:=true) (fun _=>D2 hx hy hf) (show (9223372036854775807:Int)=gW from rfl)];rfl⟩,hj2,by omega⟩
    have hf:gK (eT a i) (eT p j)=!decide (eT p j=-1):=by unfold gK;simp_all[gf]
    refine M U U c1<|C U<|M U U c1<|aT U U<|ay U c1 U<|zy U (zk (.l (.r (.rest _)))) (m9 i5 _ _ _ _) ?_;rintro r57 O57 ⟨rfl,rfl⟩;refine Y<|bQ U U ?_;exact ⟨j+1,jX,aN,⟨_,(.refl _),by rw[hs,hf,mR (fits:=!decide (eT p j=-1)) (fun h=>D2 hx hy (by rw[hf];exact h)) (show (9223372036854775807:Int)=gW from rfl)];rfl⟩,hj2,by omega⟩
   have hj2:j=2:=by omega
   subst hj2;refine zt<|bQ U U ?_;exact ⟨i+1,lI,aN,⟨_,(.refl _),by rw[show 2*(i+1)=2*i+2 by omega]⟩,hi2,by omega⟩
  have hi2:i=2:=by omega
  subst hi2;refine zt<|bQ U U ?_;exact ⟨q+1,f7,aN,⟨_,(.refl _),by rw[←h4]⟩,hq2,by omega⟩
 have hq2:q=2:=by omega
 subst hq2;refine zt<|za<|Z<|X (ze Yx U Zc (by decide) U U)<|X (zj (c:=.bool _) Yn U ⟨_,.head⟩ U)<|Y<|zq U (fun cw=>?_) (fun cw=>?_)
 ·refine Z<|zb (Hq) U<|zi j8 U U U U U U .t1 U<|Y<|zf<|yi U ⟨_,.t1⟩ jw j8 U ?_;rw[Ho,if_pos cw];try rfl
 refine zc<|Z<|X (ze Yx U j8 (by decide) U U)<|X (qh (l:=[_,_]) jw j8 U ⟨_,.head⟩ U U)<|zi j8 U U U U U U .t1 U<|Y<|zf<|yi U ⟨_,.t1⟩ jw j8 U ?_;rw[Ho,if_neg (by simpa using cw)];try rfl
theorem MX {a b:aO} (ha:bw a) (hb:bw b):aS prog E 187 [.agg (bM a),.agg (bM b)] (.agg (bM (ry a b))):=by
 have ha1:=ha.1;have ha2:=ha.2;have hb1:=hb.1;have hb2:=hb.2;unfold aY at ha1 ha2 hb1 hb2;refine zm func187 U (by decide) U<|Z<|zx (cs:=_) U U U<|zx (cs:=_) U U U<|zp (cs:=[.i 0,.i 0]) Za U U<|fun i4=>Y<|za<|za<|zn (fun j=>false) (by kernel_rfl) U (zk (.rest _))<|D 0 U (yj jw j8 U U)<|bp 1 U<|zb (LW _) U<|Y<|D 2 U (Gv.eqlP (xs:=[.int _ _,.int _ _]) (ys:=[.int _ _,.int _ _]) (by kernel_rfl) U U (fun w=>pd _ _ _ _ w))<|dS<|zh U (fun c0=>?_) (fun c0=>?_)
 ·refine Z<|zb (jA) U<|zi j8 U U U U U U .head U<|Y<|zf<|yi U ⟨_,.head⟩ jw j8 U ?_;rw[ry,if_pos (by obtain ⟨b1,b2⟩:=b;obtain ⟨h1,h2⟩:=c0;exact Prod.ext h1 h2)];try rfl
 have c0:¬b=(0,0):=fun e=>c0 (by rw[e];exact ⟨rfl,rfl⟩);refine zc<|Z<|ap U<|Y<|za<|Z<|ao jx U Z0 U U<|aD Zb U<|aq U U<|Y<|y3 (γ:=Int) [2,3,4] (fun k=>[(5,.i k)]) (fun k=>[(i4,.cells 63 [.i 0,.i 0])]) (fun k=>k=if b.1<0 then -(b.1+1) else 0) ?_ (fun _ _ h=>h) ?_
 ·refine zh U (fun c1=>?_) (fun c1=>?_)
  ·refine bZ<|ao jx U Z0 U U<|aD Zb U<|X (ky U U)<|X (Gv.neg U)<|ap U<|Y ?_;exact ⟨IntKind.i64.wrap (0 - (b.1+1)),eX,aN,aJ,by rw[if_pos c1,gj (by unfold aY;omega)];omega⟩
  refine zc ?_;exact ⟨0,eX,aN,aJ,by rw[if_neg c1]⟩
 rintro k hk;have hkr:0≤k∧k≤9223372036854775807:=by rw[hk];split<;>omega
 refine za<|Z<|ao jx U Z0 U U<|aD Zb U<|bg U U<|Y<|y3 (γ:=Int) [2,4] (fun m=>[(5,.i m)]) (fun m=>[(i4,.cells 63 [.i 0,.i 0])]) (fun m=>m=if 0<b.2 then dx k (b.2 - 1) else k) ?_ (fun _ _ h=>h) ?_
 ·refine zh U (fun c1=>?_) (fun c1=>?_)
  ·refine bZ<|C U<|ao jx U Z0 U U<|aD Zb U<|X (Gv.sub U U (by unfold mB;omega))<|X (Gv.maxI U U)<|ap U<|Y ?_;exact ⟨dx k (b.2 - 1),cV,aN,aJ,by rw[if_pos c1]⟩
  refine zc ?_;exact ⟨k,cV,aN,aJ,by rw[if_neg c1]⟩
 rintro m hm;have hmr:0≤m∧m≤9223372036854775807:=by rw[hm];unfold dx;(repeat' split)<;>omega
 have hr:ry a b=(if a.1<0 then dx a.1 (-m) else 0,if 0<a.2 then dM a.2 m else 0):=by subst hm hk;rw[ry,if_neg c0]
 rw[hr];refine Z<|zb (LW _) U<|zp (cs:=[.i 0,.i 0]) Za U U<|fun i6=>zi j8 U U U U U U .head U<|Y<|za<|Z<|ao jx U Z0 U U<|aD Zb U<|aq U U<|Y<|y3 (γ:=Int) [2,4,5,6] (fun x=>[]) (fun x=>[(i6,.cells 63 [.i x,.i 0]),(i4,.cells 63 [.i 0,.i 0])]) (fun x=>x=if a.1<0 then dx a.1 (-m) else 0) ?_ (fun _ _ h=>h) ?_
 ·refine zh U (fun c1=>?_) (fun c1=>?_)
  ·refine bZ<|ao jx U Z0 U U<|aD Zb U<|C U<|X (Gv.neg U)<|X (Gv.maxI U U)<|X (ze jx U Z0 (by decide) U U)<|yh (l:=[_]) (new:=[_,_]) Z0 U U U U U U .head U U<|Y ?_;exact ⟨dx a.1 (IntKind.i64.wrap (0 - m)),f7,trivial,aJ,by rw[if_pos c1,gj (by unfold aY;omega),Int.zero_sub]⟩
  refine zc ?_;exact ⟨0,f7,trivial,aJ,by rw[if_neg c1]⟩
 rintro x hx;refine za<|Z<|ao jx U Z0 U U<|aD Zb U<|bg U U<|Y<|zh U (fun c1=>?_) (fun c1=>?_)
 ·refine bZ<|ao jx U Z0 U U<|aD Zb U<|C U<|X (Gv.minI U U)<|X (ze jx U Z0 (by decide) U U)<|yh (l:=[_]) (new:=[_,_]) Z0 U U U U U U .head U U<|Y<|Z<|X (qb jw j8 U ⟨_,.head⟩ U)<|zi j8 U U U U U U .t1 U<|Y<|zf<|yi U ⟨_,.t1⟩ jw j8 U ?_;rw[←hx,if_pos c1];try rfl
 refine zc<|Z<|X (qb jw j8 U ⟨_,.head⟩ U)<|zi j8 U U U U U U .t1 U<|Y<|zf<|yi U ⟨_,.t1⟩ jw j8 U ?_;rw[←hx,if_neg c1];try rfl
def iB (op:Int) (a b:aO):aO:=
 if a.2<a.1∨b.2<b.1 then fD else if op=2 then qC 0 a b false else if op=3 then qC 1 a b false else if op=4 then qC 2 a b false else if op=5 then wl a b else if op=6 then ry a b else lQ
def uo (op:Int) (a b:aO):aO:=
 if a.2<a.1∨b.2<b.1 then fD else if op=2 then qC 0 a b true else if op=3 then qC 1 a b true else if op=4 then qC 2 a b true else if op=5 then wl a b else if op=6 then ry a b else lQ
theorem C8 {op:Int} (h:op=2∨op=3∨op=4):∃k:Nat,k≤2∧op=2+(k:Int):=⟨(op - 2).toNat,by omega,by omega⟩
theorem qR {op:Int} {k:Nat} (hk:k≤2) (h:op=2+(k:Int)) {a b:aO} (hn:¬(a.2<a.1∨b.2<b.1)):iB op a b=qC k a b false∧uo op a b=qC k a b true:=by
 unfold iB uo;rw[if_neg hn,if_neg hn];rcases (by omega:k=0∨k=1∨k=2) with rfl|rfl|rfl<;>subst h<;>exact ⟨rfl,rfl⟩
theorem C9 {op:Int} {a b:aO} (hc:(a.2<a.1∨b.2<b.1)∨¬(op=2∨op=3∨op=4)):iB op a b=uo op a b:=by
 unfold iB uo
 by_cases h:a.2<a.1∨b.2<b.1
 ·rw[if_pos h,if_pos h]
 have hs:¬(op=2∨op=3∨op=4):=hc.resolve_left h;rw[not_or,not_or] at hs;obtain ⟨h2,h3,h4⟩:=hs;rw[if_neg h,if_neg h];simp only[h2,h3,h4,if_false]
theorem Da (op:Int) {a b:aO} (ha:bw a) (hb:bw b):aS prog E 144 [.i op,.agg (bM a),.agg (bM b)] (.agg (bM (iB op a b))):=by
 refine zm func144 U (by decide) U<|Z<|zx (cs:=_) U U U<|zx (cs:=_) U U U<|zp (cs:=[.i 0,.i 0]) Za U U<|fun i6=>Y<|za<|zd<|za<|y3 (γ:=Bool) [0,4,5,6] (fun u=>[(8,.bool u)]) (fun u=>[(i6,.cells 63 [.i 0,.i 0])]) (fun u=>u=decide (a.2<a.1∨b.2<b.1)) ?_ (fun _ _ h=>h) ?_
 ·refine bZ<|ae jw j8 U U<|zb (ff _) U<|aw U<|zo (s:=11) U (fun c3=>?_) (fun c3=>?_)
  ·refine H U U c3<|H U U c3<|aA U c3 U<|ah U<|Y ?_;exact ⟨_,f7,aN,aJ,by simp_all<;>omega⟩
  refine M U U c3<|ae jw j8 U U<|M U U c3<|zb (ff _) U<|ay U c3 U<|ah U<|Y ?_;exact ⟨_,f7,aN,aJ,by simp_all<;>omega⟩
 rintro u hu;subst hu;refine zh U (fun cn=>?_) (fun cn=>?_)
 ·refine Z<|zb (jA) U<|zi j8 U U U U U U .head U<|Y<|zf<|yi U ⟨_,.head⟩ jw j8 U ?_;rw[iB,if_pos cn];try rfl
 refine Z<|C U<|zb (LX _) U<|ah U<|Y<|zq U (fun cs=>?_) (fun cs=>?_)
 ·have hs:op=2∨op=3∨op=4:=by simpa using cs
  obtain ⟨k,hk,hop⟩:=C8 hs;rw[(qR hk hop cn).1];refine Z<|C U<|ae jw j8 U U<|ae jw j8 U U<|zb (AR op k hk hop ha hb) U<|zp (cs:=[.int .i64 0,.int .i64 0,.bool false]) zeroValue243 U U<|fun i7=>zi sizeOf243 U U U U U U .head U<|Y<|Z<|X (ze Yx U Zc (by decide) U U)<|X (zj (c:=.bool _) Yn U ⟨_,.head⟩ U)<|aL U<|Y<|zq U (fun cw=>?_) (fun cw=>?_)
  ·refine Z<|X (ze Yx U j8 (by decide) U U)<|X (qh (l:=[_,_]) jw j8 U ⟨_,.head⟩ U U)<|zi j8 U U U U U U .t1 U<|Y<|zf<|yi U ⟨_,.t1⟩ jw j8 U ?_;rw[qC,if_neg (by decide),if_neg (by simpa using cw)];try rfl
  refine zc<|Z<|zb (Hq) U<|zi j8 U U U U U U .t1 U<|Y<|zf<|yi U ⟨_,.t1⟩ jw j8 U ?_;rw[qC,if_neg (by decide),if_pos (by simpa using cw)];try rfl
 have hs:¬(op=2∨op=3∨op=4):=by simpa using cs
 rw[iB,if_neg cn,if_neg (by omega),if_neg (by omega),if_neg (by omega)];refine Z<|C U<|au U U<|ah U<|Y<|zh U (fun c5=>?_) (fun c5=>?_)
 ·refine Z<|ae jw j8 U U<|ae jw j8 U U<|zb (Oh ha) U<|zi j8 U U U U U U .head U<|Y<|zf<|yi U ⟨_,.head⟩ jw j8 U ?_;rw[if_pos c5];try rfl
 rw[if_neg c5];refine Z<|C U<|au U U<|ah U<|Y<|zh U (fun c6=>?_) (fun c6=>?_)
 ·refine Z<|ae jw j8 U U<|ae jw j8 U U<|zb (MX ha hb) U<|zi j8 U U U U U U .head U<|Y<|zf<|yi U ⟨_,.head⟩ jw j8 U ?_;rw[if_pos c6];try rfl
 refine zc<|Z<|zb (Hq) U<|zi j8 U U U U U U .head U<|Y<|zf<|yi U ⟨_,.head⟩ jw j8 U ?_;rw[if_neg c6];try rfl
theorem Oi (op:Int) {a b:aO} (ha:bw a) (hb:bw b):aS prog E 183 [.i op,.agg (bM a),.agg (bM b)] (.agg (bM (uo op a b))):=by
 refine zm func183 U (by decide) U<|Z<|zx (cs:=_) U U U<|zx (cs:=_) U U U<|zp (cs:=[.i 0,.i 0]) Za U U<|fun i6=>Y<|za<|za<|y3 (γ:=Bool) [0,4,5,6] (fun u=>[(17,.bool u)]) (fun u=>[(i6,.cells 63 [.i 0,.i 0])]) (fun u=>u=decide ((a.2<a.1∨b.2<b.1)∨¬(op=2∨op=3∨op=4))) ?_ (fun _ _ h=>h) ?_
 ·refine bZ<|ae jw j8 U U<|zb (ff _) U<|aw U<|zo (s:=9) U (fun c4=>?_) (fun c4=>?_)
  ·refine H U U c4<|H U U c4<|aA U c4 U<|aw U<|H U U U<|H U U U<|H U U U<|aA U U U<|Y ?_;exact ⟨_,f7,aN,aJ,by simp_all<;>omega⟩
  refine M U U c4<|ae jw j8 U U<|M U U c4<|zb (ff _) U<|ay U c4 U<|aw U<|zo (s:=13) U (fun c5=>?_) (fun c5=>?_)
  ·refine H U U c5<|H U U c5<|H U U c5<|aA U c5 U<|Y ?_;exact ⟨_,f7,aN,aJ,by simp_all<;>omega⟩
  refine M U U c5<|C U<|M U U c5<|zb (LX _) U<|M U U c5<|aL U<|ay U c5 U<|Y ?_;exact ⟨_,f7,aN,aJ,by simp_all<;>omega⟩
 rintro u hu;subst hu;refine zh U (fun cn=>?_) (fun cn=>?_)
 ·refine Z<|C U<|ae jw j8 U U<|ae jw j8 U U<|zb (Da op ha hb) U<|zi j8 U U U U U U .head U<|Y<|zf<|yi U ⟨_,.head⟩ jw j8 U ?_;rw[C9 cn];try rfl
 obtain ⟨k,hk,hop⟩:=C8 (Classical.byContradiction fun h=>cn (.inr h));have hn:¬(a.2<a.1∨b.2<b.1):=fun h=>cn (.inl h);rw[(qR hk hop hn).2];refine zc<|Z<|C U<|ae jw j8 U U<|ae jw j8 U U<|zb (AR op k hk hop ha hb) U<|X (Gv.fieldA (l:=[_,_]) Yx U jw j8 U U)<|zi j8 U U U U U U .head U<|Y<|zf<|yi U ⟨_,.head⟩ jw j8 U ?_;rw[qC,if_pos rfl];try rfl
end
end Go.Proofs.YtbbonnfjealmpaaGreatDoor
