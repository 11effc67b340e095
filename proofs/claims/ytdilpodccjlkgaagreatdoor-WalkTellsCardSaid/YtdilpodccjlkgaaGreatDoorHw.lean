/- What the document knows, as a thing of one's own: add; sum. Of facts of nodes that there are. -/
import Derived.Test.YtdilpodccjlkgaaGreatDoorHv
import Derived.Test.YtdilpodccjlkgaaGreatDoorHn
import Derived.Test.YtdilpodccjlkgaaGreatDoorHs
import Derived.Test.YtdilpodccjlkgaaGreatDoorHo
set_option linter.unusedVariables false
set_option linter.unusedSimpArgs false
set_option linter.unusedSectionVars false
namespace Go.Proofs.YtdilpodccjlkgaaGreatDoor
open Go.Proofs.Tryz
open Go.Proofs Go.Lib Go.Shelf Go.RowKit
theorem Eq:cX prog 151 #[(0,1),(1,1)] [.int .i64 0,.int .i64 0]:=⟨_,_,Yf,zeroValue151,fun w=>by kernel_rfl,rfl⟩
variable {E:World}
set_option maxRecDepth 20000
def xL (f:ad) (K:KS) (P:List aF):AV:=.pf [.fro 2 (f.vars.map fq),.fro 1 (f.params.map cW),.fro 7 (f.blocks.map cZ),.int .i64 (bQ f),.fro 3 (K.l.map bf),.fro 4 (P.map aP)]
structure f8 (K:KS) (P:List aF):Prop where
 eq:K.p=P.map fun x=>(x.op,x.args)
 len:P.length≤1000000
 arg:∀x∈P,x.args.length≤1000
theorem Fh (k0:Int) {k:Nat} (hk:k≤2) (he:k0=(k:Int)) {a b:fj} (ha:jW a) (hb:jW b):aK prog E 85 [.int .i64 k0,.agg (iy a),.agg (iy b)] (.bool (decide (fF k a b))):=by subst he;exact GA hk ha hb
theorem DU (op:Int) (l:List Int) (x:aF):(decide (x.op=op)&&decide (x.args=l))=decide ((x.op,x.args).1=op∧(x.op,x.args).2=l):=by rw[Bool.decide_and]
theorem pO {f:ad} {v:Int} (h:0≤(aL f v).1∧0≤(aL f v).2):∃(i:Nat) (b:aY) (q:Nat) (x:aF),f.blocks[i]?=some b∧b.insts[q]?=some x∧(aL f v).1=i∧(aL f v).2=q∧b4 f v=some x:=by
 obtain ⟨i,b,h1,h2,h3⟩:=eH h.1
 obtain ⟨q,x,h4,h5,h6⟩:∃(q:Nat) (x:aF),b.insts[q]?=some x∧x.dst=v∧(aL f v).2=q:=by
  rcases h3 with ⟨_,_,_,h4⟩|h3
  ·omega
  ·exact h3
 exact ⟨i,b,q,x,h1,h4,h2,h6,by unfold b4;rw[if_pos h,h2,h6,Int.toNat_natCast,Int.toNat_natCast,h1];exact h4⟩
theorem pP {f:ad} {v:Int} {y:aF} (hm:b4 f v=some y):y.dst=v:=by
 have hy:0≤(aL f v).1∧0≤(aL f v).2:=by
  refine Classical.byContradiction fun h=>?_
  unfold b4 at hm
  rw[if_neg h] at hm;cases hm
 obtain ⟨i,b,h1,h2,h3⟩:=eH hy.1
 rcases h3 with ⟨_,_,_,h4⟩|⟨q,x,h4,h5,h6⟩
 ·omega
 ·have hx:b4 f v=some x:=by unfold b4;rw[if_pos hy,h2,h6,Int.toNat_natCast,Int.toNat_natCast,h1];exact h4
  rw[hx] at hm
  cases hm
  exact h5
theorem kH (f:ad) (hf:small f) (v:Nat) (hm:b4 f v=none):aK prog E 48 [.agg (bD f),.int .i64 v] (.agg [.int .i64 0,.int .i64 (-1),.raw (.slice none 0 0),.int .i64 0]):=by
 have hM:=jI (E:=E) f hf v
 have hno:¬(0≤(aL f (v:Int)).1∧0≤(aL f (v:Int)).2):=fun h=>by
  obtain ⟨_,_,_,_,_,_,_,_,h5⟩:=pO h
  rw[h5] at hm;cases hm
 refine zq func48 U (by decide) U<|ae<|y9 (cs:=_) U U U<|y6 (cs:=[.int .i64 0,.int .i64 0,.raw (.slice none 0 0),.int .i64 0]) Z4 U U<|fun i4=>z6<|ae<|ac ju jf U U<|aa U<|ze (hM) U<|bR U<|bJ U U<|bJ U U<|ap U<|ap U<|z6<|zd<|zd<|ya (γ:=Bool) [2,4,5,6] (fun u=>[(18,.bool u)]) (fun u=>[(i4,.cells 54 [.int .i64 0,.int .i64 0,.raw (.slice none 0 0),.int .i64 0])]) (fun u=>u=true) ?_ (fun _ _ h=>h) ?_
 ·refine aO<|aa U<|ax U U<|aj U<|zo (s:=15) U (fun c1=>?_) (fun c1=>?_)
  ·refine z7 U U c1<|z7 U U c1<|aq U c1 U<|z6 ?_
   exact ⟨_,fl,aH,aD,by simp_all<;>omega⟩
  ·refine z8 U U c1<|aa U<|z8 U U c1<|ax U U<|au U c1 U<|z6 ?_
   exact ⟨_,fl,aH,aD,by simp_all<;>omega⟩
 ·rintro u hu
  subst hu
  refine yl U U<|ae<|za (y5 (cps:=[(1,[_])]) (rs:=[.int .i64 0,_,.raw (.slice none 0 0),.int .i64 0]) BO U U U)<|y1 jv U U U U U U .head U<|z6<|zi<|dI.c1 U ⟨_,.head⟩ Zk jv U ?_
  rfl
theorem kI (f:ad) (hf:small f) (v:Nat) {x:aF} (hm:b4 f v=some x):aK prog E 48 [.agg (bD f),.int .i64 v] (.agg (aP x)):=by
 have hM:=jI (E:=E) f hf v
 have hy:0≤(aL f (v:Int)).1∧0≤(aL f (v:Int)).2:=by
  refine Classical.byContradiction fun h=>?_
  unfold b4 at hm
  rw[if_neg h] at hm;cases hm
 obtain ⟨i,b,q,x',h1,h2,h3,h4,h5⟩:=pO hy
 obtain rfl:x'=x:=by rw[h5] at hm;exact Option.some.inj hm
 refine zq func48 U (by decide) U<|ae<|y9 (cs:=_) U U U<|y6 (cs:=[.int .i64 0,.int .i64 0,.raw (.slice none 0 0),.int .i64 0]) Z4 U U<|fun i4=>z6<|ae<|ac ju jf U U<|aa U<|ze (hM) U<|bR U<|bJ U U<|bJ U U<|ap U<|ap U<|z6<|zd<|zd<|ya (γ:=Bool) [2,4,5,6] (fun u=>[(18,.bool u)]) (fun u=>[(i4,.cells 54 [.int .i64 0,.int .i64 0,.raw (.slice none 0 0),.int .i64 0])]) (fun u=>u=false) ?_ (fun _ _ h=>h) ?_
 ·refine aO<|aa U<|ax U U<|aj U<|zo (s:=15) U (fun c2=>?_) (fun c2=>?_)
  ·refine z7 U U c2<|z7 U U c2<|aq U c2 U<|z6 ?_
   exact ⟨_,fl,aH,aD,by simp_all<;>omega⟩
  ·refine z8 U U c2<|aa U<|z8 U U c2<|ax U U<|au U c2 U<|z6 ?_
   exact ⟨_,fl,aH,aD,by simp_all<;>omega⟩
 ·rintro u hu
  subst hu
  refine yg U U<|zg<|ae<|ao jg U Z6 U U<|aI Zd U<|aa U<|za (bh i jk Z0 U U h3 h1)<|ao jj U Zo U U<|aI Zx U<|aa U<|za (bh q jz jv U U h4 h2)<|ac Zk jv U U<|y1 jv U U U U U U .head U<|z6<|zi<|dI.c1 U ⟨_,.head⟩ Zk jv U ?_
  rfl
section
variable {f:ad} {K:KS} {P:List aF} (hv:f.vars.length≤1000) (hK:KB f K)
include hv hK
theorem kJ {a b:Int} (ha:aJ f a) (hb:aJ f b):aK prog E 51 [xL f K P,.int .i64 a,.int .i64 b] (.tup [.int .i64 ((bO f K a b).getD 0),.bool (bO f K a b).isSome]):=by
 have hl:=fW hv hK
 have h:=sT (E:=E) _ K.l hl (ed ha) (ed hb)
 rw[Dx (fun q hq=>(hl.fac q hq).1) (ed hb) (ed ha)] at h
 have he:bQ f+1=((f.vars.length+1:Nat):Int):=by unfold bQ;omega
 have hno:bQ f=(f.vars.length:Int):=rfl
 unfold xL
 refine zq func51 U (by decide) U<|ae<|ap U<|ab U<|z6<|zd<|zw (fun j=>false) (by kernel_rfl) U (zh (.rest _))<|ak 0 U (gD U)<|ak 1 U (yc U)<|ak 2 U (bx jw U sizeOf107 U U)<|ak 3 U (dx isAgg107 U)<|ak 4 U (gD U)<|ak 5 U (yc U)<|ak 6 U (bx jw U j6 U U)<|ak 7 U (b7 j7 U)<|ak 8 U (CA U U)<|ak 9 U (dq U)<|ak 10 U (dq U)<|ba 11 U<|ze (by rw[he];exact h) U<|z6<|ak 12 U (D8 U U)<|ak 13 U (D9 U U)<|ak 14 U (mA U)<|ak 15 U (lT U)<|bY<|zi<|q7 (x:=.int _ _) (y:=.bool _) U U ?_
 rfl
theorem rK {a b:Int} (ha:aJ f a) (hb:aJ f b) (c:Int):aK prog E 47 [xL f K P,.int .i64 a,.int .i64 b,.int .i64 c] (.bool (b5 f K a b c)):=by
 have hle:=kJ (E:=E) (P:=P) hv hK ha hb
 refine zq func47 U (by decide) U<|ae<|ab U<|z6<|ae<|bg U<|aa U<|aa U<|ze (hle) U<|bR U<|bJ U U<|bZ U U<|ap U<|ab U<|z6<|ae<|aj U<|aj U<|zo (s:=19) U (fun c3=>?_) (fun c3=>?_)
 ·refine z8 U U c3<|aa U<|z8 U U c3<|aa U<|z8 U U c3<|za (qb U U)<|aq U c3 U<|ab U<|z6<|zi<|zm (x:=.bool _) U ?_
  exact congrArg AV.bool (by unfold b5 gB;unfold bO at *;cases h:dE K.l (f.vars.length+1) a b with|none=>simp_all|some m=>simp_all)
 ·refine z7 U U c3<|z7 U U c3<|z7 U U c3<|au U c3 U<|ab U<|z6<|zi<|zm (x:=.bool _) U ?_
  exact congrArg AV.bool (by unfold b5 gB;unfold bO at *;cases h:dE K.l (f.vars.length+1) a b with|none=>simp_all|some m=>simp_all)
theorem pQ (k0:Int) {k:Nat} (hk:k≤2) (hk0:k0=(k:Int)) {a b:Int} (ha:aJ f a) (hb:aJ f b):aK prog E 49 [xL f K P,.int .i64 k0,.int .i64 a,.int .i64 b] (.bool (lh f K k a b)):=by
 have nn:aJ f (bQ f):=d5
 have hle:=fun a b ha hb=>kJ (E:=E) (P:=P) hv hK (a:=a) (b:=b) ha hb
 have e1:=hle _ _ ha nn
 have e2:=hle _ _ nn ha
 have e3:=hle _ _ hb nn
 have e4:=hle _ _ nn hb
 have rg:∀a b,-6917529027641081856≤(bO f K a b).getD 0∧(bO f K a b).getD 0≤6917529027641081856:=fun a b=>l7 (fW hv hK) (a:=a) (b:=b)
 have r2:=r9 (rg (bQ f) a)
 have r4:=r9 (rg (bQ f) b)
 have oa:=sD hv hK (bQ f) a a (bQ f)
 have ob:=sD hv hK (bQ f) b b (bQ f)
 have hfit:=Fh (E:=E) k0 hk hk0 oa ob
 have fin:∀P Q R S:Option Int,bO f K (bQ f) a=P→bO f K a (bQ f)=Q→bO f K (bQ f) b=R→bO f K b (bQ f)=S →
   lh f K k a b=((Q.isSome&&P.isSome&&S.isSome&&R.isSome)&&(decide (Q.getD 0 < -P.getD 0)||decide (S.getD 0 < -R.getD 0)||decide (fF k (-P.getD 0,Q.getD 0) (-R.getD 0,S.getD 0)))):=fun P Q R S e1 e2 e3 e4=>by
  unfold lh xn
  rw[e1,e2,e3,e4]
  cases P<;>cases Q<;>cases R<;>cases S<;>simp[BM,Bool.or_assoc]
 have fin:=fin _ _ _ _ rfl rfl rfl rfl
 change aK prog E _ [_,.agg (iy (-(bO f K (bQ f) a).getD 0,(bO f K a (bQ f)).getD 0)),.agg (iy (-(bO f K (bQ f) b).getD 0,(bO f K b (bQ f)).getD 0))] (.bool (decide (fF k (-(bO f K (bQ f) a).getD 0,(bO f K a (bQ f)).getD 0) (-(bO f K (bQ f) b).getD 0,(bO f K b (bQ f)).getD 0)))) at hfit
 rw[fin]
 clear fin hle rg oa ob
 generalize bO f K (bQ f) a=o2 at *
 generalize bO f K a (bQ f)=o1 at *
 generalize bO f K (bQ f) b=o4 at *
 generalize bO f K b (bQ f)=o3 at *
 unfold iy at hfit
 dsimp only at hfit
 rw[←r2,←r4] at hfit
 unfold xL at *
 refine zq func49 U (by decide) U<|ae<|ab U<|z6<|ae<|bg U<|aa U<|bg U<|za (yc U)<|ao jw U j6 U U<|ay j7 U<|ze (e1) U<|bR U<|bJ U U<|bZ U U<|ap U<|ab U<|z6<|ae<|bg U<|bg U<|za (yc U)<|ao jw U j6 U U<|ay j7 U<|aa U<|ze (e2) U<|bR U<|bJ U U<|bZ U U<|ap U<|ab U<|z6<|ae<|bg U<|aa U<|bg U<|za (yc U)<|ao jw U j6 U U<|ay j7 U<|ze (e3) U<|bR U ?_
 refine bJ U U<|bZ U U<|ap U<|ab U<|z6<|ae<|bg U<|bg U<|za (yc U)<|ao jw U j6 U U<|ay j7 U<|aa U<|ze (e4) U<|bR U<|bJ U U<|bZ U U<|ap U<|ab U<|z6<|zd<|zd<|ya (γ:=Bool) [1,9,11,13,15] (fun u=>[(70,.bool u)]) (fun u=>[]) (fun u=>u=!(o1.isSome&&o2.isSome&&o3.isSome&&o4.isSome)) ?_ (fun _ _ h=>h) ?_
 ·refine aO<|aj U<|aB U<|aj U<|zo (s:=59) U (fun c4=>?_) (fun c4=>?_)
  ·refine z7 U U c4<|z7 U U c4<|aq U c4 U<|aj U<|z7 U U U<|z7 U U U<|aq U U U<|aj U<|z7 U U U<|z7 U U U<|aq U U U<|z6 ?_
   exact ⟨_,(by repeat (first|with_reducible exact zp _ _|refine zz rfl ?_|exact iO)),aH,aD,by simp_all⟩
  ·refine z8 U U c4<|aj U<|z8 U U c4<|aB U<|au U c4 U<|aj U<|zo (s:=63) U (fun c5=>?_) (fun c5=>?_)
   ·refine z7 U U c5<|z7 U U c5<|aq U c5 U<|aj U<|z7 U U U<|z7 U U U<|aq U U U<|z6 ?_
    exact ⟨_,(by repeat (first|with_reducible exact zp _ _|refine zz rfl ?_|exact iO)),aH,aD,by simp_all⟩
   ·refine z8 U U c5<|aj U<|z8 U U c5<|aB U<|au U c5 U<|aj U<|zo (s:=67) U (fun c6=>?_) (fun c6=>?_)
    ·refine z7 U U c6<|z7 U U c6<|aq U c6 U<|z6 ?_
     exact ⟨_,(by repeat (first|with_reducible exact zp _ _|refine zz rfl ?_|exact iO)),aH,aD,by simp_all⟩
    ·refine z8 U U c6<|aj U<|z8 U U c6<|aB U<|au U c6 U<|z6 ?_
     exact ⟨_,(by repeat (first|with_reducible exact zp _ _|refine zz rfl ?_|exact iO)),aH,aD,by simp_all⟩
 ·rintro u hu
  refine zy U (fun cu=>?_) (fun cu=>?_)
  ·have h0:(o1.isSome&&o2.isSome&&o3.isSome&&o4.isSome)=false:=by
    cases h:(o1.isSome&&o2.isSome&&o3.isSome&&o4.isSome) with
    |false=>rfl
    |true=>rw[hu,h] at cu;cases cu
   refine ae<|ab U<|z6<|zi<|zm (x:=.bool _) U ?_
   exact jb (by rw[h0,Bool.false_and])
  ·have h0:(o1.isSome&&o2.isSome&&o3.isSome&&o4.isSome)=true:=by
    cases h:(o1.isSome&&o2.isSome&&o3.isSome&&o4.isSome) with
    |true=>rfl
    |false=>rw[hu,h] at cu;cases cu
   rw[h0,Bool.true_and]
   refine zg<|zd<|zd<|ya (γ:=Bool) [1,9,11,13,15] (fun u2=>[(80,.bool u2)]) (fun u2=>[]) (fun u2=>u2=(decide (o1.getD 0 < -o2.getD 0)||decide (o3.getD 0 < -o4.getD 0))) ?_ (fun _ _ h=>h) ?_
   ·refine aO<|aa U<|za (Gv.neg U)<|aa U<|bb U U<|aj U<|zo (s:=75) U (fun c7=>?_) (fun c7=>?_)
    ·refine z7 U U c7<|z7 U U c7<|z7 U U c7<|z7 U U c7<|aq U c7 U<|z6 ?_
     exact ⟨_,(by repeat (first|with_reducible exact zp _ _|refine zz rfl ?_|exact iO)),aH,aD,by simp_all<;>omega⟩
    ·refine z8 U U c7<|aa U<|z8 U U c7<|za (Gv.neg U)<|z8 U U c7<|aa U<|z8 U U c7<|bb U U<|au U c7 U<|z6 ?_
     exact ⟨_,(by repeat (first|with_reducible exact zp _ _|refine zz rfl ?_|exact iO)),aH,aD,by simp_all<;>omega⟩
   ·rintro u2 hu2
    refine zy U (fun cu2=>?_) (fun cu2=>?_)
    ·refine ae<|ab U<|z6<|zi<|zm (x:=.bool _) U ?_
     exact jb (by rw[←hu2,cu2];rfl)
    ·refine zg<|ae<|aa U<|aa U<|za (Gv.neg U)<|aa U<|za (y5 (cps:=[(0,[_]),(1,[_])]) (rs:=[_,_]) Eq U U U)<|aa U<|za (Gv.neg U)<|aa U<|za (y5 (cps:=[(0,[_]),(1,[_])]) (rs:=[_,_]) Eq U U U)<|ze (hfit) U<|ab U<|z6<|zi<|zm (x:=.bool _) U ?_
     exact jb (by rw[←hu2,show u2=false by simpa using cu2,Bool.false_or,r2,r4])
omit hv hK in
theorem rL (hP:f8 K P) (op:Int) (l:List Int) (hl:l.length≤1000):aK prog E 46 [xL f K P,.int .i64 op,.fro 1 (l.map cW)] (.bool (mo K op l)):=by
 have hPl:=hP.len
 have hw:mo K op l=P.any fun x=>decide (x.op=op)&&decide (x.args=l):=by
  unfold mo
  rw[hP.eq,List.any_map]
  exact congrArg (List.any P) (funext fun x=>(DU op l x).symm)
 rw[hw]
 unfold xL
 refine zq func46 U (by decide) U<|ae<|ab U<|z6<|zd<|ae<|bg U<|za (yc U)<|ao jw U Zo U U<|aI Zx U<|ar jz U<|aa U<|z6<|zj<|y8 (γ:=Nat) [1,2,12,13] (fun k=>[(14,.int .i64 k)]) (fun k=>[]) (fun k=>k≤P.length∧(P.take k).any (fun x=>decide (x.op=op)&&decide (x.args=l))=false) (fun k=>P.length - k) 0 aH aD (⟨qn _,U⟩) ?_
 rintro k ⟨hk,hall⟩
 refine ae<|ax U U<|z6<|zd<|zu U (fun ck=>?_) (fun ck=>?_)
 ·have hk2:k<P.length:=by omega
  have hx:=hP.arg _ (qo hk2)
  obtain ⟨x,hxe⟩:∃x,P[k]=x:=⟨_,rfl⟩
  have hxg:P[k]?=some x:=by rw[qk hk2,hxe]
  have hsu:(P.take (k+1)).any (fun x=>decide (x.op=op)&&decide (x.args=l))=(decide (x.op=op)&&decide (x.args=l)):=by
   rw[List.take_add_one,hxg,List.any_append,hall];simp
  rw[hxe] at hx
  refine zg<|zd<|zj<|ae<|za (bh k jz jv U U U hxg)<|ac Zk jv U U<|y6 (cs:=[.int .i64 0,.int .i64 0,.raw (.slice none 0 0),.int .i64 0]) Z4 U U<|fun i8=>y1 jv U U U U U U .head U<|zf (yf (t:=8) U .head)<|z6<|ae<|ac Zk jv U U<|aa U<|aT U<|ze (wx x op l (by omega) (by omega)) U<|z6<|zy U (fun cc=>?_) (fun cc=>?_)
  ·refine ae<|ab U<|z6<|zi<|zm (x:=.bool _) U ?_
   exact jb (by rw[List.any_eq_true.2 ⟨x,qu hxg,cc⟩])
  ·refine zg<|aO<|aC U U<|aa U<|z6 ?_
   exact ⟨k+1,fl,aH,aD,⟨hk2,by rw[hsu];simpa using cc⟩,by omega⟩
 ·obtain rfl:k=P.length:=by omega
  refine y7<|ae<|ab U<|z6<|zi<|zm (x:=.bool _) U ?_
  exact jb (by rw[qp] at hall;rw[hall])
set_option maxHeartbeats 4000000 in
theorem sV (hf:small f) (hP:f8 K P) (x:aF) (hF:dg f x) (hc:18≤x.op∧x.op≤24):aK prog E 26 [xL f K P,.agg (aP x)] (.bool (kB f K x)):=by
 have hcn:=hF.cnt (k:=x.op) rfl
 have a0:aJ f (bc x)∧0<x.args.length∧x.args.length≤2:=by
  have h2:0<x.args.length∧x.args.length≤2:=by
   obtain ⟨k,hk,e⟩:∃k:Nat,k≤6∧x.op=18+(k:Int):=⟨(x.op - 18).toNat,by omega,by omega⟩
   rw[hcn,e]
   have:k=0∨k=1∨k=2∨k=3∨k=4∨k=5∨k=6:=by omega
   rcases this with rfl|rfl|rfl|rfl|rfl|rfl|rfl<;>decide
  exact ⟨bv (hF.a0 h2.1),h2⟩
 have hV0:=hF.a0 a0.2.1
 obtain ⟨v0,hv0⟩:=Int.eq_ofNat_of_zero_le hV0.2
 have a1:∀{k:Int},x.op=k→1<([0,1,2,2,2,2,2,2,2,2,1,2,1,2,3,1,0,1,2,1,1,2,2,2,1,2,2][k.toNat]?).getD 0→aJ f (bC x)∧1<x.args.length:=fun e h=>⟨bv (hF.a1 (by rw[hF.cnt e];exact h)),by rw[hF.cnt e];exact h⟩
 have nn:aJ f (bQ f):=d5
 have hg0:=bn a0.2.1
 have hW:=rL (E:=E) (f:=f) hP x.op x.args (by omega)
 have hM:=fun h=>kH (E:=E) f hf v0 h
 have hM2:=fun y h=>kI (E:=E) f hf v0 (x:=y) h
 rw[←hv0] at hM hM2
 have hwi:=fun k0 k hk hk0 a b ha hb=>pQ (E:=E) (P:=P) hv hK k0 (k:=k) hk hk0 (a:=a) (b:=b) ha hb
 have flw:=fun a b c ha hb=>rK (E:=E) (P:=P) hv hK (a:=a) (b:=b) ha hb c
 unfold xL at *
 refine zq func26 U (by decide) U<|ae<|y9 (cs:=_) U U U<|ab U<|z6<|zd<|ae<|bg U<|ao j5 U jy U U<|ay Z2 U<|ao j5 U j8 U U<|aI j9 U<|ze (hW) U<|z6<|zy U (fun cw=>?_) (fun cw=>?_)
 ·refine ae<|ab U<|z6<|zi<|zm (x:=.bool _) U ?_
  rw[kB,cw];rfl
 ·rw[kB,cw,Bool.false_or]
  refine zg<|ae<|ao j5 U j8 U U<|aI j9 U<|za (bh 0 wz j6 U U U hg0)<|ay j7 U<|ap U<|z6<|zd<|ae<|ao j5 U jy U U<|ay Z2 U<|z6<|zj<|ae<|ai U U<|ab U<|z6<|zu U (fun c18=>?_) (fun c18=>?_)
  ·have c18:x.op=18:=c18
   have h1:=a1 c18 (by decide)
   rw[if_pos c18]
   refine zd<|zw (fun j=>false) (by kernel_rfl) U (zh (.rest _))<|ak 0 U (gD U)<|ak 1 U (gD U)<|ak 2 U (yc U)<|ak 3 U (bx jw U j6 U U)<|ak 4 U (b7 j7 U)<|ak 5 U (bx j5 U j8 U U)<|ak 6 U (dx j9 U)<|ak 7 U (bh 1 wz j6 U U U (bw h1.2))<|ak 8 U (b7 j7 U)<|ba 9 U<|ze (flw _ _ 0 nn h1.1) U<|z6<|ak 10 U (l6 U)<|qe (s:=31) U (fun c8=>?_) (fun c8=>?_)
   ·refine cR 11 U U U c8 (gD U)<|cR 12 U U U c8 (bx j5 U j8 U U)<|cR 13 U U U c8 (dx j9 U)<|cR 14 U U U c8 (bh 1 wz j6 U U U (bw h1.2))<|cR 15 U U U c8 (b7 j7 U)<|cR 16 U U U c8 (dq U)<|ba 17 U<|z8 U U c8<|ze (flw _ _ (-1) h1.1 a0.1) U<|z6<|ak 18 U (ta U c8 U)<|ak 19 U (lT U)<|bY<|zi<|zm (x:=.bool _) U ?_
    exact jb (by simp_all)
   ·refine b9 11 U U U c8<|b9 12 U U U c8<|b9 13 U U U c8<|b9 14 U U U c8<|b9 15 U U U c8<|b9 16 U U U c8<|b9 17 U U U c8<|ak 18 U (qU U c8 U)<|ak 19 U (lT U)<|bY<|zi<|zm (x:=.bool _) U ?_
    exact jb (by simp_all)
  ·rw[if_neg (show ¬x.op=18 from c18)]
   refine ae<|ai U U<|ab U<|z6<|zu U (fun c19=>?_) (fun c19=>?_)
   ·rw[if_pos (show x.op=19 from c19)]
    unfold E4
    rcases hm:b4 f (bc x) with _|y
    ·refine ae<|bg U<|za (yc U)<|ao jw U jf U U<|za (Gv.loadAF (l:=[_,_,_]) ju jf U U U)<|aa U<|ze (hM hm) U<|y6 (cs:=[.int .i64 0,.int .i64 0,.raw (.slice none 0 0),.int .i64 0]) Z4 U U<|fun i6=>y1 jv U U U U U U .head U<|zf (yf (t:=6) U .head)<|z6<|ae<|ao j5 U j6 U U<|ay j7 U<|za (yy U U)<|aj U<|zo (s:=51) U (fun c9=>?_) (fun c9=>?_)
     ·refine z8 U U c9<|ao j5 U jy U U<|z8 U U c9<|ay Z2 U<|z8 U U c9<|ai U U<|aq U c9 U<|aj U<|zo (s:=56) U (fun c10=>?_) (fun c10=>?_)
      ·refine z7 U U c10<|z7 U U c10<|z7 U U c10<|z7 U U c10<|z7 U U c10<|z7 U U c10<|z7 U U c10<|aq U c10 U<|ab U<|z6<|zi<|zm (x:=.bool _) U ?_
       exact jb (by simp_all)
      ·refine z8 U U c10<|bg U<|z8 U U c10<|bg U<|z8 U U c10<|za (yc U)<|z8 U U c10<|ao jw U j6 U U<|z8 U U c10<|ay j7 U<|z8 U U c10<|aa U<|z8 U U c10<|ze (flw _ _ (-1) nn a0.1) U<|au U c10 U<|ab U<|z6<|zi<|zm (x:=.bool _) U ?_
       exact jb (by simp_all)
     ·refine z7 U U c9<|z7 U U c9<|z7 U U c9<|au U c9 U<|aj U<|z8 U U U<|bg U<|z8 U U U<|bg U<|z8 U U U<|za (yc U)<|z8 U U U<|ao jw U j6 U U<|z8 U U U<|ay j7 U<|z8 U U U<|aa U<|z8 U U U<|ze (flw _ _ (-1) nn a0.1) U<|au U U U<|ab U<|z6<|zi<|zm (x:=.bool _) U ?_
      exact jb (by simp_all)
    ·have hyd:=pP hm
     refine ae<|bg U<|za (yc U)<|ao jw U jf U U<|za (Gv.loadAF (l:=[_,_,_]) ju jf U U U)<|aa U<|ze (hM2 y hm) U<|y6 (cs:=[.int .i64 0,.int .i64 0,.raw (.slice none 0 0),.int .i64 0]) Z4 U U<|fun i6=>y1 jv U U U U U U .head U<|zf (yf (t:=6) U .head)<|z6<|ae<|ao j5 U j6 U U<|ay j7 U<|za (yy U U)<|aj U<|zo (s:=51) U (fun c11=>?_) (fun c11=>?_)
     ·refine z8 U U c11<|ao j5 U jy U U<|z8 U U c11<|ay Z2 U<|z8 U U c11<|ai U U<|aq U c11 U<|aj U<|zo (s:=56) U (fun c12=>?_) (fun c12=>?_)
      ·refine z7 U U c12<|z7 U U c12<|z7 U U c12<|z7 U U c12<|z7 U U c12<|z7 U U c12<|z7 U U c12<|aq U c12 U<|ab U<|z6<|zi<|zm (x:=.bool _) U ?_
       exact jb (by simp_all<;>omega)
      ·refine z8 U U c12<|bg U<|z8 U U c12<|bg U<|z8 U U c12<|za (yc U)<|z8 U U c12<|ao jw U j6 U U<|z8 U U c12<|ay j7 U<|z8 U U c12<|aa U<|z8 U U c12<|ze (flw _ _ (-1) nn a0.1) U<|au U c12 U<|ab U<|z6<|zi<|zm (x:=.bool _) U ?_
       exact jb (by simp_all<;>omega)
     ·refine z7 U U c11<|z7 U U c11<|z7 U U c11<|au U c11 U<|aj U<|z8 U U U<|bg U<|z8 U U U<|bg U<|z8 U U U<|za (yc U)<|z8 U U U<|ao jw U j6 U U<|z8 U U U<|ay j7 U<|z8 U U U<|aa U<|z8 U U U<|ze (flw _ _ (-1) nn a0.1) U<|au U U U<|ab U<|z6<|zi<|zm (x:=.bool _) U ?_
      exact jb (by simp_all<;>omega)
   ·rw[if_neg (show ¬x.op=19 from c19)]
    refine ae<|ai U U<|ab U<|z6<|zu U (fun c20=>?_) (fun c20=>?_)
    ·rw[if_pos (show x.op=20 from c20)]
     refine ae<|bg U<|bg U<|za (yc U)<|ao jw U j6 U U<|ay j7 U<|aa U<|ze (flw _ _ (-1) nn a0.1) U<|aj U<|zo (s:=74) U (fun c13=>?_) (fun c13=>?_)
     ·refine z7 U U c13<|z7 U U c13<|z7 U U c13<|z7 U U c13<|z7 U U c13<|z7 U U c13<|z7 U U c13<|aq U c13 U<|ab U<|z6<|zi<|zm (x:=.bool _) U ?_
      exact jb (by simp_all)
     ·refine z8 U U c13<|bg U<|z8 U U c13<|aa U<|z8 U U c13<|bg U<|z8 U U c13<|za (yc U)<|z8 U U c13<|ao jw U j6 U U<|z8 U U c13<|ay j7 U<|z8 U U c13<|ze (flw _ _ (-1) a0.1 nn) U<|au U c13 U<|ab U<|z6<|zi<|zm (x:=.bool _) U ?_
      exact jb (by simp_all)
    ·rw[if_neg (show ¬x.op=20 from c20)]
     refine ae<|ai U U<|ab U<|z6<|zu U (fun c24=>?_) (fun c24=>?_)
     ·rw[if_pos (show x.op=24 from c24)]
      refine ae<|bg U<|bg U<|za (yc U)<|ao jw U j6 U U<|ay j7 U<|aa U<|ze (flw _ _ 0 nn a0.1) U<|aj U<|zo (s:=92) U (fun c14=>?_) (fun c14=>?_)
      ·refine z8 U U c14<|bg U<|z8 U U c14<|aa U<|z8 U U c14<|bg U<|z8 U U c14<|za (yc U)<|z8 U U c14<|ao jw U j6 U U<|z8 U U c14<|ay j7 U<|z8 U U c14<|ze (flw _ _ 64 a0.1 nn) U<|aq U c14 U<|ab U<|z6<|zi<|zm (x:=.bool _) U ?_
       exact jb (by simp_all)
      ·refine z7 U U c14<|z7 U U c14<|z7 U U c14<|z7 U U c14<|z7 U U c14<|z7 U U c14<|z7 U U c14<|au U c14 U<|ab U<|z6<|zi<|zm (x:=.bool _) U ?_
       exact jb (by simp_all)
     ·rw[if_neg (show ¬x.op=24 from c24)]
      obtain ⟨k,hk,e⟩:∃k:Nat,k≤2∧x.op=21+(k:Int):=⟨(x.op - 21).toNat,by omega,by omega⟩
      have h1:aJ f (bC x)∧1<x.args.length:=by
       have:k=0∨k=1∨k=2:=by omega
       rcases this with rfl|rfl|rfl
       ·exact a1 e (by decide)
       ·exact a1 e (by decide)
       ·exact a1 e (by decide)
      rw[show (x.op - 21).toNat=k by omega]
      refine zg<|zd<|zw (fun j=>false) (by kernel_rfl) U (zh (.rest _))<|ak 0 U (gD U)<|ak 1 U (bx j5 U jy U U)<|ak 2 U (b7 Z2 U)<|ak 3 U (Gv.sub U U (by unfold lj;omega))<|ak 4 U (dq U)<|ak 5 U (bx j5 U j8 U U)<|ak 6 U (dx j9 U)<|ak 7 U (bh 1 wz j6 U U U (bw h1.2))<|ak 8 U (b7 j7 U)<|ba 9 U<|ze (hwi (x.op - 21) k hk (by omega) _ _ a0.1 h1.1) U<|z6<|ak 10 U (lT U)<|bY<|zi<|zm (x:=.bool _) U ?_
      rfl
end
end Go.Proofs.YtdilpodccjlkgaaGreatDoor
namespace Go.Proofs.YtdilpodccjlkgaaGreatDoor
open Go.Proofs.Tryz
open Go.Proofs Go.Lib Go.Shelf Go.RowKit
theorem GB:cX prog 145 #[(0,1),(1,1),(2,1)] [.int .i64 0,.int .i64 0,.int .i64 0]:=⟨_,_,Yp,zeroValue145,fun w=>by kernel_rfl,rfl⟩
theorem DV:cU prog 107 145 1 3 [.int .i64 0,.int .i64 0,.int .i64 0]:=⟨_,underlying107,sizeOf145,zeroValue145,by decide,by decide,by kernel_rfl⟩
variable {E:World}
set_option maxRecDepth 20000
def mx (f:ad) (jl nl jp np:Nat):List AV:=[.fro 2 (f.vars.map fq),.fro 1 (f.params.map cW),.fro 7 (f.blocks.map cZ),.int .i64 (bQ f),.own jl nl,.own jp np]
def li (f:ad) (iw jl jp:Nat) (K:KS) (P:List aF):OL:=[(iw,.cells 109 (mx f jl K.l.length jp (P).length)),(jl,.grow 3 145 (K.l.map bf).flatten),(jp,.grow 4 54 ((P).map aP).flatten)]
theorem uY (l:List aF):∀x∈l.map aP,x.length=4:=fun x hx=>by obtain ⟨o,_,rfl⟩:=List.mem_map.1 hx;rfl
theorem Cn (l:List eu):(l.map bf).flatten.length=l.length*3:=by
 induction l with
 |nil=>rfl
 |cons o l ih=>rw[List.map_cons,List.flatten_cons,qq,ih,List.length_cons];show 3+_=_;omega
theorem Co (l:List aF):(l.map aP).flatten.length=l.length*4:=by
 induction l with
 |nil=>rfl
 |cons o l ih=>rw[List.map_cons,List.flatten_cons,qq,ih,List.length_cons];show 4+_=_;omega
section
variable {f:ad} {K:KS} {P:List aF} {iw jl jp:Nat}
theorem Cp {args:List AV} (I J:G) (L:List (Nat × Obj)) (hle:I.le J) (hL:bt I (li f iw jl jp K P) L) (hf:∀y∈L,J.k y.1=some y.2):∀vs,RepL I (.po iw 0::args) vs→RepL J (xL f K P::args) vs:=by
 refine bL ?_ (ol hle args)
 unfold xL
 refine lx hL hf .head ?_
 unfold mx
 refine bL (dH hle _) <| bL (dH hle _) <| bL (dH hle _) <| bL (dH hle _) <| bL ?_ <| bL ?_ oh
 ·exact kP hle hL hf .t1 (qX _) (by decide) (qr ..)
 ·exact kP hle hL hf .t2 (uY _) (by decide) (qr ..)
theorem n2 {fn:FuncId} {x:AV} {args:List AV} (hx:∀(I J:G) v,bq J x v→bq I x v)
  (h:aK prog E fn (xL f K P::args) x):aR prog E fn (.po iw 0::args) (li f iw jl jp K P) (fun y O=>y=x∧O=li f iw jl jp K P):=
 aR.lendAll Cp hx h
theorem k9 (jl:Nat) (K:KS) (hK:KB f K) (a b c:Int) :
  aR prog E 43 [.po iw 0,.int .i64 a,.int .i64 b,.int .i64 c] (li f iw jl jp K P) (fun y O=>∃g:Nat,y=.tup []∧O=li f iw g jp (cQ K a b c) P∧True):=by
 refine yu (γ:=Nat) (x:=fun g=>.tup []) (M:=fun g=>li f iw g jp (cQ K a b c) P) (p:=fun _=>True) ?_
 have hll:=hK.len
 have hfl:=Cn K.l
 unfold li mx
 refine zq func43 U (by decide) U<|zd<|ya (γ:=Bool) [0,1,2,3] (fun u=>[(21,.bool u)]) (fun u=>[(iw,.cells 109 (mx f jl K.l.length jp (P).length)),(jl,.grow 3 145 (K.l.map bf).flatten),(jp,.grow 4 54 ((P).map aP).flatten)]) (fun u=>u=decide (-bo≤c∧c≤bo∧K.l.length<8192)) ?_ (fun _ _ h=>h) ?_
 ·refine aO<|aa U<|za (yy U U)<|aj U<|zo (s:=10) U (fun c1=>?_) (fun c1=>?_)
  ·refine z8 U U c1<|aa U<|z8 U U c1<|za (qb U U)<|aq U c1 U<|aj U<|zo (s:=14) U (fun c2=>?_) (fun c2=>?_)
   ·refine z8 U U c2<|aE U<|z8 U U c2<|aw U<|z8 U U c2<|za (zn jw U sizeOf107 (by decide) U U)<|z8 U U c2<|za (zt (c:=.own _ _) isAgg107 U ⟨_,.head⟩ U)<|z8 U U c2<|za (Gv.lenO underlying107 U)<|z8 U U c2<|ax U U<|aq U c2 U<|z6 ?_
    exact ⟨_,(by repeat (first|with_reducible exact zp _ _|refine zz rfl ?_|exact fl)),aH,aD,by unfold bo;rw[qt];simp_all<;>omega⟩
   ·refine z7 U U c2<|z7 U U c2<|z7 U U c2<|z7 U U c2<|z7 U U c2<|z7 U U c2<|au U c2 U<|z6 ?_
    exact ⟨_,(by repeat (first|with_reducible exact zp _ _|refine zz rfl ?_|exact fl)),aH,aD,by unfold bo;rw[qt];simp_all<;>omega⟩
  ·refine z7 U U c1<|z7 U U c1<|au U c1 U<|aj U<|z7 U U U<|z7 U U U<|z7 U U U<|z7 U U U<|z7 U U U<|z7 U U U<|au U U U<|z6 ?_
   exact ⟨_,(by repeat (first|with_reducible exact zp _ _|refine zz rfl ?_|exact fl)),aH,aD,by unfold bo;rw[qt];simp_all<;>omega⟩
 ·rintro u hu
  refine zy U (fun cu=>?_) (fun cu=>?_)
  ·have hy:-bo≤c∧c≤bo∧K.l.length<8192:=Classical.byContradiction fun hq=>by rw[hu,qy hq] at cu;simp at cu
   have hL:cQ K a b c=⟨K.l++[⟨a,b,c⟩],K.p⟩:=by unfold cQ;rw[if_pos hy]
   refine aO<|aE U<|aE U<|aw U<|za (zn jw U sizeOf107 (by decide) U U)<|za (zt (c:=.own _ _) isAgg107 U ⟨_,.head⟩ U)<|aa U<|aa U<|aa U<|za (y5 (cps:=[(0,[_]),(1,[_]),(2,[_])]) (rs:=[_,_,_]) GB U U U)<|y4 (rows:=[[_,_,_]]) DV U U U U U<|yj (k:=3) underlying107 type145 U U U U U (fun _=>.t1) hfl (by decide) U (by show (_+_)*24≤_;simp<;>omega) (by simp<;>omega)<|fun i32=>aw U<|za (zn jw U sizeOf107 (by decide) U U)<|yw (l:=[_]) (new:=[_,_,_,_,_,_]) sizeOf107 U U U U U U .head U U<|z6<|ye (zb (zc .t2))<|ye (zb (zc .t2))<|ye (zb (zc .t2))<|yh ?_
   exact ⟨i32,rfl,⟨_,.refl _,by rw[hL,qv,List.flatten_append,qq];rfl⟩,trivial⟩
  ·have hn:¬(-bo≤c∧c≤bo∧K.l.length<8192):=fun hq=>by rw[hu,qx hq] at cu;cases cu
   have hL:cQ K a b c=K:=by unfold cQ;rw[if_neg hn]
   refine zg<|yh ?_
   exact ⟨jl,rfl,⟨_,.refl _,by rw[hL];rfl⟩,trivial⟩
variable (hv:f.vars.length≤1000)
include hv
theorem Er (hK:KB f K) {a b:Int} (ha:aJ f a) (hb:aJ f b):aR prog E 51 [.po iw 0,.int .i64 a,.int .i64 b] (li f iw jl jp K P) (fun y O=>y=.tup [.int .i64 ((bO f K a b).getD 0),.bool (bO f K a b).isSome]∧O=li f iw jl jp K P):=
 n2 (fun _ _ _ h=>og h) (kJ hv hK ha hb)
theorem Fi (hK:KB f K) (k0:Int) {k:Nat} (hk:k≤2) (hk0:k0=(k:Int)) {a b:Int} (ha:aJ f a) (hb:aJ f b):aR prog E 49 [.po iw 0,.int .i64 k0,.int .i64 a,.int .i64 b] (li f iw jl jp K P) (fun y O=>y=.bool (lh f K k a b)∧O=li f iw jl jp K P):=
 n2 (fun _ _ _ h=>fp h) (pQ hv hK k0 hk hk0 ha hb)
omit hv in
theorem GC (hP:f8 K P) (op:Int) (l:List Int) (hl:l.length≤1000):aR prog E 46 [.po iw 0,.int .i64 op,.fro 1 (l.map cW)] (li f iw jl jp K P) (fun y O=>y=.bool (mo K op l)∧O=li f iw jl jp K P):=
 n2 (fun _ _ _ h=>fp h) (rL hP op l hl)
theorem GD (hK:KB f K) (hf:small f) (hP:f8 K P) (x:aF) (hF:dg f x) (hc:18≤x.op∧x.op≤24):aR prog E 26 [.po iw 0,.agg (aP x)] (li f iw jl jp K P) (fun y O=>y=.bool (kB f K x)∧O=li f iw jl jp K P):=
 n2 (fun _ _ _ h=>fp h) (sV hv hK hf hP x hF hc)
set_option maxHeartbeats 4000000 in
theorem Ag (hK:KB f K) (hP:f8 K P) (x:aF) (hF:dg f x) (hop:x.op=2∨x.op=3) (d y z:Int) (hd0:d=x.dst) (hy0:y=bc x) (hz0:z=bC x) :
  aR prog E 50 [.po iw 0,.agg (aP x),.int .i64 d,.int .i64 y,.int .i64 z] (li f iw jl jp K P) (fun y O=>∃g:Nat,y=.tup []∧O=li f iw g jp (jD f K x) P∧True):=by
 subst hd0 hy0 hz0
 refine yu (γ:=Nat) (x:=fun g=>.tup []) (M:=fun g=>li f iw g jp (jD f K x) P) (p:=fun _=>True) ?_
 have h1:x.args.length=2:=by rcases hop with e|e<;>(rw[hF.cnt e];decide)
 have hd:aJ f x.dst:=by rcases hop with e|e<;>exact bv (hF.d e rfl)
 have n0:aJ f (bc x):=bv (hF.a0 (by omega))
 have n1:aJ f (bC x):=bv (hF.a1 (by omega))
 have nn:aJ f (bQ f):=d5
 obtain ⟨kk,hkk,hke⟩:∃k:Nat,k≤2∧x.op=2+(k:Int):=⟨(x.op - 2).toNat,by omega,by omega⟩
 have hke2:(x.op - 2).toNat=kk:=by omega
 have hwas:=GC (E:=E) (f:=f) (iw:=iw) (jl:=jl) (jp:=jp) hP (21+(x.op - 2)) x.args (by omega)
 have hfit:=Fi (E:=E) (P:=P) (iw:=iw) (jl:=jl) (jp:=jp) hv hK (x.op - 2) hkk (by omega) n0 n1
 have hle:=fun a b (ha:aJ f a) (hb:aJ f b)=>Er (E:=E) (P:=P) (iw:=iw) (jl:=jl) (jp:=jp) hv hK ha hb
 have hsS:¬(mo K (x.op+19) x.args=false∧lh f K kk (bc x) (bC x)=false)→jD f K x=if x.op=3 then addO (addO K x.dst (bc x) (bO f K (bQ f) (bC x))) (bc x) x.dst (bO f K (bC x) (bQ f))
     else addO (addO (addO (addO K x.dst (bc x) (bO f K (bC x) (bQ f))) (bc x) x.dst (bO f K (bQ f) (bC x))) x.dst (bC x) (bO f K (bc x) (bQ f))) (bC x) x.dst (bO f K (bQ f) (bc x)):=fun h=>by
  unfold jD
  rw[hke2,if_neg h]
 have hsN:(mo K (x.op+19) x.args=false∧lh f K kk (bc x) (bC x)=false)→jD f K x=K:=fun h=>by
  unfold jD
  rw[hke2,if_pos h]
 have l1:=hle _ _ n1 nn
 have l2:=hle _ _ nn n1
 have l3:=hle _ _ n0 nn
 have l4:=hle _ _ nn n0
 generalize bO f K (bQ f) (bc x)=o0 at *
 generalize bO f K (bQ f) (bC x)=o1 at *
 generalize bO f K (bc x) (bQ f)=q0 at *
 generalize bO f K (bC x) (bQ f)=q1 at *
 generalize jD f K x=KZ at *
 clear hle
 have add:=fun jl K hK a b c=>k9 (E:=E) (f:=f) (P:=P) (iw:=iw) (jp:=jp) jl K hK a b c
 rw[show 21+(x.op - 2)=x.op+19 by omega] at hwas
 have hne:21+(x.op - 2)=x.op+19:=by omega
 unfold li at *
 refine zq func50 U (by decide) U<|ae<|y9 (cs:=_) U U U<|z6<|ae<|ao j5 U jy U U<|ay Z2 U<|za (Gv.sub U U (by unfold lj;omega))<|ap U<|z6 ?_
 rw[←hne] at hwas
 refine zd<|zd<|ya (γ:=Bool) [0,2,3,4,10] (fun u=>[(36,.bool u)]) (fun u=>[(iw,.cells 109 (mx f jl K.l.length jp (P).length)),(jl,.grow 3 145 (K.l.map bf).flatten),(jp,.grow 4 54 ((P).map aP).flatten)]) (fun u=>u=(!mo K (x.op+19) x.args&&!lh f K kk (bc x) (bC x))) ?_ (fun _ _ h=>h) ?_
 ·refine aO<|aE U<|aa U<|aC U U<|ao j5 U j8 U U<|aI j9 U<|zr U (zh (.l (.l (.l (.rest _))))) (hwas) ?_
  rintro r27 O27 ⟨rfl,rfl⟩
  refine aB U<|aj U<|zo (s:=29) U (fun c3=>?_) (fun c3=>?_)
  ·refine z8 U U c3<|aE U<|z8 U U c3<|aa U<|z8 U U c3<|aa U<|z8 U U c3<|aa U<|z8 U U c3<|zr U (zh (.l (.l (.l (.rest _))))) (hfit) ?_
   rintro r34 O34 ⟨rfl,rfl⟩
   refine z8 U U c3<|aB U<|aq U c3 U<|z6 ?_
   exact ⟨_,(by repeat (first|with_reducible exact zp _ _|refine zz rfl ?_|exact iO)),aH,aD,by simp_all⟩
  ·refine z7 U U c3<|z7 U U c3<|z7 U U c3<|z7 U U c3<|z7 U U c3<|z7 U U c3<|au U c3 U<|z6 ?_
   exact ⟨_,(by repeat (first|with_reducible exact zp _ _|refine zz rfl ?_|exact iO)),aH,aD,by simp_all⟩
 ·rintro u hu
  refine zy U (fun cu=>?_) (fun cu=>?_)
  ·have hS:KZ=K:=hsN (by rw[hu] at cu;simpa using cu)
   refine zi<|yh ?_
   exact ⟨jl,rfl,⟨_,.refl _,by rw[hS]⟩,trivial⟩
  ·have hS:=hsS (by rw[hu] at cu;simpa using cu)
   refine zg<|ae<|aE U<|aa U<|aE U<|aw U<|za (zn jw U j6 (by decide) U U)<|za (zt (c:=.int _ _) j7 U ⟨_,.head⟩ U)<|zr U (zh (.l (.l (.l (.rest _))))) (l1) ?_
   rintro r44 O44 ⟨rfl,rfl⟩
   refine bR U<|bJ U U<|bZ U U<|ap U<|ab U<|z6<|ae<|aE U<|aE U<|aw U<|za (zn jw U j6 (by decide) U U)<|za (zt (c:=.int _ _) j7 U ⟨_,.head⟩ U)<|aa U<|zr U (zh (.l (.l (.l (.rest _))))) (l2) ?_
   rintro r54 O54 ⟨rfl,rfl⟩
   refine bR U<|bJ U U<|bZ U U<|ap U<|ab U<|z6<|ae<|aE U<|aa U<|aE U<|aw U<|za (zn jw U j6 (by decide) U U)<|za (zt (c:=.int _ _) j7 U ⟨_,.head⟩ U)<|zr U (zh (.l (.l (.l (.rest _))))) (l3) ?_
   rintro r64 O64 ⟨rfl,rfl⟩
   refine bR U<|bJ U U<|bZ U U<|ap U<|ab U<|z6<|ae<|aE U<|aE U<|aw U<|za (zn jw U j6 (by decide) U U)<|za (zt (c:=.int _ _) j7 U ⟨_,.head⟩ U)<|aa U<|zr U (zh (.l (.l (.l (.rest _))))) (l4) ?_
   rintro r74 O74 ⟨rfl,rfl⟩
   refine bR U<|bJ U U<|bZ U U<|ap U<|ab U<|z6<|zd<|ae<|aa U<|ai U U<|z6<|zu U (fun c3=>?_) (fun c3=>?_)
   ·rw[if_pos (show x.op=3 by omega)] at hS
    rw[hS]
    refine zd<|ae<|aj U<|z6<|ya (γ:=Nat) [0,2,3,11,12] (fun g=>[]) (fun g=>[(iw,.cells 109 (mx f g (addO K x.dst (bc x) o1).l.length jp (P).length)),(g,.grow 3 145 ((addO K x.dst (bc x) o1).l.map bf).flatten),(jp,.grow 4 54 ((P).map aP).flatten)]) (fun g=>True) ?_ (fun _ _ h=>h) ?_
    ·refine zy U (fun c=>?_) (fun c=>?_)
     ·refine aO<|aE U<|aa U<|aa U<|aa U<|zr U (zh (.l (.l (.l (.rest _))))) (add jl K hK _ _ (o1.getD 0)) ?_
      rintro r84 O84 ⟨j1,rfl,rfl,_⟩
      refine z6 ?_
      exact ⟨j1,(by repeat (first|with_reducible exact zp _ _|refine zz rfl ?_|exact iO)),trivial,⟨_,(.refl _),by simp only[gf c,qw]⟩,trivial⟩
     ·refine zg ?_
      exact ⟨jl,(by repeat (first|with_reducible exact zp _ _|refine zz rfl ?_|exact iO)),trivial,⟨_,(.refl _),by simp only[gg c,qw]⟩,trivial⟩
    ·rintro jq _
     have hK1:KB f (addO K x.dst (bc x) o1):=hK.addO hd n0
     refine zd<|ae<|aj U<|z6<|zy U (fun c=>?_) (fun c=>?_)
     ·refine aO<|aE U<|aa U<|aa U<|aa U<|zr U (zh (.l (.l (.l (.rest _))))) (add jq _ hK1 _ _ (q1.getD 0)) ?_
      rintro r90 O90 ⟨j1,rfl,rfl,_⟩
      refine z6<|zi<|yh ?_
      exact ⟨j1,rfl,⟨_,.refl _,by simp only[gf c,qw]⟩,trivial⟩
     ·refine zg<|zi<|yh ?_
      exact ⟨jq,rfl,⟨_,.refl _,by simp only[gg c,qw]⟩,trivial⟩
   ·rw[if_neg (show ¬x.op=3 by omega)] at hS
    rw[hS]
    refine zg<|zd<|ae<|aj U<|z6<|ya (γ:=Nat) [0,2,3,4,13,14,15,16,17,18] (fun g=>[]) (fun g=>[(iw,.cells 109 (mx f g (addO K x.dst (bc x) q1).l.length jp (P).length)),(g,.grow 3 145 ((addO K x.dst (bc x) q1).l.map bf).flatten),(jp,.grow 4 54 ((P).map aP).flatten)]) (fun g=>True) ?_ (fun _ _ h=>h) ?_
    ·refine zy U (fun c=>?_) (fun c=>?_)
     ·refine aO<|aE U<|aa U<|aa U<|aa U<|zr U (zh (.l (.l (.l (.rest _))))) (add jl K hK _ _ (q1.getD 0)) ?_
      rintro r96 O96 ⟨j1,rfl,rfl,_⟩
      refine z6 ?_
      exact ⟨j1,(by repeat (first|with_reducible exact zp _ _|refine zz rfl ?_|exact nv)),trivial,⟨_,(.refl _),by simp only[gf c,qw]⟩,trivial⟩
     ·refine zg ?_
      exact ⟨jl,(by repeat (first|with_reducible exact zp _ _|refine zz rfl ?_|exact nv)),trivial,⟨_,(.refl _),by simp only[gg c,qw]⟩,trivial⟩
    ·rintro jq _
     have hK1:KB f (addO K x.dst (bc x) q1):=hK.addO hd n0
     obtain ⟨K1,hk1⟩:∃K1,addO K x.dst (bc x) q1=K1:=⟨_,rfl⟩
     rw[hk1] at hK1
     rw[hk1]
     refine zd<|ae<|aj U<|z6<|ya (γ:=Nat) [0,2,4,15,16,17,18] (fun g=>[]) (fun g=>[(iw,.cells 109 (mx f g (addO K1 (bc x) x.dst o1).l.length jp (P).length)),(g,.grow 3 145 ((addO K1 (bc x) x.dst o1).l.map bf).flatten),(jp,.grow 4 54 ((P).map aP).flatten)]) (fun g=>True) ?_ (fun _ _ h=>h) ?_
     ·refine zy U (fun c=>?_) (fun c=>?_)
      ·refine aO<|aE U<|aa U<|aa U<|aa U<|zr U (zh (.l (.l (.l (.rest _))))) (add jq K1 hK1 _ _ (o1.getD 0)) ?_
       rintro r102 O102 ⟨j1,rfl,rfl,_⟩
       refine z6 ?_
       exact ⟨j1,(by repeat (first|with_reducible exact zp _ _|refine zz rfl ?_|exact lf)),trivial,⟨_,(.refl _),by simp only[gf c,qw]⟩,trivial⟩
      ·refine zg ?_
       exact ⟨jq,(by repeat (first|with_reducible exact zp _ _|refine zz rfl ?_|exact lf)),trivial,⟨_,(.refl _),by simp only[gg c,qw]⟩,trivial⟩
     ·rintro jr _
      have hK2:=hK1.addO n0 hd (o:=o1)
      obtain ⟨K2,hk2⟩:∃K2,addO K1 (bc x) x.dst o1=K2:=⟨_,rfl⟩
      rw[hk2] at hK2
      rw[hk2]
      refine zd<|ae<|aj U<|z6<|ya (γ:=Nat) [0,2,4,17,18] (fun g=>[]) (fun g=>[(iw,.cells 109 (mx f g (addO K2 x.dst (bC x) q0).l.length jp (P).length)),(g,.grow 3 145 ((addO K2 x.dst (bC x) q0).l.map bf).flatten),(jp,.grow 4 54 ((P).map aP).flatten)]) (fun g=>True) ?_ (fun _ _ h=>h) ?_
      ·refine zy U (fun c=>?_) (fun c=>?_)
       ·refine aO<|aE U<|aa U<|aa U<|aa U<|zr U (zh (.l (.l (.l (.rest _))))) (add jr K2 hK2 _ _ (q0.getD 0)) ?_
        rintro r108 O108 ⟨j1,rfl,rfl,_⟩
        refine z6 ?_
        exact ⟨j1,(by repeat (first|with_reducible exact zp _ _|refine zz rfl ?_|exact iO)),trivial,⟨_,(.refl _),by simp only[gf c,qw]⟩,trivial⟩
       ·refine zg ?_
        exact ⟨jr,(by repeat (first|with_reducible exact zp _ _|refine zz rfl ?_|exact iO)),trivial,⟨_,(.refl _),by simp only[gg c,qw]⟩,trivial⟩
      ·rintro js2 _
       have hK3:=hK2.addO hd n1 (o:=q0)
       obtain ⟨K3,hk3⟩:∃K3,addO K2 x.dst (bC x) q0=K3:=⟨_,rfl⟩
       rw[hk3] at hK3
       rw[hk3]
       refine ae<|aj U<|z6<|zy U (fun c=>?_) (fun c=>?_)
       ·refine aO<|aE U<|aa U<|aa U<|aa U<|zr U (zh (.l (.l (.l (.rest _))))) (add js2 K3 hK3 _ _ (o0.getD 0)) ?_
        rintro r114 O114 ⟨j1,rfl,rfl,_⟩
        refine z6<|yh ?_
        exact ⟨j1,rfl,⟨_,.refl _,by simp only[gf c,qw]⟩,trivial⟩
       ·refine zg<|yh ?_
        exact ⟨js2,rfl,⟨_,.refl _,by simp only[gg c,qw]⟩,trivial⟩
end
end Go.Proofs.YtdilpodccjlkgaaGreatDoor
