/- What is known behind branches, what is decided, what is known from the beginning, all the way down. Plain law. No conditions. -/
import Derived.Test.YtbbonnfjealmpaaGreatDoorZr
import Derived.Test.YtbbonnfjealmpaaGreatDoorZc
import Derived.Test.YtbbonnfjealmpaaGreatDoorZa
import Derived.Test.YtbbonnfjealmpaaGreatDoorZi
import Derived.Test.YtbbonnfjealmpaaGreatDoorZd
import Derived.Test.YtbbonnfjealmpaaGreatDoorZp
set_option linter.unusedVariables false
set_option linter.unusedSimpArgs false
set_option linter.unusedSectionVars false
namespace Go.Proofs.YtbbonnfjealmpaaGreatDoor
section
open Go.Proofs.Tryz
open Go.Proofs Go.Lib Go.Shelf Go.RowKit
variable {E:World}
set_option maxRecDepth 20000
theorem FO:aX 10=[1]:=by decide
theorem FP:aX 11=[1,1]:=by decide
theorem Bc {f:ab} (h:bf f=true):∀b∈f.blocks,∀x∈b.insts,x.op=10∨x.op=11→∀v∈x.args,FB f v=1:=by
 intro b hb x hx hop v hv
 unfold bf at h
 rw[wh] at h
 have h1:=List.all_eq_true.1 h.2 b hb
 unfold jK at h1
 simp only[wh] at h1
 have h2:=List.all_eq_true.1 h1.1.2 x hx
 unfold fz at h2
 rw[if_neg (by omega)] at h2
 rw[wh,wm] at h2
 have h3:aU f v∈aX x.op:=by rw[←h2.1];exact List.mem_map_of_mem hv
 show aU f v=1
 rcases hop with e|e<;>rw[e] at h3
 ·rw[FO] at h3;simpa using h3
 ·rw[FP] at h3;simpa using h3
theorem DO {f:ab} (h:cT f=true):mP f:=(oM f).1 (by unfold cT at h;simp only[wh] at h;exact h.2.2.1)
theorem FQ {f:ab} (hf:small f) (h:(bf f&&cT f)=true):Jb f:=⟨hf,dN (oY h).1,DO (oY h).2,Bc (oY h).1⟩
theorem FR {f:ab} (hS:bH f) {l:List bh} {v:Nat} (hv:v<f.vars.length) (hm:0≤(aD f v).1) (ho:mP f):l5 f (gb (pU f)) l v=l5 f (nu f) l v:=by
 obtain ⟨i,b,h1,⟨p,h2,h3,h4⟩|⟨k,x,h2,h3,h4⟩⟩:=jR hm
 ·rw[n4 (ho v hv).1 h1 h2 h3 h4,n4 (ho v hv).1 h1 h2 h3 h4]
 ·rw[mC h1 h2 h4,mC h1 h2 h4]
  unfold Ci
  rw[h3,Ig (by omega) (by omega)]
theorem vG {p:Prop} [Decidable p] (h:(!decide p)=true):¬p:=fun hp=>by rw[we hp] at h;cases h
theorem vH {p:Prop} [Decidable p] (h:(!decide p)=false):p:=Classical.byContradiction fun hp=>by rw[wg hp] at h;cases h
def sw (f:ab) (v:Int):bh:=if bf f=true∧0≤v∧v<f.vars.length then nv f v else fN
theorem yB (f:ab) (hf:small f) (hL:bx E) (v:Int):aP prog E 37 [.agg (bw f),.int .i64 v] (.agg (bP (sw f v))):=by
 have hvn:=hf.1
 have hp:=hf.2.1
 have hT:=ng (E:=E) f hf hL
 refine zp func37 U (by decide) U<|ae<|y6 (cs:=_) U U U<|zu (cs:=[.int .i64 0,.int .i64 0]) Z3 U U<|fun i4=>z2<|zb<|zi<|zb<|yb (γ:=Bool) [1,2,4] (fun u=>[(5,.bool u)]) (fun u=>[(i4,.cells 63 [.int .i64 0,.int .i64 0])]) (fun u=>u=!decide (bf f=true∧0≤v∧v<f.vars.length)) ?_ (fun _ _ h=>h) ?_
 ·refine aW<|ac Z0 ji U U<|ze (hT) U<|aO U U<|aq U<|zt (s:=9) U (fun c1=>?_) (fun c1=>?_)
  ·refine z6 U U c1<|z6 U U c1<|au U c1 U<|aq U<|z6 U U U<|z6 U U U<|z6 U U U<|z6 U U U<|z6 U U U<|au U U U<|ad U<|z2 ?_
   exact ⟨_,bW,aL,aE,by have h:bf f=false:=(by cases ht:bf f;rfl;rw[ht] at c1;simp at c1);simp[h]⟩
  ·have h1:bf f=true:=by cases ht:bf f;rw[ht] at c1;simp at c1;rfl
   refine z7 U U c1<|aa U<|z7 U U c1<|ap U U<|aw U c1 U<|aq U<|zt (s:=13) U (fun c2=>?_) (fun c2=>?_)
   ·refine z6 U U c2<|z6 U U c2<|z6 U U c2<|z6 U U c2<|z6 U U c2<|au U c2 U<|ad U<|z2 ?_
    exact ⟨_,bW,aL,aE,by have h:v<0:=(by simpa using c2);simp;omega⟩
   ·refine z7 U U c2<|aa U<|z7 U U c2<|ak je U Zn U U<|z7 U U c2<|aI Zz U<|z7 U U c2<|aj Z7 U<|z7 U U c2<|z8 (q9 U U)<|aw U c2 U<|ad U<|z2 ?_
    exact ⟨_,bW,aL,aE,by have h:¬v<0:=(by simpa using c2);rw[w8];simp[h1];omega⟩
 ·rintro u hu
  subst hu
  refine zw U (fun c=>?_) (fun c=>?_)
  ·refine ae<|ze (gV) U<|zj j8 U U U U U U .head U<|z2<|zg<|ym U ⟨_,.head⟩ jk j8 U ?_
   rw[sw,if_neg (vG c)];try rfl
  ·have hc:bf f=true∧0≤v∧v<f.vars.length:=vH c
   rw[sw,if_pos hc,nv]
   have hvl:v.toNat<f.vars.length:=by omega
   have hty:FB f v=f.vars[v.toNat].ty:=by unfold FB;rw[qx hvl];rfl
   refine ae<|aa U<|ak je U jh U U<|aI jx U<|aj j7 U<|ap U U<|ad U<|z2<|zn U (fun c2=>?_) (fun c2=>?_)
   ·refine ae<|ak je U Zn U U<|aI Zz U<|aa U<|z8 (bB v.toNat Z7 Yf U U (by omega) (qx hvl))<|ak Zt U X9 U U<|aA Xj U<|ze (EU _) U<|zj j8 U U U U U U .head U<|z2<|zg<|ym U ⟨_,.head⟩ jk j8 U ?_
    rw[if_pos c2,hty];try rfl
   ·refine zf<|ae<|ze (I2 _) U<|zj j8 U U U U U U .head U<|z2<|zg<|ym U ⟨_,.head⟩ jk j8 U ?_
    rw[if_neg c2];try rfl
def lq (f:ab) (l:List bh) (v:Int):Bool:=(bf f&&cT f)&&decide (l.length=f.vars.length∧0≤v∧v<f.vars.length∧0≤(aD f v).1)
def sx (f:ab) (l:List bh) (v:Int):bh:=if lq f l v=true then l5 f (nu f) l v else fN
theorem Lw {l:List bh} (h:∀r∈l,cO r) (u:Int):cO (lv l u):=by
 unfold lv
 cases hu:l[u.toNat]? with
 |none=>exact JX
 |some r=>exact h r (w9 hu)
set_option maxHeartbeats 4000000 in
theorem FS (f:ab) (hf:small f) (hL:bx E) (l:List bh) (ho:∀r∈l,cO r) (hl:l.length≤9223372036854775807) (v:Int) (hs:(bf f&&cT f)=true):aP prog E 36 [.agg (bw f),.fro 2 (l.map bP),.int .i64 v] (.tup [.agg (bP (sx f l v)),.bool (lq f l v)]):=by
 have hvn:=hf.1
 have hF:=FQ hf hs
 have hS:=hF.shaped
 have hlk:=Il (E:=E) f hf hL hs
 refine zp func36 U (by decide) U<|ae<|y6 (cs:=_) U U U<|zu (cs:=[.int .i64 0,.int .i64 0]) Z3 U U<|fun i6=>ad U<|z2<|ae<|ac Z0 ji U U<|y3 U (zo (.r (.rest _))) (hlk) ?_
 rintro r12 O12 ⟨iv,rfl,rfl⟩
 refine z8 (uY U)<|z8 (Gv.extract (v:=.po _ _) U U)<|z8 (nC U U)<|z8 (gu U)<|am U<|z2<|zb<|zb<|yb (γ:=Bool) [1,2,6,8] (fun u=>[(46,.bool u)]) (fun u=>[(iv,.cells 111 (Cn f (pU f) .n)),(i6,.cells 63 [.int .i64 0,.int .i64 0])]) (fun u=>u=!decide (l.length=f.vars.length∧0≤v∧v<f.vars.length∧0≤(aD f v).1)) ?_ (fun _ _ h=>h) ?_
 ·refine aW<|aa U<|aO U U<|aq U<|zt (s:=17) U (fun c1=>?_) (fun c1=>?_)
  ·exfalso;simp at c1
  ·refine z7 U U c1<|bd U<|z7 U U c1<|aj Yt U<|z7 U U c1<|ak je U Zn U U<|z7 U U c1<|aI Zz U<|z7 U U c1<|aj Z7 U<|z7 U U c1<|aO U U<|aw U c1 U<|aq U<|zt (s:=25) U (fun c2=>?_) (fun c2=>?_)
   ·refine z6 U U c2<|z6 U U c2<|au U c2 U<|aq U<|z6 U U U<|z6 U U U<|z6 U U U<|z6 U U U<|z6 U U U<|au U U U<|aq U<|z6 U U U<|z6 U U U<|z6 U U U<|z6 U U U<|z6 U U U<|z6 U U U<|z6 U U U<|z6 U U U<|z6 U U U<|au U U U<|z2 ?_
    exact ⟨_,fC,aL,aE,by have h:¬l.length=f.vars.length:=(by intro e;rw[e] at c2;simp at c2);simp[h]⟩
   ·have h1:l.length=f.vars.length:=by have h:(!decide ((l.length:Int)=(f.vars.length:Int)))=false:=c2;simp at h;omega
    refine z7 U U c2<|aa U<|z7 U U c2<|ap U U<|aw U c2 U<|aq U<|zt (s:=29) U (fun c3=>?_) (fun c3=>?_)
    ·refine z6 U U c3<|z6 U U c3<|z6 U U c3<|z6 U U c3<|z6 U U c3<|au U c3 U<|aq U<|z6 U U U<|z6 U U U<|z6 U U U<|z6 U U U<|z6 U U U<|z6 U U U<|z6 U U U<|z6 U U U<|z6 U U U<|au U U U<|z2 ?_
     exact ⟨_,fC,aL,aE,by have h:v<0:=(by simpa using c3);simp;omega⟩
    ·have h2:¬v<0:=by simpa using c3
     refine z7 U U c3<|aa U<|z7 U U c3<|ak je U Zn U U<|z7 U U c3<|aI Zz U<|z7 U U c3<|aj Z7 U<|z7 U U c3<|z8 (q9 U U)<|aw U c3 U<|aq U<|zt (s:=36) U (fun c4=>?_) (fun c4=>?_)
     ·refine z6 U U c4<|z6 U U c4<|z6 U U c4<|z6 U U c4<|z6 U U c4<|z6 U U c4<|z6 U U c4<|z6 U U c4<|z6 U U c4<|au U c4 U<|z2 ?_
      exact ⟨_,fC,aL,aE,by have h:(f.vars.length:Int)≤v:=(by simpa using c4);simp;omega⟩
     ·have h3:¬(f.vars.length:Int)≤v:=by simpa using c4
      have hmk0:=jO (f:=f) (v:=v.toNat) (by omega)
      rw[show ((v.toNat:Nat):Int)=v by omega] at hmk0
      refine z7 U U c4<|bb U<|z7 U U c4<|ax U<|z7 U U c4<|z8 (zh Ym U Yr (by decide) U U)<|z7 U U c4<|z8 (zq (c:=.fro _ _) Xa U ⟨_,.head⟩ U)<|z7 U U c4<|aa U<|z7 U U c4<|z8 (bB v.toNat Zl Y9 U U (by omega) hmk0)<|z7 U U c4<|ak Y8 U j9 U U<|z7 U U c4<|aA jg U<|z7 U U c4<|ap U U<|aw U c4 U<|z2 ?_
      exact ⟨_,fC,aL,aE,by rw[w8];simp[h1];omega⟩
 ·rintro u hu
  subst hu
  refine zw U (fun c=>?_) (fun c=>?_)
  ·have hc:¬(l.length=f.vars.length∧0≤v∧v<f.vars.length∧0≤(aD f v).1):=vG c
   have hb:lq f l v=false:=by unfold lq;rw[wg hc,Bool.and_false]
   refine ae<|ze (gV) U<|zj j8 U U U U U U .t1 U<|ad U<|z2<|zg<|ga.c1t (y:=.bool _) U U ⟨_,.t1⟩ jk j8 U ?_
   rw[sx,hb,if_neg (by decide)];try rfl
  ·have hc:l.length=f.vars.length∧0≤v∧v<f.vars.length∧0≤(aD f v).1:=vH c
   obtain ⟨hll,h0,h1,hm⟩:=hc
   have hb:lq f l v=true:=by unfold lq;rw[hs,we ⟨hll,h0,h1,hm⟩];rfl
   have hvv:((v.toNat:Nat):Int)=v:=by omega
   have hvr:=Bb (E:=E) f hF l (pU f) (su f) (.fro 2 (l.map bP)) (i:=i6) (HL:=.cells 63 [.int .i64 0,.int .i64 0]) (fun ha=>J8 f hS (pU f) l hll i6 _ ha) (fun u _=>Lw ho u) v.toNat (by omega) (by rw[hvv];exact hm)
   rw[FR hS (by omega) (by rw[hvv];exact hm) hF.once,hvv] at hvr
   refine zf<|ae<|bb U<|bd U<|ax U<|z8 (zh Ym U sizeOf40 (by decide) U U)<|yn (l:=[_]) (new:=[_,_,_,_,_,_]) sizeOf40 U U U U U U .head U U<|z2<|y7 (y8 (t:=8) U .head)<|ae<|z8 (tv U)<|aa U<|y3 U (zo (.l (.rest _))) (hvr) ?_
   rintro r54 O54 ⟨rfl,rfl⟩
   refine zj j8 U U U U U U .head U<|ad U<|z2<|zg<|ga.c1t (y:=.bool _) U U ⟨_,.head⟩ jk j8 U ?_
   rw[sx,hb,if_pos rfl];try rfl
theorem DP (f:ab) (hf:small f) (hL:bx E) (l:List bh) (ho:∀r∈l,cO r) (hl:l.length≤9223372036854775807) (v:Int) (hs:¬(bf f&&cT f)=true):aP prog E 36 [.agg (bw f),.fro 2 (l.map bP),.int .i64 v] (.tup [.agg (bP (sx f l v)),.bool (lq f l v)]):=by
 have hs2:(bf f&&cT f)=false:=by simpa using hs
 have hlk:=FN (E:=E) f hf hL hs2
 have hb:lq f l v=false:=by unfold lq;rw[hs2];rfl
 refine zp func36 U (by decide) U<|ae<|y6 (cs:=_) U U U<|zu (cs:=[.int .i64 0,.int .i64 0]) Z3 U U<|fun i6=>ad U<|z2<|ae<|ac Z0 ji U U<|ze (hlk) U<|z8 (uY U)<|z8 (Gv.extract (v:=.raw _) U U)<|z8 (nC U U)<|cE U<|am U<|z2<|zb<|ae<|aa U<|aO U U<|aq U<|z6 U U U<|z6 U U U<|z6 U U U<|z6 U U U<|z6 U U U<|z6 U U U<|au U U U<|aq U<|z6 U U U<|z6 U U U<|au U U U<|aq U<|z6 U U U<|z6 U U U<|z6 U U U<|z6 U U U<|z6 U U U<|au U U U<|aq U<|z6 U U U ?_
 refine z6 U U U<|z6 U U U<|z6 U U U<|z6 U U U<|z6 U U U<|z6 U U U<|z6 U U U<|z6 U U U<|au U U U<|z2<|yr U U<|ae<|ze (gV) U<|zj j8 U U U U U U .head U<|ad U<|z2<|zg<|ga.c1t (y:=.bool _) U U ⟨_,.head⟩ jk j8 U ?_
 rw[sx,hb,if_neg (by decide)];try rfl
theorem Bd (f:ab) (hf:small f) (hL:bx E) (l:List bh) (ho:∀r∈l,cO r) (hl:l.length≤9223372036854775807) (v:Int):aP prog E 36 [.agg (bw f),.fro 2 (l.map bP),.int .i64 v] (.tup [.agg (bP (sx f l v)),.bool (lq f l v)]):=by
 by_cases hs:(bf f&&cT f)=true
 ·exact FS f hf hL l ho hl v hs
 ·exact DP f hf hL l ho hl v hs
end
section
open Go.Proofs.Tryz
open Go.Proofs Go.Lib Go.Shelf Go.RowKit
variable {E:World}
set_option maxRecDepth 20000
def uK (f:ab) (l:List bh) (v:Int):bh:=if 0≤(aD f v).1 then l5 f (nu f) l v else nv f v
def Im (f:ab) (l:List bh) (v:Nat):Bool:=mq (uK f l v) (lv l v)
def fL (f:ab) (l:List bh):Bool:=(bf f&&cT f)&&decide (l.length=f.vars.length)&&(List.range f.vars.length).all (Im f l)
theorem yC (f:ab) (hf:small f) (hL:bx E) (l:List bh) (hl:l.length≤9223372036854775807):aP prog E 35 [.agg (bw f),.fro 2 (l.map bP)] (.bool ((bf f&&cT f)&&decide (l.length=f.vars.length))):=by
 have hvn:=hf.1
 have hR:=jA (E:=E) f hf hL
 refine zp func35 U (by decide) U<|ae<|y6 (cs:=_) U U U<|ad U<|z2<|ae<|ac Z0 ji U U<|ze (hR) U<|ao U U<|aq U<|zt (s:=8) U (fun c=>?_) (fun c=>?_)
 ·have h:(bf f&&cT f)=true:=by cases h:(bf f&&cT f);rw[h] at c;simp at c;rfl
  refine z7 U U c<|bd U<|z7 U U c<|aj Yt U<|z7 U U c<|ak je U Zn U U<|z7 U U c<|aI Zz U<|z7 U U c<|aj Z7 U<|z7 U U c<|ao U U<|au U c U<|ad U<|z2<|zg<|zm (x:=.bool _) U ?_
  exact jb (by rw[h,Bool.true_and];exact decide_eq_decide.2 (by omega))
 ·have h:(bf f&&cT f)=false:=by cases h:(bf f&&cT f);rfl;rw[h] at c;simp at c
  refine z6 U U c<|z6 U U c<|z6 U U c<|z6 U U c<|z6 U U c<|z6 U U c<|aw U c U<|ad U<|z2<|zg<|zm (x:=.bool _) U ?_
  exact jb (by rw[h];rfl)
theorem Kc {l:List bh} {k:Nat} (h:k<l.length):l[k]?=some (lv l (k:Int)):=by unfold lv;rw[show (k:Int).toNat=k from rfl,qx h];rfl
set_option maxHeartbeats 4000000 in
theorem iE (f:ab) (hf:small f) (hL:bx E) (l:List bh) (ho:∀r∈l,cO r) (hl:l.length≤9223372036854775807):aP prog E 15 [.agg (bw f),.fro 2 (l.map bP)] (.bool (fL f l)):=by
 have hvn:=hf.1
 refine zp func15 U (by decide) U<|ae<|y6 (cs:=_) U U U<|ad U<|z2<|zb<|ae<|ac Z0 ji U U<|bd U<|ze (yC f hf hL l hl) U<|aJ U<|z2<|zw U (fun c0=>?_) (fun c0=>?_)
 ·have h:((bf f&&cT f)&&decide (l.length=f.vars.length))=false:=by rwa [Bool.not_eq_true'] at c0
  refine ae<|ad U<|z2<|zg<|zm (x:=.bool _) U ?_
  exact jb (by unfold fL;rw[h];rfl)
 ·have h:((bf f&&cT f)&&decide (l.length=f.vars.length))=true:=by rwa [Bool.not_eq_false'] at c0
  have hts:=(oY h).1
  have hll:l.length=f.vars.length:=by simpa using (oY h).2
  have htt:=(oY hts).1
  have hbad:∀k:Nat,k<f.vars.length→Im f l k=false→fL f l=false:=fun k hk hb=>by unfold fL;rw[dL hk hb,Bool.and_false]
  refine zf<|zb<|ae<|ak je U Zn U U<|aI Zz U<|aj Z7 U<|aa U<|z2<|zi<|y5 (γ:=Nat) [1,2,14] (fun k=>[(15,.i k)]) (fun k=>[]) (fun k=>k≤f.vars.length∧(List.range k).all (Im f l)=true) (fun k=>f.vars.length - k) 0 aL aE (⟨w2 _,U⟩) ?_
  rintro k ⟨hk,hall⟩
  refine ae<|ap U U<|z2<|zb<|zn U (fun ck=>?_) (fun ck=>?_)
  ·have hk2:k<f.vars.length:=by simp at ck;omega
   have hrb:lq f l (k:Int)=decide (0≤(aD f k).1):=by unfold lq;rw[hts,Bool.true_and];exact decide_eq_decide.2 (by omega)
   have hfp:sw f (k:Int)=nv f k:=by unfold sw;rw[if_pos ⟨htt,by omega,by omega⟩]
   refine zf<|zb<|zi<|ae<|aa U<|am U<|z2<|ae<|ac Z0 ji U U<|bd U<|aa U<|ze (Bd f hf hL l ho hl (k:Int)) U<|z8 (uY U)<|z8 (Gv.extract (v:=.agg _) U U)<|z8 (wz U U)<|zu (cs:=[.int .i64 0,.int .i64 0]) Z3 U U<|fun i6=>zj j8 U U U U U U .head U<|ad U<|z2<|zb<|ae<|aq U<|aJ U<|z2<|yb (γ:=bh) [1,2,5,6,14,15] (fun r=>[]) (fun r=>[(i6,.cells 63 (bP (uK f l k)))]) (fun r=>True) ?_ (fun _ _ h=>h) ?_
   ·refine zw U (fun cm=>?_) (fun cm=>?_)
    ·have hm:¬0≤(aD f k).1:=by rw[hrb] at cm;exact vG cm
     refine aW<|ac Z0 ji U U<|aa U<|ze (yB f hf hL (k:Int)) U<|zj j8 U U U U U U .head U<|z2 ?_
     exact ⟨fN,oB,trivial,⟨_,(.refl _),by rw[uK,if_neg hm,←hfp];rfl⟩,trivial⟩
    ·have hm:0≤(aD f k).1:=by rw[hrb] at cm;exact vH cm
     refine zf ?_
     exact ⟨fN,oB,trivial,⟨_,(.refl _),by rw[uK,if_pos hm,sx,hrb,if_pos (we hm)];rfl⟩,trivial⟩
   ·rintro _ _
    refine zb<|zr (fun j=>false) (by kernel_rfl) U (zo (.r (.rest _)))<|ai 0 U (qu jk j8 U ⟨_,.head⟩ U)<|ai 1 U (vZ U)<|ai 2 U (dx U)<|ai 3 U (bB k Yt j8 U U U (Kc (by omega)))<|ai 4 U (yp jk j8 U U)<|aN 5 U<|ze (HO (uK f l k) (lv l k)) U<|z2<|ai 6 U (Gv.not U)<|bI<|zw U (fun cw=>?_) (fun cw=>?_)
    ·refine ae<|ad U<|z2<|zg<|zm (x:=.bool _) U ?_
     exact jb (hbad k hk2 (by rwa [Bool.not_eq_true'] at cw)).symm
    ·refine zf<|aW<|aC U U<|aa U<|z2 ?_
     exact ⟨k+1,bW,aL,⟨_,(.drop (.refl _)),rfl⟩,⟨hk2,cL hall (by rwa [Bool.not_eq_false'] at cw)⟩,by omega⟩
  ·have hkn:k=f.vars.length:=by simp at ck;omega
   subst hkn
   refine y4<|ae<|ad U<|z2<|zg<|zm (x:=.bool _) U ?_
   exact jb (by unfold fL;rw[h,hall];rfl)
end
section
open Go.Proofs.Tryz
open Go.Proofs
def v8 (x y:AV):Prop:=∀I v,cC I x v→cC I y v
def nx (xs ys:List AV):Prop:=∀I vs,RepL I xs vs→RepL I ys vs
theorem v8.refl (x:AV):v8 x x:=fun _ _ h=>h
theorem v8.nil (k:Nat):v8 .n (.fro k []):=fun _ _ h=>⟨none,0,0,h,rfl,Nat.le_refl _,fun _=>rfl,trivial⟩
theorem nx.nil:nx [] []:=fun _ _ h=>h
theorem nx.cons {x y:AV} {xs ys:List AV} (h:v8 x y) (hs:nx xs ys):nx (x::xs) (y::ys):=fun I _ ⟨v,us,e,h1,h2⟩=>⟨v,us,e,h I v h1,hs I us h2⟩
theorem v8.agg {xs ys:List AV} (h:nx xs ys):v8 (.agg xs) (.agg ys):=fun I _ ⟨vs,e,h1⟩=>⟨vs,e,h I vs h1⟩
end
section
open Go.Proofs.Tryz
open Go.Proofs Go.Lib Go.Shelf Go.RowKit
theorem Lx:em prog 48 #[(0,1),(1,1)] [.e,.int .i64 0]:=⟨_,_,Zt,zeroValue48,fun w=>by kernel_rfl,rfl⟩
theorem FT:dn prog 22 48 1 2 [.e,.int .i64 0]:=⟨_,Z7,Yf,zeroValue48,by decide,by decide,by kernel_rfl⟩
theorem DQ:em prog 51 #[(0,1),(1,1),(2,1),(3,1)] [.int .i64 0,.int .i64 0,.n,.int .i64 0]:=⟨_,_,jd,Zr,fun w=>by kernel_rfl,rfl⟩
theorem Be:dn prog 52 51 1 4 [.int .i64 0,.int .i64 0,.n,.int .i64 0]:=⟨_,Z6,Za,Zr,by decide,by decide,by kernel_rfl⟩
theorem Mt:em prog 56 #[(0,1),(1,1),(2,2)] [.int .i64 0,.int .i64 0,.int .i64 0,.int .i64 0]:=⟨_,_,jj,Xf,fun w=>by kernel_rfl,rfl⟩
theorem Ly:em prog 59 #[(0,1),(1,1),(2,1),(3,4)] [.e,.n,.n,.int .i64 0,.int .i64 0,.int .i64 0,.int .i64 0]:=⟨_,_,jr,Zh,fun w=>by kernel_rfl,rfl⟩
theorem Kd:dn prog 24 59 1 7 [.e,.n,.n,.int .i64 0,.int .i64 0,.int .i64 0,.int .i64 0]:=⟨_,ju,Z2,Zh,by decide,by decide,by kernel_rfl⟩
theorem Io:em prog 26 #[(0,1),(1,1),(2,1)] [.n,.n,.n]:=⟨_,_,je,zeroValue26,fun w=>by kernel_rfl,rfl⟩
theorem Bf:dn prog 40 63 1 2 [.int .i64 0,.int .i64 0]:=⟨_,Yt,j8,Z3,by decide,by decide,by kernel_rfl⟩
variable {E:World}
set_option maxRecDepth 20000
theorem Bg {r:bh} (h:cO r):∀s∈[r],cO s:=fun s hs=>by rw[List.mem_singleton.1 hs];exact h
theorem oZ {x:Int} (h:(decide (-9223372036854775808≤x)&&decide (x≤9223372036854775807))=true):bg x:=by unfold bg;simpa using h
def jS:ab:=⟨[⟨⟨#[110]⟩,0⟩],[],[⟨⟨#[97]⟩,[],[⟨0,0,[],5⟩],⟨2,0,0,0⟩⟩]⟩
theorem vI:small jS:=by unfold small jS;simp[xr];decide
theorem Ke:fL jS [(5,5)]=true:=by decide +kernel
theorem Kf:fL jS [(0,9)]=true:=by decide +kernel
theorem Kg:fL jS [(6,6)]=false:=by decide +kernel
theorem vJ (hL:bx E):aP prog E 13 [] (.bool true):=by
 have ha:=iE (E:=E) jS vI hL [(5,5)] (Bg ⟨oZ rfl,oZ rfl⟩) (by decide)
 have hb:=iE (E:=E) jS vI hL [(0,9)] (Bg ⟨oZ rfl,oZ rfl⟩) (by decide)
 have hc:=iE (E:=E) jS vI hL [(6,6)] (Bg ⟨oZ rfl,oZ rfl⟩) (by decide)
 rw[Ke] at ha
 rw[Kf] at hb
 rw[Kg] at hc
 refine zp func13 U (by decide) U<|ae<|ad U<|z2<|ae<|z8 (zz (cps:=[(0,[_])]) (rs:=[_,.int .i64 0]) Lx U U U)<|zx (rows:=[[_,_]]) FT U U U U U<|z8 (zz (cps:=[(0,[_]),(1,[_]),(3,[_])]) (rs:=[_,_,.n,_]) DQ U U U)<|zd (aR.slot (t:=4) U (v8.agg (.cons (.refl _) (.cons (.refl _) (.cons (.nil 1) (.cons (.refl _) .nil))))))<|zx (rows:=[[_,_,_,_]]) Be U U U U U<|z8 (zz (cps:=[(0,[_])]) (rs:=[_,.int .i64 0,.int .i64 0,.int .i64 0]) Mt U U U)<|z8 (zz (cps:=[(0,[_]),(2,[_]),(3,[_,_,_,_])]) (rs:=[_,.n,_,_,_,_,_]) Ly U U U)<|zd (aR.slot (t:=7) U (v8.agg (.cons (.refl _) (.cons (.nil 3) (.cons (.refl _) (.cons (.refl _) (.cons (.refl _) (.cons (.refl _) (.cons (.refl _) .nil)))))))))<|zx (rows:=[[_,_,_,_,_,_,_]]) Kd U U U U U<|z8 (zz (cps:=[(0,[_]),(2,[_])]) (rs:=[_,.n,_]) Io U U U)<|zd (aR.slot (t:=9) U (v8.agg (.cons (.refl _) (.cons (.nil 1) (.cons (.refl _) .nil)))))<|zu (cs:=[.n,.n,.n]) zeroValue26 U U<|fun i1=>zj ji U U U U U U .head U<|zd (y8 (t:=1) U .head)<|z2<|ae<|ac Z0 ji U U<|z8 (zz (cps:=[(0,[_]),(1,[_])]) (rs:=[_,_]) mL U U U)<|zx (rows:=[[_,_]]) Bf U U U U U<|ze (ha) U<|aq U<|z7 U U U<|ac Z0 ji U U<|z7 U U U<|z8 (zz (cps:=[(0,[_]),(1,[_])]) (rs:=[_,_]) mL U U U)<|z7 U U U<|zx (rows:=[[_,_]]) Bf U U U U U<|z7 U U U<|ze (hb) U<|au U U U<|aq U<|z7 U U U<|ac Z0 ji U U<|z7 U U U<|z8 (zz (cps:=[(0,[_]),(1,[_])]) (rs:=[_,_]) mL U U U) ?_
 refine z7 U U U<|zx (rows:=[[_,_]]) Bf U U U U U<|z7 U U U<|ze (hc) U<|z7 U U U<|aJ U<|au U U U<|ad U<|z2<|zg<|zm (x:=.bool _) U ?_
 rfl
end
section
open Go.Proofs.Tryz
structure Lz where
 a:Int
 b:Int
 c:Int
def jn (l:List (Option Int)) (v:Int):Option Int:=(l[v.toNat]?).join
def Co:Int:=1152921504606846976
def LA (n:Nat) (v:Int):Prop:=0≤v∧v<n
def Kh (n:Nat) (q:Lz):Prop:=LA n q.a∧LA n q.b
end
section
open Go.Proofs.Tryz
end
section
open Go.Proofs.Tryz
section
variable {n:Nat} {rule:List bh→Int→bh} {vs:List Int} {phi:Int→Prop} {rank:Int→Nat}
end
section
variable {n:Nat} {rule:List bh→Int→bh} {vs:List Int} {phi:Int→Prop} {t:Int→bh}
end
end
section
open Go.Proofs.Tryz
structure GS where
 ints:List Int
 bools:List Bool
 arrs:List Int
 arrays:List (List Int)
 blk:Int
 pc:Nat
 en:Int
 val:Int
 tr:Int
 trace:List Int
 st:Nat
 ck:Nat→Nat
 ended:Bool
structure Bh where
 int:Int
 b:Bool
 arr:Int
structure uL where
 args:List Bh
 arrays:List (List Int)
def vi (l:List Int) (v:Int):Int:=(l[v.toNat]?).getD 0
def dq (x:aB):Int:=(x.args[0]?).getD 0
def eU (x:aB):Int:=(x.args[1]?).getD 0
def Aa (x:aB):Int:=(x.args[2]?).getD 0
def cY (s:GS) (a:Int):List Int:=(s.arrays[a.toNat]?).getD []
def dv (s:GS) (a i:Int):Bool:=decide (0≤a∧a<s.arrays.length∧0≤i∧i<(cY s a).length)
def wn (l:List Int) (ints:List Int):Int:=if 1<l.length then vi ints ((l[1]?).getD 0) else 0
def fp (s:GS) (op:Int) (l:List Int):Bool:=
 if op=18 then dv s (vi s.arrs ((l[0]?).getD 0)) (wn l s.ints)
 else if op=19 then decide (0≤vi s.arrs ((l[0]?).getD 0))
 else if op=20 then decide (vi s.ints ((l[0]?).getD 0)≠0)
 else if op=21 then decide (dk 0 (vi s.ints ((l[0]?).getD 0)) (wn l s.ints))
 else if op=22 then decide (dk 1 (vi s.ints ((l[0]?).getD 0)) (wn l s.ints))
 else if op=23 then decide (dk 2 (vi s.ints ((l[0]?).getD 0)) (wn l s.ints))
 else decide (0≤vi s.ints ((l[0]?).getD 0)∧vi s.ints ((l[0]?).getD 0)≤64)
def mS (s:GS) (t:Nat):GS:={ s with ck:=fun i=>if i=t then s.ck i+1 else s.ck i }
def dO (s:GS) (e:Int):GS:={ s with en:=e,ended:=true }
def FU (s:GS) (t:Int):GS:={ s with en:=1,tr:=t,ended:=true }
def stI (s:GS) (d v:Int):GS:={ s with ints:=s.ints.set d.toNat v }
def stB (s:GS) (d:Int) (v:Bool):GS:={ s with bools:=s.bools.set d.toNat v }
def stA (s:GS) (d v:Int):GS:={ s with arrs:=s.arrs.set d.toNat v }
def tQ (a b:Int):Int:=IntKind.i64.wrap (a.tdiv b)
def o5 (a b:Int):Int:=if b=-1 then 0 else IntKind.i64.wrap (a - IntKind.i64.wrap (IntKind.i64.wrap (a.tdiv b)*b))
def aG (s:GS) (x:aB):Int:=vi s.ints (dq x)
def bG (s:GS) (x:aB):Int:=vi s.ints (eU x)
def pG (s:GS) (x:aB):Bool:=gb s.bools (dq x)
def qG (s:GS) (x:aB):Bool:=gb s.bools (eU x)
def rG (s:GS) (x:aB):Int:=vi s.arrs (dq x)
def doG (s:GS) (x:aB):GS:=
 if x.op=0 then stI s x.dst x.num
 else if x.op=1∨x.op=25∨x.op=26 then stA (stB (stI s x.dst (aG s x)) x.dst (pG s x)) x.dst (rG s x)
 else if x.op=2 then stI s x.dst (IntKind.i64.wrap (gP 0 (aG s x) (bG s x)))
 else if x.op=3 then stI s x.dst (IntKind.i64.wrap (gP 1 (aG s x) (bG s x)))
 else if x.op=4 then stI s x.dst (IntKind.i64.wrap (gP 2 (aG s x) (bG s x)))
 else if x.op=5 then (if bG s x=0 then dO s 2 else stI s x.dst (tQ (aG s x) (bG s x)))
 else if x.op=6 then (if bG s x=0 then dO s 2 else stI s x.dst (o5 (aG s x) (bG s x)))
 else if x.op=7 then stB s x.dst (decide (aG s x=bG s x))
 else if x.op=8 then stB s x.dst (decide (aG s x<bG s x))
 else if x.op=9 then stB s x.dst (decide (aG s x≤bG s x))
 else if x.op=10 then stB s x.dst (!pG s x)
 else if x.op=11 then stB s x.dst (pG s x&&qG s x)
 else if x.op=12 then (if rG s x<0 then dO s 2 else stI s x.dst ((cY s (rG s x)).length))
 else if x.op=13 then (if dv s (rG s x) (bG s x)=true then stI s x.dst (vi (cY s (rG s x)) (bG s x)) else dO s 2)
 else if x.op=14 then (if dv s (rG s x) (bG s x)=true then { s with arrays:=s.arrays.set (rG s x).toNat ((cY s (rG s x)).set (bG s x).toNat (vi s.ints (Aa x))) } else dO s 2)
 else if x.op=15 then (if aG s x<0∨64<aG s x then dO s 2 else if 32≤s.arrays.length then dO s 3 else stA { s with arrays:=s.arrays++[List.replicate (aG s x).toNat 0] } x.dst s.arrays.length)
 else if x.op=16 then stA s x.dst (-1)
 else (if 4096≤s.trace.length then dO s 3 else { s with trace:=s.trace++[aG s x] })
def ba (s:GS) (x:aB):GS:=
 if 18≤x.op∧x.op≤24 then (if fp s x.op x.args=true then mS s (x.op - 17).toNat else FU (mS s (x.op - 17).toNat) (x.op - 17))
 else doG s x
def aQ (f:ab) (b:Int):aK:=(f.blocks[b.toNat]?).getD ⟨⟨#[]⟩,[],[],⟨2,0,0,0⟩⟩
def da (p:cZ) (b:Int):Int:=((p.from_.zip p.args).find? fun q=>decide (q.1=b)).elim (-1) (·.2)
def assign (s t:GS) (p:cZ):GS:=stA (stB (stI t p.dst (vi s.ints (da p s.blk))) p.dst (gb s.bools (da p s.blk))) p.dst (vi s.arrs (da p s.blk))
def goG (s:GS) (dst_:Int):GS:={ s with blk:=dst_,pc:=0 }
def fa (f:ab) (s:GS) (dst_:Int):GS:=
 if (aQ f dst_).phis.all (fun p=>decide (0≤da p s.blk))=true then goG ((aQ f dst_).phis.foldl (assign s) s) dst_ else dO (goG s dst_) 2
def fJ (f:ab) (s:GS):Int:=if (aQ f s.blk).term.kind=0∨gb s.bools (aQ f s.blk).term.var=true then (aQ f s.blk).term.to0 else (aQ f s.blk).term.to1
def bu (f:ab) (s:GS):GS:=
 match (aQ f s.blk).insts[s.pc]? with
 |some x=>ba { s with pc:=s.pc+1,st:=s.st+1 } x
 |none=>if (aQ f s.blk).term.kind=2 then dO { s with st:=s.st+1,val:=vi s.ints (aQ f s.blk).term.var } 0 else fa f { s with st:=s.st+1 } (fJ f s)
def mD (f:ab) (i:Nat):Int:=((f.vars[i]?).map (·.ty)).getD 0
def tR (f:ab) (i:Nat) (a:Bh):Int:=if mD f i=0 then a.int else 0
def tS (f:ab) (i:Nat) (a:Bh):Bool:=if mD f i=0 then false else if mD f i=1 then a.b else false
def sy (f:ab) (i:Nat) (a:Bh):Int:=if mD f i=0 then -1 else if mD f i=1 then -1 else a.arr
def d7 {α β:Type} (g:Nat→α→β) (d:β) (n:Nat) (l:List α):List β:=l.zipIdx.map (fun q=>g q.2 q.1)++List.replicate (n - l.length) d
def kw (f:ab) (i:uL):GS:=⟨d7 (tR f) 0 f.vars.length i.args,d7 (tS f) false f.vars.length i.args,d7 (sy f) (-1) f.vars.length i.args,i.arrays,0,0,3,0,0,[],0,fun _=>0,false⟩
structure bA (f:ab) (s:GS):Prop where
 li:s.ints.length=f.vars.length
 lb:s.bools.length=f.vars.length
 la:s.arrs.length=f.vars.length
 i64:∀x∈s.ints,bg x
 arr:∀x∈s.arrs,-1≤x∧x<s.arrays.length
 ls:s.arrays.length≤40
 lr:∀r∈s.arrays,r.length≤100
 r64:∀r∈s.arrays,∀x∈r,bg x
 lt:s.trace.length≤4096
 b0:0≤s.blk
 b1:s.blk<f.blocks.length
 pc:s.pc≤(aQ f s.blk).insts.length
theorem fR {l:List Int} {v:Int} (h1:v<l.length) (h0:0≤v):l[v.toNat]?=some (vi l v):=by
 unfold vi;rw[qx (by omega)];rfl
theorem Ki {l:List Int} {v:Int} (h1:v<l.length) (h0:0≤v):vi l v∈l:=w9 (fR h1 h0)
theorem mT {l:List Int} {v:Int} (h:∀x∈l,bg x):bg (vi l v):=by
 unfold vi
 cases e:l[v.toNat]? with
 |none=>exact ⟨by decide,by decide⟩
 |some x=>exact h x (w9 e)
theorem iF {s:GS} {a:Int} (h0:0≤a) (h1:a<s.arrays.length):s.arrays[a.toNat]?=some (cY s a):=by
 unfold cY;rw[qx (by omega)];rfl
theorem oc {s:GS} {a:Int} (h0:0≤a) (h1:a<s.arrays.length):cY s a∈s.arrays:=w9 (iF h0 h1)
theorem gM {α:Type} {l:List α} {n:Nat} {a x:α} (h:x∈l.set n a):x∈l∨x=a:=List.mem_or_eq_of_mem_set h
theorem bA.stI {f:ab} {s:GS} (h:bA f s) {d v:Int} (hv:bg v):bA f (stI s d v):=
 ⟨by simp[Go.Proofs.YtbbonnfjealmpaaGreatDoor.stI,h.li],h.lb,h.la,fun x hx=>(gM hx).elim (h.i64 x) (fun e=>e▸hv),h.arr,h.ls,h.lr,h.r64,h.lt,h.b0,h.b1,h.pc⟩
theorem bA.stB {f:ab} {s:GS} (h:bA f s) {d:Int} {v:Bool}:bA f (stB s d v):=
 ⟨h.li,by simp[Go.Proofs.YtbbonnfjealmpaaGreatDoor.stB,h.lb],h.la,h.i64,h.arr,h.ls,h.lr,h.r64,h.lt,h.b0,h.b1,h.pc⟩
theorem bA.stA {f:ab} {s:GS} (h:bA f s) {d v:Int} (hv:-1≤v∧v<s.arrays.length):bA f (stA s d v):=
 ⟨h.li,h.lb,by simp[Go.Proofs.YtbbonnfjealmpaaGreatDoor.stA,h.la],h.i64,fun x hx=>(gM hx).elim (h.arr x) (fun e=>e▸hv),h.ls,h.lr,h.r64,h.lt,h.b0,h.b1,h.pc⟩
theorem bA.stop {f:ab} {s:GS} (h:bA f s) (e:Int):bA f (dO s e):=⟨h.li,h.lb,h.la,h.i64,h.arr,h.ls,h.lr,h.r64,h.lt,h.b0,h.b1,h.pc⟩
theorem bA.trap {f:ab} {s:GS} (h:bA f s) (t:Int):bA f (FU s t):=⟨h.li,h.lb,h.la,h.i64,h.arr,h.ls,h.lr,h.r64,h.lt,h.b0,h.b1,h.pc⟩
theorem bA.bump {f:ab} {s:GS} (h:bA f s) (t:Nat):bA f (mS s t):=⟨h.li,h.lb,h.la,h.i64,h.arr,h.ls,h.lr,h.r64,h.lt,h.b0,h.b1,h.pc⟩
theorem Kj {f:ab} {s:GS} (h:bA f s) {v:Int} (h1:v<f.vars.length) (h0:0≤v):-1≤vi s.arrs v∧vi s.arrs v<s.arrays.length:=
 h.arr _ (Ki (by rw[h.la];exact h1) h0)
theorem iG {f:ab} {s:GS} (h:bA f s) {v:Int} (hn:v<f.vars.length∧0≤v):-1≤vi s.arrs v∧vi s.arrs v<s.arrays.length:=Kj h hn.1 hn.2
theorem kx {s:GS} {a i:Int}:dv s a i=true↔0≤a∧a<s.arrays.length∧0≤i∧i<(cY s a).length:=by unfold dv;rw[wm]
theorem qF (x:Int):bg (IntKind.i64.wrap x):=by
 rw[kN];unfold bg;omega
theorem Kk (a b:Int):bg (o5 a b):=by
 unfold o5;split
 ·exact ⟨by decide,by decide⟩
 ·exact qF _
theorem bN {f:ab} {v:Int} (h:bt f v=true):v<f.vars.length∧0≤v:=by
 unfold bt at h;simp at h;exact ⟨h.2,h.1⟩
theorem dC.a0 {f:ab} {x:aB} (h:dC f x) (hl:0<x.args.length):dq x<f.vars.length∧0≤dq x:=by
 unfold dq;rw[qx hl];exact bN (h.args _ (w3 hl))
theorem dC.a1 {f:ab} {x:aB} (h:dC f x) (hl:1<x.args.length):eU x<f.vars.length∧0≤eU x:=by
 unfold eU;rw[qx hl];exact bN (h.args _ (w3 hl))
theorem dC.a2 {f:ab} {x:aB} (h:dC f x) (hl:2<x.args.length):Aa x<f.vars.length∧0≤Aa x:=by
 unfold Aa;rw[qx hl];exact bN (h.args _ (w3 hl))
theorem Kl:∀j:Nat,j<27→(aX (j:Int)).length=([0,1,2,2,2,2,2,2,2,2,1,2,1,2,3,1,0,1,2,1,1,2,2,2,1,2,2][j]?).getD 0:=by decide
theorem dC.argc {f:ab} {x:aB} (h:dC f x):x.args.length=([0,1,2,2,2,2,2,2,2,2,1,2,1,2,3,1,0,1,2,1,1,2,2,2,1,2,2][x.op.toNat]?).getD 0:=by
 have h1:=h.op
 obtain ⟨j,e⟩:∃j:Nat,x.op=(j:Int):=⟨x.op.toNat,by omega⟩
 rw[h.len,e,Kl j (by omega),Int.toNat_natCast]
theorem Bi:∀j:Nat,j<27→bE (j:Int)=([true,true,true,true,true,true,true,true,true,true,true,true,true,true,false,true,true,false,false,false,false,false,false,false,false,true,true][j]?).getD false:=by decide
theorem dC.made {f:ab} {x:aB} (h:dC f x) (hm:([true,true,true,true,true,true,true,true,true,true,true,true,true,true,false,true,true,false,false,false,false,false,false,false,false,true,true][x.op.toNat]?).getD false=true):x.dst<f.vars.length∧0≤x.dst:=by
 have h1:=h.op
 obtain ⟨j,e⟩:∃j:Nat,x.op=(j:Int):=⟨x.op.toNat,by omega⟩
 rw[e,Int.toNat_natCast,←Bi j (by omega),←e] at hm
 rcases h.dst with g|g
 ·rw[g.1] at hm;cases hm
 ·exact bN g.2.2
theorem bA.doG {f:ab} {s:GS} (h:bA f s) {x:aB} (hx:dC f x) (h64:bg x.num):bA f (doG s x):=by
 have hc:=hx.argc
 have st:∀e,bA f (dO s e):=h.stop
 have wr:∀d v,bA f (Go.Proofs.YtbbonnfjealmpaaGreatDoor.stI s d (IntKind.i64.wrap v)):=fun _ _=>h.stI (qF _)
 have bo:∀d v,bA f (Go.Proofs.YtbbonnfjealmpaaGreatDoor.stB s d v):=fun _ _=>h.stB
 unfold Go.Proofs.YtbbonnfjealmpaaGreatDoor.doG
 by_cases e:x.op=0
 ·rw[if_pos e];exact h.stI h64
 rw[if_neg e];clear e
 by_cases e:x.op=1∨x.op=25∨x.op=26
 ·rw[if_pos e]
  refine bA.stA (s:=Go.Proofs.YtbbonnfjealmpaaGreatDoor.stB (Go.Proofs.YtbbonnfjealmpaaGreatDoor.stI s x.dst (aG s x)) x.dst (pG s x)) (h.stI (mT h.i64)).stB ?_
  exact iG h (hx.a0 (by rcases e with e|e|e<;>(rw[e] at hc;rw[hc];decide)))
 rw[if_neg e];clear e
 by_cases e:x.op=2
 ·rw[if_pos e];exact wr _ _
 rw[if_neg e];clear e
 by_cases e:x.op=3
 ·rw[if_pos e];exact wr _ _
 rw[if_neg e];clear e
 by_cases e:x.op=4
 ·rw[if_pos e];exact wr _ _
 rw[if_neg e];clear e
 by_cases e:x.op=5
 ·rw[if_pos e]
  split
  ·exact st 2
  ·exact wr _ _
 rw[if_neg e];clear e
 by_cases e:x.op=6
 ·rw[if_pos e]
  split
  ·exact st 2
  ·exact h.stI (Kk _ _)
 rw[if_neg e];clear e
 by_cases e:x.op=7
 ·rw[if_pos e];exact bo _ _
 rw[if_neg e];clear e
 by_cases e:x.op=8
 ·rw[if_pos e];exact bo _ _
 rw[if_neg e];clear e
 by_cases e:x.op=9
 ·rw[if_pos e];exact bo _ _
 rw[if_neg e];clear e
 by_cases e:x.op=10
 ·rw[if_pos e];exact bo _ _
 rw[if_neg e];clear e
 by_cases e:x.op=11
 ·rw[if_pos e];exact bo _ _
 rw[if_neg e];clear e
 by_cases e:x.op=12
 ·rw[if_pos e]
  split
  ·exact st 2
  ·rename_i hr
   have hl:=h.lr _ (oc (by omega) (iG h (hx.a0 (by rw[e] at hc;rw[hc];decide))).2:cY s (rG s x)∈s.arrays)
   exact h.stI ⟨by omega,by omega⟩
 rw[if_neg e];clear e
 by_cases e:x.op=13
 ·rw[if_pos e]
  split
  ·rename_i hp
   obtain ⟨h1,h2,_⟩:=kx.1 hp
   exact h.stI (mT (h.r64 _ (oc h1 h2)))
  ·exact st 2
 rw[if_neg e];clear e
 by_cases e:x.op=14
 ·rw[if_pos e]
  split
  ·rename_i hp
   obtain ⟨h1,h2,_⟩:=kx.1 hp
   refine ⟨h.li,h.lb,h.la,h.i64,fun y hy=>by simpa using h.arr y hy,by simpa using h.ls,fun r hr=>?_,fun r hr=>?_,h.lt,h.b0,h.b1,h.pc⟩
   ·rcases gM hr with hr|hr
    ·exact h.lr r hr
    ·rw[hr,List.length_set];exact h.lr _ (oc h1 h2)
   ·rcases gM hr with hr|hr
    ·exact h.r64 r hr
    ·intro y hy
     rw[hr] at hy
     rcases gM hy with hy|hy
     ·exact h.r64 _ (oc h1 h2) y hy
     ·rw[hy];exact mT h.i64
  ·exact st 2
 rw[if_neg e];clear e
 by_cases e:x.op=15
 ·rw[if_pos e]
  split
  ·exact st 2
  ·rename_i ha
   split
   ·exact st 3
   ·rename_i hs
    refine bA.stA (s:={ s with arrays:=s.arrays++[List.replicate (aG s x).toNat 0] }) ⟨h.li,h.lb,h.la,h.i64,fun y hy=>?_,?_,fun r hr=>?_,fun r hr=>?_,h.lt,h.b0,h.b1,h.pc⟩ ?_
    ·have:=h.arr y hy
     simp only[w5,List.length_singleton];omega
    ·simp only[w5,List.length_singleton];omega
    ·rcases List.mem_append.1 hr with hr|hr
     ·exact h.lr r hr
     ·rw[List.mem_singleton.1 hr,List.length_replicate];omega
    ·rcases List.mem_append.1 hr with hr|hr
     ·exact h.r64 r hr
     ·intro y hy
      rw[List.mem_singleton.1 hr] at hy
      rw[(List.mem_replicate.1 hy).2];exact ⟨by decide,by decide⟩
    ·simp only[w5,List.length_singleton];omega
 rw[if_neg e];clear e
 by_cases e:x.op=16
 ·rw[if_pos e];exact h.stA ⟨by omega,by omega⟩
 rw[if_neg e];clear e
 split
 ·exact st 3
 ·rename_i ht
  exact ⟨h.li,h.lb,h.la,h.i64,h.arr,h.ls,h.lr,h.r64,by simp only[w5,List.length_singleton];omega,h.b0,h.b1,h.pc⟩
theorem bA.inst {f:ab} {s:GS} (h:bA f s) {x:aB} (hx:dC f x) (h64:bg x.num):bA f (ba s x):=by
 unfold ba
 split
 ·split
  ·exact h.bump _
  ·exact (h.bump _).trap _
 ·exact h.doG hx h64
structure o6 (f:ab):Prop where
 pos:0<f.blocks.length
 phis:∀b∈f.blocks,∀p∈b.phis,vt f p
 insts:∀b∈f.blocks,∀x∈b.insts,dC f x∧bg x.num
 term:∀b∈f.blocks,bJ f b.term=true
theorem eO {f:ab} {b:Int} (h0:0≤b) (h1:b<f.blocks.length):f.blocks[b.toNat]?=some (aQ f b):=by
 unfold aQ;rw[qx (by omega)];rfl
theorem dU {f:ab} {b:Int} (h0:0≤b) (h1:b<f.blocks.length):aQ f b∈f.blocks:=w9 (eO h0 h1)
theorem o7 {p:cZ} {b:Int} (h:0≤da p b):da p b∈p.args:=by
 unfold da at h ⊢
 cases e:(p.from_.zip p.args).find? fun q=>decide (q.1=b) with
 |none=>rw[e] at h;simp at h
 |some q=>exact (List.of_mem_zip (List.mem_of_find?_eq_some e)).2
theorem bA.assign {f:ab} {s t:GS} (h:bA f s) (ht:bA f t) (ha:t.arrays=s.arrays) {p:cZ} (hp:vt f p) (h0:0≤da p s.blk):bA f (assign s t p)∧(assign s t p).arrays=s.arrays:=by
 have hv:=bN (List.all_eq_true.1 hp.2.2.2.1 _ (o7 h0))
 refine ⟨bA.stA (s:=Go.Proofs.YtbbonnfjealmpaaGreatDoor.stB (Go.Proofs.YtbbonnfjealmpaaGreatDoor.stI t p.dst _) p.dst _) (ht.stI (mT h.i64)).stB ?_,ha⟩
 show _∧_<(t.arrays.length:Int)
 rw[ha];exact iG h hv
theorem bA.assigns {f:ab} {s:GS} (h:bA f s):∀(l:List cZ) (t:GS),bA f t→t.arrays=s.arrays→(∀p∈l,vt f p∧0≤da p s.blk)→bA f (l.foldl (Go.Proofs.YtbbonnfjealmpaaGreatDoor.assign s) t)
 |[],t,ht,_,_=>ht
 |p::l,t,ht,ha,hl=>by
  obtain ⟨h1,h2⟩:=h.assign ht ha (hl p (.head _)).1 (hl p (.head _)).2
  exact h.assigns l _ h1 h2 fun q hq=>hl q (.tail _ hq)
theorem bA.goG {f:ab} {s:GS} (h:bA f s) {dst_:Int} (h0:0≤dst_) (h1:dst_<f.blocks.length):bA f (goG s dst_):=⟨h.li,h.lb,h.la,h.i64,h.arr,h.ls,h.lr,h.r64,h.lt,h0,h1,w2 _⟩
theorem bA.enter {f:ab} {s:GS} (hR:o6 f) (h:bA f s) {dst_:Int} (h0:0≤dst_) (h1:dst_<f.blocks.length):bA f (fa f s dst_):=by
 unfold fa
 split
 ·rename_i ha
  exact (h.assigns _ s h rfl fun p hp=>⟨hR.phis _ (dU h0 h1) p hp,wk (List.all_eq_true.1 ha p hp)⟩).goG h0 h1
 ·exact (h.goG h0 h1).stop 2
theorem vK {f:ab} {t:fg} (h:bJ f t=true) (hk:¬t.kind=2):(0≤t.to0∧t.to0<f.blocks.length)∧(¬t.kind=0→t.kind=1∧(0≤t.to1∧t.to1<f.blocks.length)):=by
 unfold bJ at h
 split at h
 ·rename_i e
  simp only[wh,eX,wm] at h
  exact ⟨h.1.1,fun g=>absurd e g⟩
 ·split at h
  ·rename_i e
   simp only[wh,eX,wm] at h
   exact ⟨h.1.2,fun _=>⟨e,h.2⟩⟩
  ·simp[hk] at h
theorem kZ {f:ab} (hR:o6 f) {s:GS} (h:bA f s) (hk:¬(aQ f s.blk).term.kind=2):0≤fJ f s∧fJ f s<f.blocks.length:=by
 have ht:=vK (hR.term _ (dU h.b0 h.b1)) hk
 unfold fJ
 split
 ·exact ht.1
 ·rename_i e
  exact (ht.2 fun g=>e (.inl g)).2
theorem bA.up {f:ab} {s:GS} (h:bA f s) (n:Nat) (v:Int):bA f { s with st:=n,val:=v }:=⟨h.li,h.lb,h.la,h.i64,h.arr,h.ls,h.lr,h.r64,h.lt,h.b0,h.b1,h.pc⟩
theorem bA.step {f:ab} (hR:o6 f) {s:GS} (h:bA f s):bA f (bu f s):=by
 unfold bu
 split
 ·rename_i x hx
  obtain ⟨hi,h64⟩:=hR.insts _ (dU h.b0 h.b1) x (w9 hx)
  obtain ⟨hp,_⟩:=List.getElem?_eq_some_iff.1 hx
  exact bA.inst (s:={ s with pc:=s.pc+1,st:=s.st+1 }) ⟨h.li,h.lb,h.la,h.i64,h.arr,h.ls,h.lr,h.r64,h.lt,h.b0,h.b1,hp⟩ hi h64
 ·split
  ·exact (h.up _ _).stop 0
  ·rename_i hk
   obtain ⟨h0,h1⟩:=kZ hR h hk
   exact bA.enter hR (s:={ s with st:=s.st+1 }) (h.up _ s.val) h0 h1
end
section
open Go.Proofs.Tryz
theorem g9 {α:Type} {P:α→Prop} {c:Prop} [Decidable c] {a b:α} (h1:c→P a) (h2:¬c→P b):P (if c then a else b):=by
 split
 ·exact h1 (by assumption)
 ·exact h2 (by assumption)
theorem Cp {P:GS→Prop} (s:GS) (x:aB) (h1:∀e,P (dO s e)) (h2:∀v,P (stI s x.dst v)) (h3:∀v,P (stB s x.dst v)) (h4:∀v,P (stA s x.dst v)) (h5:∀a b c,P (stA (stB (stI s x.dst a) x.dst b) x.dst c)) (h6:∀A,P { s with arrays:=A })
  (h7:∀A v,P (stA { s with arrays:=A } x.dst v)) (h8:∀t,P { s with trace:=t }):P (doG s x):=by
 unfold doG
 refine g9 (P:=P) (fun _=>h2 _) fun _=>g9 (P:=P) (fun _=>h5 _ _ _) fun _=>g9 (P:=P) (fun _=>h2 _) fun _=>g9 (P:=P) (fun _=>h2 _) fun _=>g9 (P:=P) (fun _=>h2 _) fun _=>
  g9 (P:=P) (fun _=>g9 (P:=P) (fun _=>h1 _) fun _=>h2 _) fun _=>g9 (P:=P) (fun _=>g9 (P:=P) (fun _=>h1 _) fun _=>h2 _) fun _=>g9 (P:=P) (fun _=>h3 _) fun _=>g9 (P:=P) (fun _=>h3 _) fun _=>g9 (P:=P) (fun _=>h3 _) fun _=>
  g9 (P:=P) (fun _=>h3 _) fun _=>g9 (P:=P) (fun _=>h3 _) fun _=>g9 (P:=P) (fun _=>g9 (P:=P) (fun _=>h1 _) fun _=>h2 _) fun _=>g9 (P:=P) (fun _=>g9 (P:=P) (fun _=>h2 _) fun _=>h1 _) fun _=>g9 (P:=P) (fun _=>g9 (P:=P) (fun _=>h6 _) fun _=>h1 _) fun _=>
  g9 (P:=P) (fun _=>g9 (P:=P) (fun _=>h1 _) fun _=>g9 (P:=P) (fun _=>h1 _) fun _=>h7 _ _) fun _=>g9 (P:=P) (fun _=>h4 _) fun _=>g9 (P:=P) (fun _=>h1 _) fun _=>h8 _
theorem Ip (s:GS) (x:aB):(ba s x).st=s.st:=by
 unfold ba
 split
 ·split<;>rfl
 ·exact Cp (P:=fun t=>t.st=s.st) s x (fun _=>rfl) (fun _=>rfl) (fun _=>rfl) (fun _=>rfl) (fun _ _ _=>rfl) (fun _=>rfl) (fun _ _=>rfl) (fun _=>rfl)
theorem Iq (s:GS) (x:aB) (i:Nat):(ba s x).ck i≤s.ck i+1:=by
 unfold ba
 split
 ·split
  ·show (if i=_ then s.ck i+1 else s.ck i)≤_
   split<;>omega
  ·show (if i=_ then s.ck i+1 else s.ck i)≤_
   split<;>omega
 ·exact Cp (P:=fun t=>t.ck i≤s.ck i+1) s x (fun _=>Nat.le_succ _) (fun _=>Nat.le_succ _) (fun _=>Nat.le_succ _) (fun _=>Nat.le_succ _) (fun _ _ _=>Nat.le_succ _) (fun _=>Nat.le_succ _) (fun _ _=>Nat.le_succ _) (fun _=>Nat.le_succ _)
theorem od (s:GS):∀(l:List cZ) (t:GS),(l.foldl (assign s) t).st=t.st∧(l.foldl (assign s) t).ck=t.ck∧(l.foldl (assign s) t).ended=t.ended
 |[],_=>⟨rfl,rfl,rfl⟩
 |p::l,t=>od s l (assign s t p)
theorem sC (f:ab) (s:GS) (dst_:Int):(fa f s dst_).st=s.st∧(fa f s dst_).ck=s.ck:=by
 unfold fa
 split
 ·obtain ⟨h1,h2,_⟩:=od s (aQ f dst_).phis s
  exact ⟨h1,h2⟩
 ·exact ⟨rfl,rfl⟩
theorem Ir (f:ab) (s:GS):(bu f s).st=s.st+1:=by
 unfold bu
 split
 ·rw[Ip]
 ·split
  ·rfl
  ·rw[(sC f _ _).1]
theorem Is (f:ab) (s:GS) (i:Nat):(bu f s).ck i≤s.ck i+1:=by
 unfold bu
 split
 ·exact Iq _ _ i
 ·split
  ·exact Nat.le_succ _
  ·rw[(sC f _ _).2];exact Nat.le_succ _
def fS (f:ab) (i:uL) (q:Bh × Nat):Bool:=decide (mD f q.2=2∧(q.1.arr < -1∨(i.arrays.length:Int)≤q.1.arr))
def ec (f:ab) (i:uL):Int:=if ¬i.args.length=f.params.length then 1 else if i.args.zipIdx.any (fS f i)=true then 1 else if 32<i.arrays.length then 4 else if i.arrays.any (fun r=>decide (64<r.length))=true then 4 else 0
def Bj (i:uL):Prop:=(∀a∈i.args,bg a.int)∧∀r∈i.arrays,∀x∈r,bg x
theorem yD {α β:Type} {g:Nat→α→β} {d:β} {n:Nat} {l:List α} {x:β} (h:x∈d7 g d n l):(∃j a,l[j]?=some a∧x=g j a)∨x=d:=by
 unfold d7 at h
 rcases List.mem_append.1 h with h|h
 ·obtain ⟨⟨a,j⟩,hm,rfl⟩:=List.mem_map.1 h
  exact .inl ⟨j,a,List.mk_mem_zipIdx_iff_getElem?.1 hm,rfl⟩
 ·exact .inr (List.mem_replicate.1 h).2
theorem bA.beg {f:ab} {i:uL} (hR:o6 f) (hp:f.params.length≤f.vars.length) (ht:∀j,0≤mD f j∧mD f j≤2) (h:ec f i=0) (h64:Bj i):bA f (kw f i)∧i.args.length≤f.vars.length:=by
 unfold ec at h
 split at h
 ·cases h
 rename_i h1
 split at h
 ·cases h
 rename_i h2
 split at h
 ·cases h
 rename_i h3
 split at h
 ·cases h
 rename_i h4
 have h1:i.args.length=f.params.length:=Classical.not_not.1 h1
 have hr:∀r∈i.arrays,r.length≤64:=fun r hr=>by
  refine Classical.byContradiction fun hn=>h4 (List.any_eq_true.2 ⟨r,hr,we (by omega)⟩)
 have hl:i.args.length≤f.vars.length:=by omega
 have hf:∀{β:Type} (g:Nat→Bh→β) (d:β),(d7 g d f.vars.length i.args).length=f.vars.length:=fun g d=>by unfold d7;simp;omega
 refine ⟨⟨hf _ _,hf _ _,hf _ _,fun x hx=>?_,fun x hx=>?_,by show i.arrays.length≤40;omega,fun r h=>Nat.le_trans (hr r h) (by omega),h64.2,w2 _,Int.le_refl _,by show (0:Int)<f.blocks.length;have:=hR.pos;omega,w2 _⟩,hl⟩
 ·rcases yD hx with ⟨j,a,ha,rfl⟩|rfl
  ·unfold tR;split
   ·exact h64.1 a (w9 ha)
   ·exact ⟨by decide,by decide⟩
  ·exact ⟨by decide,by decide⟩
 ·show _∧_<(i.arrays.length:Int)
  rcases yD hx with ⟨j,a,ha,rfl⟩|rfl
  ·unfold sy
   split
   ·exact ⟨by omega,by omega⟩
   split
   ·exact ⟨by omega,by omega⟩
   have:=ht j
   have hb:¬fS f i (a,j)=true:=fun hb=>h2 (List.any_eq_true.2 ⟨(a,j),w9 (i:=j) (by rw[List.getElem?_zipIdx,ha];simp),hb⟩)
   unfold fS at hb
   simp only[wm] at hb
   have h2':mD f j=2:=by omega
   omega
  ·exact ⟨by omega,by omega⟩
end
section
open Go.Proofs.Tryz
def V (s:GS) (v:Int):Int × Bool × Int:=(vi s.ints v,gb s.bools v,vi s.arrs v)
theorem lu {l:List Int} {d v x:Int} (h0:0≤d) (g0:0≤v) (hne:v≠d):vi (l.set d.toNat x) v=vi l v:=by
 unfold vi;rw[List.getElem?_set_ne (by omega)]
theorem iA {l:List Int} {d x:Int} (h0:0≤d) (h1:d<l.length):vi (l.set d.toNat x) d=x:=by
 unfold vi;rw[List.getElem?_set_self (by omega)];rfl
theorem sD {l:List Bool} {d v:Int} {x:Bool} (h0:0≤d) (g0:0≤v) (hne:v≠d):gb (l.set d.toNat x) v=gb l v:=by
 unfold gb;rw[List.getElem?_set_ne (by omega)]
theorem yE {l:List Bool} {d:Int} {x:Bool} (h0:0≤d) (h1:d<l.length):gb (l.set d.toNat x) d=x:=by
 unfold gb;rw[List.getElem?_set_self (by omega)];rfl
inductive Act where
 |stop (e:Int)
 |i (v:Int)
 |b (v:Bool)
 |a (v:Int)
 |all (v:Int × Bool × Int)
 |row (l:List (List Int))
 |new (l:List (List Int)) (v:Int)
 |out (l:List Int)
def Bk (s:GS) (d:Int):Act→GS
 |.stop e=>dO s e
 |.i v=>stI s d v
 |.b v=>stB s d v
 |.a v=>stA s d v
 |.all v=>stA (stB (stI s d v.1) d v.2.1) d v.2.2
 |.row l=>{ s with arrays:=l }
 |.new l v=>stA { s with arrays:=l } d v
 |.out l=>{ s with trace:=l }
def pW (s:GS) (x:aB):Act:=
 if x.op=0 then .i x.num
 else if x.op=1∨x.op=25∨x.op=26 then .all (aG s x,pG s x,rG s x)
 else if x.op=2 then .i (IntKind.i64.wrap (gP 0 (aG s x) (bG s x)))
 else if x.op=3 then .i (IntKind.i64.wrap (gP 1 (aG s x) (bG s x)))
 else if x.op=4 then .i (IntKind.i64.wrap (gP 2 (aG s x) (bG s x)))
 else if x.op=5 then (if bG s x=0 then .stop 2 else .i (tQ (aG s x) (bG s x)))
 else if x.op=6 then (if bG s x=0 then .stop 2 else .i (o5 (aG s x) (bG s x)))
 else if x.op=7 then .b (decide (aG s x=bG s x))
 else if x.op=8 then .b (decide (aG s x<bG s x))
 else if x.op=9 then .b (decide (aG s x≤bG s x))
 else if x.op=10 then .b (!pG s x)
 else if x.op=11 then .b (pG s x&&qG s x)
 else if x.op=12 then (if rG s x<0 then .stop 2 else .i ((cY s (rG s x)).length))
 else if x.op=13 then (if dv s (rG s x) (bG s x)=true then .i (vi (cY s (rG s x)) (bG s x)) else .stop 2)
 else if x.op=14 then (if dv s (rG s x) (bG s x)=true then .row (s.arrays.set (rG s x).toNat ((cY s (rG s x)).set (bG s x).toNat (vi s.ints (Aa x)))) else .stop 2)
 else if x.op=15 then (if aG s x<0∨64<aG s x then .stop 2 else if 32≤s.arrays.length then .stop 3 else .new (s.arrays++[List.replicate (aG s x).toNat 0]) s.arrays.length)
 else if x.op=16 then .a (-1)
 else (if 4096≤s.trace.length then .stop 3 else .out (s.trace++[aG s x]))
theorem It {s:GS} {d:Int} {c:Prop} [Decidable c] {p q:GS} {u v:Act} (h1:c→p=Bk s d u) (h2:¬c→q=Bk s d v):(if c then p else q)=Bk s d (if c then u else v):=by
 by_cases h:c
 ·rw[if_pos h,if_pos h];exact h1 h
 ·rw[if_neg h,if_neg h];exact h2 h
theorem o8 (s:GS) (x:aB):doG s x=Bk s x.dst (pW s x):=by
 unfold doG pW
 repeat' (first|rfl|refine It (fun _=>?_) (fun _=>?_))
structure FV (s t:GS) (x y:aB):Prop where
 op:x.op=y.op
 num:x.num=y.num
 a0:0<x.args.length→V s (dq x)=V t (dq y)
 a1:1<x.args.length→V s (eU x)=V t (eU y)
 a2:2<x.args.length→V s (Aa x)=V t (Aa y)
theorem FV.reads {s t:GS} {x y:aB} (h:FV s t x y):(0<x.args.length→aG s x=aG t y∧pG s x=pG t y∧rG s x=rG t y)∧(1<x.args.length→bG s x=bG t y∧qG s x=qG t y)∧(2<x.args.length→vi s.ints (Aa x)=vi t.ints (Aa y)):=
 ⟨fun hl=>by have:=h.a0 hl;unfold V at this;simp only[Prod.mk.injEq] at this;exact this,fun hl=>by have:=h.a1 hl;unfold V at this;simp only[Prod.mk.injEq] at this;exact ⟨this.1,this.2.1⟩,fun hl=>by have:=h.a2 hl;unfold V at this;simp only[Prod.mk.injEq] at this;exact this.1⟩
theorem yF {s t:GS} (ha:s.arrays=t.arrays) (a i:Int):dv s a i=dv t a i:=by unfold dv cY;rw[ha]
theorem DR {s t:GS} (ha:s.arrays=t.arrays) (a:Int):cY s a=cY t a:=by unfold cY;rw[ha]
set_option maxRecDepth 4000 in
theorem KM {f:ab} {s t:GS} {x y:aB} (hF:dC f x) (ho:¬(18≤x.op∧x.op≤24)) (h:FV s t x y) (ha:s.arrays=t.arrays) (htr:s.trace=t.trace):pW s x=pW t y:=by
 obtain ⟨r0,r1,r2⟩:=h.reads
 have hc:=hF.argc
 have hop:=hF.op
 unfold pW
 simp only[←h.op,←h.num,←yF ha,←DR ha,←ha,←htr]
 obtain ⟨j,hj⟩:∃j:Nat,x.op=(j:Int):=⟨x.op.toNat,by omega⟩
 rw[hj] at hc ho
 rw[hj]
 have:j=0∨j=1∨j=2∨j=3∨j=4∨j=5∨j=6∨j=7∨j=8∨j=9∨j=10∨j=11∨j=12∨j=13∨j=14∨j=15∨j=16∨j=17∨j=25∨j=26:=by omega
 rcases this with rfl|rfl|rfl|rfl|rfl|rfl|rfl|rfl|rfl|rfl|rfl|rfl|rfl|rfl|rfl|rfl|rfl|rfl|rfl|rfl
 all_goals
  have hc:x.args.length=_:=hc
  simp only[Int.toNat_natCast,List.getElem?_cons_zero,List.getElem?_cons_succ,Option.getD_some] at hc
  first
  |(rw[(r0 (by omega)).1,(r0 (by omega)).2.1,(r0 (by omega)).2.2,(r1 (by omega)).1,(r1 (by omega)).2,r2 (by omega)];done)
  |(rw[(r0 (by omega)).1,(r0 (by omega)).2.1,(r0 (by omega)).2.2,(r1 (by omega)).1,(r1 (by omega)).2];done)
  |(simp[(r0 (by omega)).1,(r0 (by omega)).2.1,(r0 (by omega)).2.2,(r1 (by omega)).1,(r1 (by omega)).2,r2 (by omega)];done)
  |(simp[(r0 (by omega)).1,(r0 (by omega)).2.1,(r0 (by omega)).2.2,(r1 (by omega)).1,(r1 (by omega)).2];done)
  |(simp[(r0 (by omega)).1,(r0 (by omega)).2.1,(r0 (by omega)).2.2];done)
  |simp
theorem vL {s:GS} {d:Int} {A:Act} {v:Int} (h:0≤d) (h0:0≤v) (hne:v≠d):V (Bk s d A) v=V s v:=by
 cases A<;>unfold V Bk<;>simp only[dO,stI,stB,stA,lu h h0 hne,sD h h0 hne]
theorem DS {f:ab} {s:GS} {x:aB} (hF:dC f x) (ho:¬(18≤x.op∧x.op≤24)) (hd:x.dst<0):(∃e,pW s x=.stop e)∨(∃l,pW s x=.row l)∨∃l,pW s x=.out l:=by
 have hop:=hF.op
 obtain ⟨j,hj⟩:∃j:Nat,x.op=(j:Int):=⟨x.op.toNat,by omega⟩
 have hm:bE x.op=false:=by
  rcases hF.dst with h|⟨_,_,h⟩
  ·exact h.1
  ·have:=(bN h).2;omega
 rw[hj,Bi j (by omega)] at hm
 have:j=14∨j=17:=by
  rw[hj] at ho
  have:j=0∨j=1∨j=2∨j=3∨j=4∨j=5∨j=6∨j=7∨j=8∨j=9∨j=10∨j=11∨j=12∨j=13∨j=14∨j=15∨j=16∨j=17∨j=25∨j=26:=by omega
  rcases this with h|h|h|h|h|h|h|h|h|h|h|h|h|h|h|h|h|h|h|h
  all_goals (subst h;first|(exact absurd hm (by decide))|omega)
 unfold pW
 rw[hj]
 rcases this with rfl|rfl
 ·simp;by_cases h:dv s (rG s x) (bG s x)=true<;>simp[h]
 ·simp;by_cases h:4096≤s.trace.length<;>simp[h]
theorem Iu {s:GS} {d:Int} {A:Act} (h:(∃e,A=.stop e)∨(∃l,A=.row l)∨∃l,A=.out l) (v:Int):V (Bk s d A) v=V s v:=by
 rcases h with ⟨_,rfl⟩|⟨_,rfl⟩|⟨_,rfl⟩<;>rfl
theorem ny (s t:GS) (p:cZ):assign s t p=Bk t p.dst (.all (V s (da p s.blk))):=rfl
theorem FW {s t:GS} {p:cZ} {n:Nat} (h0:0≤p.dst) (h1:p.dst<n) (l:t.ints.length=n∧t.bools.length=n∧t.arrs.length=n):V (assign s t p) p.dst=V s (da p s.blk):=by
 rw[ny]
 unfold V Bk
 simp only[stI,stB,stA]
 rw[iA h0 (by omega),yE h0 (by omega),iA h0 (by omega)]
end
section
open Go.Proofs.Tryz
def LB (op:Int):Bool:=decide (op=0∨(2≤op∧op≤12)∨op=16)
def LC (op:Int):Bool:=decide (op=2∨op=4∨op=7∨op=11)
def yG (r:Int→Int) (x:aB):aB:=⟨x.op,x.dst,x.args.map r,x.num⟩
def FX (x y:aB):Bool:=LB x.op&&(decide (x.op=y.op∧x.num=y.num)&&(decide (x.args=y.args)||(LC x.op&&(decide (x.args.length=2)&&decide (x.args=y.args.reverse)))))
def sE (f:ab) (i k:Nat) (x:aB):Prop:=∃b,f.blocks[i]?=some b∧b.insts[k]?=some x
def k4 (f:ab) (i k:Nat) (x:aB):Prop:=sE f i k x∧LB x.op=true
def jD (f:ab) (i' k' i k:Nat):Prop:=bM f ((i':Int),(k':Int)) i k
theorem sE.one {f:ab} {i k:Nat} {x y:aB} (h:sE f i k x) (g:sE f i k y):x=y:=by
 obtain ⟨b,h1,h2⟩:=h
 obtain ⟨c,g1,g2⟩:=g
 rw[h1] at g1
 cases Option.some.inj g1
 rw[h2] at g2
 exact Option.some.inj g2
structure LD (f:ab) (r:Int→Int):Prop where
 id:∀v,(∀i k x,k4 f i k x→x.dst≠v)→r v=v
 rt:∀i k y,k4 f i k y→r y.dst=y.dst∨∃i' k' x,k4 f i' k' x∧jD f i' k' i k∧r x.dst=x.dst∧r y.dst=x.dst∧FX (yG r x) (yG r y)=true
 no:∀i k y i' k' x,k4 f i k y→k4 f i' k' x→jD f i' k' i k→r x.dst=x.dst→r y.dst=y.dst→FX (yG r x) (yG r y)=false
structure Mu (f:ab) (rk:Nat→Nat→Nat):Prop where
 less:∀i k y i' k' x,k4 f i k y→k4 f i' k' x→jD f i' k' i k→rk i' k'<rk i k
 arg:∀i k y a i' k' x,k4 f i k y→a∈y.args→k4 f i' k' x→x.dst=a→jD f i' k' i k
 total:∀i k y i1 k1 x1 i2 k2 x2,k4 f i k y→k4 f i1 k1 x1→k4 f i2 k2 x2→jD f i1 k1 i k→jD f i2 k2 i k→jD f i1 k1 i2 k2∨jD f i2 k2 i1 k1∨(i1=i2∧k1=k2)
 trans:∀i k y i1 k1 x1 i2 k2 x2,k4 f i k y→k4 f i1 k1 x1→k4 f i2 k2 x2→jD f i1 k1 i2 k2→jD f i2 k2 i k→jD f i1 k1 i k
 made:∀i k y i1 k1 x1,k4 f i k y→k4 f i1 k1 x1→x1.dst=y.dst→i1=i∧k1=k
end
section
open Go.Proofs.Tryz
theorem cG {E:Int→List Int} {n:Nat} (hG:fP E n) {a b:Int} (h:gC E a b) (k:gC E b a):a=b:=by
 have hb:b∈aH E n:=(bQ hG.toEOk b).2 h.1
 have ha:a∈aH E n:=(bQ hG.toEOk a).2 k.1
 have l1:=hG.lev_anc hb ((hG.dom_iff hb).1 h)
 have l2:=hG.lev_anc ha ((hG.dom_iff ha).1 k)
 exact l1.2.2 l2.2.1
def Av (f:ab) (b k:Int) (v:Int):Prop:=bM f (aD f v) b k
section
variable {f:ab} (hE:cg f)
include hE
theorem KN {m p:km} (h1:bM f m p.1 p.2) (h2:bM f p m.1 m.2) (h0:0≤m.1) (g0:0≤p.1):False:=by
 rcases h1 with h1|⟨e1,l1⟩|⟨_,n1,d1⟩
 ·omega
 ·rcases h2 with h2|⟨e2,l2⟩|⟨_,n2,d2⟩
  ·omega
  ·omega
  ·exact n2 e1.symm
 ·rcases h2 with h2|⟨e2,l2⟩|⟨_,n2,d2⟩
  ·omega
  ·exact n1 e2.symm
  ·exact n1 (cG hE.grph d1 d2)
theorem fq {m p:km} {b k:Int} (h1:bM f m p.1 p.2) (h2:bM f p b k) (g0:0≤p.1):bM f m b k:=by
 rcases h1 with h1|⟨e1,l1⟩|⟨h0,n1,d1⟩
 ·exact .inl h1
 ·rcases h2 with h2|⟨e2,l2⟩|⟨_,n2,d2⟩
  ·omega
  ·exact .inr (.inl ⟨by omega,by omega⟩)
  ·exact .inr (.inr ⟨by omega,by omega,by rw[e1];exact d2⟩)
 ·rcases h2 with h2|⟨e2,l2⟩|⟨_,n2,d2⟩
  ·omega
  ·exact .inr (.inr ⟨h0,by omega,by rw[←e2];exact d1⟩)
  ·refine .inr (.inr ⟨h0,fun e=>?_,d1.trans d2⟩)
   have:=cG hE.grph d1 (by rw[e];exact d2)
   exact n1 this
omit hE in
theorem FY {m:km} {b k k':Int} (h:bM f m b k) (hk:k≤k'):bM f m b k':=by
 rcases h with h|⟨h1,h2⟩|h
 ·exact .inl h
 ·exact .inr (.inl ⟨h1,by omega⟩)
 ·exact .inr (.inr h)
omit hE in
theorem sF {m:km} {b k:Int}:bM f m b (k+1)↔bM f m b k∨(m.1=b∧m.2=k):=by
 constructor
 ·rintro (h|⟨h1,h2⟩|h)
  ·exact .inl (.inl h)
  ·by_cases e:m.2=k
   ·exact .inr ⟨h1,e⟩
   ·exact .inl (.inr (.inl ⟨h1,by omega⟩))
  ·exact .inl (.inr (.inr h))
 ·rintro (h|⟨h1,h2⟩)
  ·exact FY h (by omega)
  ·exact .inr (.inl ⟨h1,by omega⟩)
omit hE in
theorem sG {m:km} {b c:Int} (hb:nD (ah f) b) (hc:c∈ah f b) {k:Int} (hk:k≤0) (h:bM f m c k) (hL:m.1=b→m.2<fA f b) (hm:m.1=c→k≤m.2):bM f m b (fA f b):=by
 rcases h with h|⟨h1,h2⟩|⟨h0,h1,h2⟩
 ·exact .inl h
 ·have:=hm h1;omega
 ·have hd:=h2.pred hb hc h1
  by_cases e:m.1=b
  ·exact .inr (.inl ⟨e,hL e⟩)
  ·exact .inr (.inr ⟨h0,e,hd⟩)
end
theorem hU {f:ab} {v:Int} (h:0≤(aD f v).1):∃(i:Nat) (b:aK),f.blocks[i]?=some b∧(aD f v).1=i∧((∃p∈b.phis,p.dst=v∧(aD f v).2=-1)∨∃(k:Nat) (x:aB),b.insts[k]?=some x∧x.dst=v∧(aD f v).2=k):=by
 obtain ⟨i,b,h1,h2⟩:=jR h
 refine ⟨i,b,h1,?_,?_⟩
 ·rcases h2 with ⟨p,_,_,e⟩|⟨k,x,_,_,e⟩<;>rw[e]
 ·rcases h2 with ⟨p,h3,h4,e⟩|⟨k,x,h3,h4,e⟩
  ·exact .inl ⟨p,h3,h4,by rw[e]⟩
  ·exact .inr ⟨k,x,h3,h4,by rw[e]⟩
structure LE (f:ab):Prop where
 inst:∀(i k:Nat) (b:aK) (x:aB),f.blocks[i]?=some b→b.insts[k]?=some x→0≤x.dst→aD f x.dst=((i:Int),(k:Int))
 phi:∀(i:Nat) (b:aK) (p:cZ),f.blocks[i]?=some b→p∈b.phis→aD f p.dst=((i:Int),-1)
theorem Iv {f:ab} (ho:mP f) (hi:∀b∈f.blocks,∀x∈b.insts,x.dst<f.vars.length) (hp:∀b∈f.blocks,∀p∈b.phis,0≤p.dst∧p.dst<f.vars.length):LE f:=by
 have len:∀d:Int,0≤d→d<f.vars.length→(bp f d).length≤1:=fun d h0 h1=>by
  have:=(ho d.toNat (by omega)).1
  rwa [show ((d.toNat:Nat):Int)=d by omega] at this
 refine ⟨fun i k b x h1 h2 h0=>?_,fun i b p h1 h2=>?_⟩
 ·exact sn (len _ h0 (hi b (w9 h1) x (w9 h2))) (eH.2 ⟨i,b,h1,f6.2 (.inr ⟨k,x,h2,rfl,rfl⟩)⟩)
 ·obtain ⟨g0,g1⟩:=hp b (w9 h1) p h2
  exact sn (len _ g0 g1) (eH.2 ⟨i,b,h1,f6.2 (.inl ⟨p,h2,rfl,rfl⟩)⟩)
theorem ky {f:ab} {i:Nat} {b:aK} (h:f.blocks[i]?=some b):fA f (i:Int)=b.insts.length:=by
 unfold fA;rw[show ((i:Int)).toNat=i from rfl,h];rfl
end
section
open Go.Proofs.Tryz
structure KS where
 l:List Lz
 p:List (Int × List Int)
section
variable (f:ab)
def eg (v:Int):Option aB:=if 0≤(aD f v).1∧0≤(aD f v).2 then (f.blocks[(aD f v).1.toNat]?).bind fun b=>b.insts[(aD f v).2.toNat]? else none
structure sH where
 a:Int
 b:Int
 n:Int
end
section
variable {u:Int→Int}
end
end
section
open Go.Proofs.Tryz
set_option linter.unusedSectionVars false
section
variable {l:List Lz} {n:Nat} {b:Int} (hl:∀q∈l,Kh n q) (hb:LA n b)
include hb
include hl
end
end
section
open Go.Proofs.Tryz
structure PX (s:GS) (x:aB):Prop where
 ck:18≤x.op→x.op≤24→fp s x.op x.args=true
 i0:x.op=0→vi s.ints x.dst=x.num
 i1:x.op=1→V s x.dst=V s (dq x)
 i2:x.op=2→vi s.ints x.dst=IntKind.i64.wrap (gP 0 (aG s x) (bG s x))
 i3:x.op=3→vi s.ints x.dst=IntKind.i64.wrap (gP 1 (aG s x) (bG s x))
 i5:x.op=5→bG s x≠0∧vi s.ints x.dst=tQ (aG s x) (bG s x)
 i6:x.op=6→bG s x≠0∧vi s.ints x.dst=o5 (aG s x) (bG s x)
 i7:x.op=7→gb s.bools x.dst=decide (aG s x=bG s x)
 i8:x.op=8→gb s.bools x.dst=decide (aG s x<bG s x)
 i9:x.op=9→gb s.bools x.dst=decide (aG s x≤bG s x)
 i10:x.op=10→gb s.bools x.dst=!pG s x
 i11:x.op=11→gb s.bools x.dst=(pG s x&&qG s x)
 i12:x.op=12→0≤rG s x∧vi s.ints x.dst=(cY s (rG s x)).length
 i15:x.op=15→0≤vi s.arrs x.dst∧((cY s (vi s.arrs x.dst)).length:Int)=aG s x
 i16:x.op=16→vi s.arrs x.dst=-1
 i4:x.op=4→vi s.ints x.dst=IntKind.i64.wrap (gP 2 (aG s x) (bG s x))
 i25:x.op=25→V s x.dst=V s (dq x)
 i26:x.op=26→V s x.dst=V s (dq x)
theorem dC.cnt {f:ab} {x:aB} {k:Int} (h:dC f x) (e:x.op=k):x.args.length=([0,1,2,2,2,2,2,2,2,2,1,2,1,2,3,1,0,1,2,1,1,2,2,2,1,2,2][k.toNat]?).getD 0:=e▸h.argc
structure sJ (s t:GS) (x:aB):Prop where
 hd:0≤x.dst→V t x.dst=V s x.dst
 ha:∀v∈x.args,V t v=V s v
 hr:∀a:Int,0≤a→a<s.arrays.length→a<t.arrays.length∧(cY t a).length=(cY s a).length
theorem lF {s t:GS} {v:Int} (h:V t v=V s v):vi t.ints v=vi s.ints v∧gb t.bools v=gb s.bools v∧vi t.arrs v=vi s.arrs v:=by
 unfold V at h;simp only[Prod.mk.injEq] at h;exact h
section
variable {f:ab} {s t:GS} {x:aB}
theorem sJ.e0 (h:sJ s t x) (hl:0<x.args.length):aG t x=aG s x∧pG t x=pG s x∧rG t x=rG s x:=by
 have hm:dq x∈x.args:=by unfold dq;rw[qx hl];exact w3 hl
 exact lF (h.ha _ hm)
theorem sJ.e1 (h:sJ s t x) (hl:1<x.args.length):bG t x=bG s x∧qG t x=qG s x:=by
 have hm:eU x∈x.args:=by unfold eU;rw[qx hl];exact w3 hl
 exact ⟨(lF (h.ha _ hm)).1,(lF (h.ha _ hm)).2.1⟩
theorem dC.d {k:Int} (hF:dC f x) (e:x.op=k) (hm:([true,true,true,true,true,true,true,true,true,true,true,true,true,true,false,true,true,false,false,false,false,false,false,false,false,true,true][k.toNat]?).getD false=true):x.dst<f.vars.length∧0≤x.dst:=hF.made (e▸hm)
theorem Bl (hs:bA f s) (ht:bA f t) (h:sJ s t x) {v i:Int} (hv:v<f.vars.length∧0≤v):dv t (vi s.arrs v) i=dv s (vi s.arrs v) i:=by
 have ha:=iG hs hv
 unfold dv
 by_cases h0:0≤vi s.arrs v
 ·obtain ⟨g1,g2⟩:=h.hr _ h0 ha.2
  rw[g2]
  simp only[h0,g1,ha.2,true_and]
 ·simp[h0]
theorem DT (hs:bA f s) (ht:bA f t) (hF:dC f x) (h1:18≤x.op) (h2:x.op≤24) (h:sJ s t x):fp t x.op x.args=fp s x.op x.args:=by
 have hl:0<x.args.length:=by
  obtain ⟨j,hj⟩:∃j:Nat,x.op=(j:Int):=⟨x.op.toNat,by omega⟩
  rw[hF.argc,hj]
  have:j=18∨j=19∨j=20∨j=21∨j=22∨j=23∨j=24:=by omega
  rcases this with rfl|rfl|rfl|rfl|rfl|rfl|rfl<;>decide
 obtain ⟨e1,e2,e3⟩:=h.e0 hl
 have e1:vi t.ints ((x.args[0]?).getD 0)=vi s.ints ((x.args[0]?).getD 0):=e1
 have e3:vi t.arrs ((x.args[0]?).getD 0)=vi s.arrs ((x.args[0]?).getD 0):=e3
 have e4:wn x.args t.ints=wn x.args s.ints:=by
  unfold wn
  split
  ·rename_i h1;exact (h.e1 h1).1
  ·rfl
 have e5:dv t (vi s.arrs ((x.args[0]?).getD 0)) (wn x.args s.ints)=dv s (vi s.arrs ((x.args[0]?).getD 0)) (wn x.args s.ints):=Bl hs ht h (hF.a0 hl)
 unfold fp
 rw[e1,e3,e4,e5]
theorem PX.same (hs:bA f s) (ht:bA f t) (hF:dC f x) (h:sJ s t x) (p:PX s x):PX t x:=by
 have row:∀{v:Int},v<f.vars.length∧0≤v→0≤vi s.arrs v→(cY t (vi s.arrs v)).length=(cY s (vi s.arrs v)).length:=fun hv h0=>(h.hr _ h0 (iG hs hv).2).2
 constructor
 ·intro h1 h2
  rw[DT hs ht hF h1 h2 h];exact p.ck h1 h2
 ·intro e
  rw[(lF (h.hd (hF.d e rfl).2)).1];exact p.i0 e
 ·intro e
  have hm:dq x∈x.args:=by unfold dq;rw[qx (by rw[hF.cnt e];decide)];exact w3 _
  rw[h.hd (hF.d e rfl).2,h.ha _ hm];exact p.i1 e
 ·intro e
  rw[(lF (h.hd (hF.d e rfl).2)).1,(h.e0 (by rw[hF.cnt e];decide)).1,(h.e1 (by rw[hF.cnt e];decide)).1];exact p.i2 e
 ·intro e
  rw[(lF (h.hd (hF.d e rfl).2)).1,(h.e0 (by rw[hF.cnt e];decide)).1,(h.e1 (by rw[hF.cnt e];decide)).1];exact p.i3 e
 ·intro e
  rw[(lF (h.hd (hF.d e rfl).2)).1,(h.e0 (by rw[hF.cnt e];decide)).1,(h.e1 (by rw[hF.cnt e];decide)).1];exact p.i5 e
 ·intro e
  rw[(lF (h.hd (hF.d e rfl).2)).1,(h.e0 (by rw[hF.cnt e];decide)).1,(h.e1 (by rw[hF.cnt e];decide)).1];exact p.i6 e
 ·intro e
  rw[(lF (h.hd (hF.d e rfl).2)).2.1,(h.e0 (by rw[hF.cnt e];decide)).1,(h.e1 (by rw[hF.cnt e];decide)).1];exact p.i7 e
 ·intro e
  rw[(lF (h.hd (hF.d e rfl).2)).2.1,(h.e0 (by rw[hF.cnt e];decide)).1,(h.e1 (by rw[hF.cnt e];decide)).1];exact p.i8 e
 ·intro e
  rw[(lF (h.hd (hF.d e rfl).2)).2.1,(h.e0 (by rw[hF.cnt e];decide)).1,(h.e1 (by rw[hF.cnt e];decide)).1];exact p.i9 e
 ·intro e
  rw[(lF (h.hd (hF.d e rfl).2)).2.1,(h.e0 (by rw[hF.cnt e];decide)).2.1];exact p.i10 e
 ·intro e
  rw[(lF (h.hd (hF.d e rfl).2)).2.1,(h.e0 (by rw[hF.cnt e];decide)).2.1,(h.e1 (by rw[hF.cnt e];decide)).2];exact p.i11 e
 ·intro e
  rw[(lF (h.hd (hF.d e rfl).2)).1,(h.e0 (by rw[hF.cnt e];decide)).2.2]
  obtain ⟨h0,h1⟩:=p.i12 e
  refine ⟨h0,?_⟩
  unfold rG at h0 ⊢
  rw[row (hF.a0 (by rw[hF.cnt e];decide)) h0];exact h1
 ·intro e
  rw[(lF (h.hd (hF.d e rfl).2)).2.2,(h.e0 (by rw[hF.cnt e];decide)).1]
  obtain ⟨h0,h1⟩:=p.i15 e
  exact ⟨h0,by rw[row (hF.d e rfl) h0];exact h1⟩
 ·intro e
  rw[(lF (h.hd (hF.d e rfl).2)).2.2];exact p.i16 e
 ·intro e
  rw[(lF (h.hd (hF.d e rfl).2)).1,(h.e0 (by rw[hF.cnt e];decide)).1,(h.e1 (by rw[hF.cnt e];decide)).1];exact p.i4 e
 ·intro e
  have hm:dq x∈x.args:=by unfold dq;rw[qx (by rw[hF.cnt e];decide)];exact w3 _
  rw[h.hd (hF.d e rfl).2,h.ha _ hm];exact p.i25 e
 ·intro e
  have hm:dq x∈x.args:=by unfold dq;rw[qx (by rw[hF.cnt e];decide)];exact w3 _
  rw[h.hd (hF.d e rfl).2,h.ha _ hm];exact p.i26 e
theorem Iw {s:GS} {l:List Int} {d:Int}:cY (stA { s with arrays:=s.arrays++[l] } d s.arrays.length) (s.arrays.length:Int)=l:=by
 unfold cY stA;simp
theorem PX.made (hs:bA f s) (hF:dC f x) (h0:s.ended=false) (he:(ba s x).ended=false) (hne:∀v∈x.args,v≠x.dst):PX (ba s x) x:=by
 have n0:0<x.args.length→dq x≠x.dst∧0≤dq x:=fun hl=>⟨hne _ (by unfold dq;rw[qx hl];exact w3 _),(hF.a0 hl).2⟩
 have n1:1<x.args.length→eU x≠x.dst∧0≤eU x:=fun hl=>⟨hne _ (by unfold eU;rw[qx hl];exact w3 _),(hF.a1 hl).2⟩
 have I:∀{k:Int} (w:Int),x.op=k→x.dst<f.vars.length∧0≤x.dst→(0<x.args.length∧1<x.args.length)→aG (stI s x.dst w) x=aG s x∧bG (stI s x.dst w) x=bG s x∧vi (stI s x.dst w).ints x.dst=w:=fun w _ hd hl=>
  ⟨lu hd.2 (n0 hl.1).2 (n0 hl.1).1,lu hd.2 (n1 hl.2).2 (n1 hl.2).1,iA hd.2 (by rw[hs.li];exact hd.1)⟩
 have B:∀{k:Int} (w:Bool),x.op=k→x.dst<f.vars.length∧0≤x.dst→gb (stB s x.dst w).bools x.dst=w:=fun w _ hd=>yE hd.2 (by rw[hs.lb];exact hd.1)
 constructor
 ·intro h1 h2
  unfold ba at he ⊢
  rw[if_pos ⟨h1,h2⟩] at he ⊢
  split at he
  ·rename_i hp
   rw[if_pos hp];exact hp
  ·cases he
 ·intro e
  have hd:=hF.d e rfl
  rw[show ba s x=stI s x.dst x.num by unfold ba doG;simp[e]]
  exact iA hd.2 (by rw[hs.li];exact hd.1)
 ·intro e
  have hd:=hF.d e rfl
  obtain ⟨a1,a2⟩:=n0 (by rw[hF.cnt e];decide)
  rw[show ba s x=stA (stB (stI s x.dst (aG s x)) x.dst (pG s x)) x.dst (rG s x) by unfold ba doG;simp[e]]
  unfold V stA stB stI aG pG rG
  dsimp only
  rw[iA hd.2 (by rw[hs.li];exact hd.1),yE hd.2 (by rw[hs.lb];exact hd.1),iA hd.2 (by rw[hs.la];exact hd.1),lu hd.2 a2 a1,sD hd.2 a2 a1,lu hd.2 a2 a1]
 ·intro e
  have hd:=hF.d e rfl
  rw[show ba s x=stI s x.dst (IntKind.i64.wrap (gP 0 (aG s x) (bG s x))) by unfold ba doG;simp[e]]
  obtain ⟨g1,g2,g3⟩:=I (IntKind.i64.wrap (gP 0 (aG s x) (bG s x))) e hd ⟨by rw[hF.cnt e];decide,by rw[hF.cnt e];decide⟩
  rw[g1,g2,g3]
 ·intro e
  have hd:=hF.d e rfl
  rw[show ba s x=stI s x.dst (IntKind.i64.wrap (gP 1 (aG s x) (bG s x))) by unfold ba doG;simp[e]]
  obtain ⟨g1,g2,g3⟩:=I (IntKind.i64.wrap (gP 1 (aG s x) (bG s x))) e hd ⟨by rw[hF.cnt e];decide,by rw[hF.cnt e];decide⟩
  rw[g1,g2,g3]
 ·intro e
  have hd:=hF.d e rfl
  have hi:ba s x=if bG s x=0 then dO s 2 else stI s x.dst (tQ (aG s x) (bG s x)):=by unfold ba doG;simp[e]
  rw[hi] at he ⊢
  by_cases hb:bG s x=0
  ·rw[if_pos hb] at he;cases he
  ·rw[if_neg hb]
   obtain ⟨g1,g2,g3⟩:=I (tQ (aG s x) (bG s x)) e hd ⟨by rw[hF.cnt e];decide,by rw[hF.cnt e];decide⟩
   rw[g1,g2,g3];exact ⟨hb,rfl⟩
 ·intro e
  have hd:=hF.d e rfl
  have hi:ba s x=if bG s x=0 then dO s 2 else stI s x.dst (o5 (aG s x) (bG s x)):=by unfold ba doG;simp[e]
  rw[hi] at he ⊢
  by_cases hb:bG s x=0
  ·rw[if_pos hb] at he;cases he
  ·rw[if_neg hb]
   obtain ⟨g1,g2,g3⟩:=I (o5 (aG s x) (bG s x)) e hd ⟨by rw[hF.cnt e];decide,by rw[hF.cnt e];decide⟩
   rw[g1,g2,g3];exact ⟨hb,rfl⟩
 ·intro e
  rw[show ba s x=stB s x.dst (decide (aG s x=bG s x)) by unfold ba doG;simp[e]]
  rw[B _ e (hF.d e rfl)];rfl
 ·intro e
  rw[show ba s x=stB s x.dst (decide (aG s x<bG s x)) by unfold ba doG;simp[e]]
  rw[B _ e (hF.d e rfl)];rfl
 ·intro e
  rw[show ba s x=stB s x.dst (decide (aG s x≤bG s x)) by unfold ba doG;simp[e]]
  rw[B _ e (hF.d e rfl)];rfl
 ·intro e
  have hd:=hF.d e rfl
  obtain ⟨a1,a2⟩:=n0 (by rw[hF.cnt e];decide)
  rw[show ba s x=stB s x.dst (!pG s x) by unfold ba doG;simp[e]]
  rw[B _ e hd]
  unfold pG stB
  dsimp only
  rw[sD hd.2 a2 a1]
 ·intro e
  have hd:=hF.d e rfl
  obtain ⟨a1,a2⟩:=n0 (by rw[hF.cnt e];decide)
  obtain ⟨b1,b2⟩:=n1 (by rw[hF.cnt e];decide)
  rw[show ba s x=stB s x.dst (pG s x&&qG s x) by unfold ba doG;simp[e]]
  rw[B _ e hd]
  unfold pG qG stB
  dsimp only
  rw[sD hd.2 a2 a1,sD hd.2 b2 b1]
 ·intro e
  have hd:=hF.d e rfl
  have hi:ba s x=if rG s x<0 then dO s 2 else stI s x.dst ((cY s (rG s x)).length):=by unfold ba doG;simp[e]
  rw[hi] at he ⊢
  by_cases hb:rG s x<0
  ·rw[if_pos hb] at he;cases he
  ·rw[if_neg hb]
   exact ⟨(by have:0≤rG s x:=(by omega);exact this),iA hd.2 (by rw[hs.li];exact hd.1)⟩
 ·intro e
  have hd:=hF.d e rfl
  obtain ⟨a1,a2⟩:=n0 (by rw[hF.cnt e];decide)
  have hi:ba s x=if aG s x<0∨64<aG s x then dO s 2 else if 32≤s.arrays.length then dO s 3 else stA { s with arrays:=s.arrays++[List.replicate (aG s x).toNat 0] } x.dst s.arrays.length:=by unfold ba doG;simp[e]
  rw[hi] at he ⊢
  by_cases hb:aG s x<0∨64<aG s x
  ·rw[if_pos hb] at he;cases he
  ·rw[if_neg hb] at he ⊢
   by_cases hc:32≤s.arrays.length
   ·rw[if_pos hc] at he;cases he
   ·rw[if_neg hc]
    have hv:vi (stA { s with arrays:=s.arrays++[List.replicate (aG s x).toNat 0] } x.dst s.arrays.length).arrs x.dst=s.arrays.length:=iA hd.2 (by rw[hs.la];exact hd.1)
    rw[hv,Iw,List.length_replicate]
    refine ⟨by omega,?_⟩
    show ((aG s x).toNat:Int)=aG s x
    omega
 ·intro e
  have hd:=hF.d e rfl
  rw[show ba s x=stA s x.dst (-1) by unfold ba doG;simp[e]]
  exact iA hd.2 (by rw[hs.la];exact hd.1)
 ·intro e
  have hd:=hF.d e rfl
  rw[show ba s x=stI s x.dst (IntKind.i64.wrap (gP 2 (aG s x) (bG s x))) by unfold ba doG;simp[e]]
  obtain ⟨g1,g2,g3⟩:=I (IntKind.i64.wrap (gP 2 (aG s x) (bG s x))) e hd ⟨by rw[hF.cnt e];decide,by rw[hF.cnt e];decide⟩
  rw[g1,g2,g3]
 ·intro e
  have hd:=hF.d e rfl
  obtain ⟨a1,a2⟩:=n0 (by rw[hF.cnt e];decide)
  rw[show ba s x=stA (stB (stI s x.dst (aG s x)) x.dst (pG s x)) x.dst (rG s x) by unfold ba doG;simp[e]]
  unfold V stA stB stI aG pG rG
  dsimp only
  rw[iA hd.2 (by rw[hs.li];exact hd.1),yE hd.2 (by rw[hs.lb];exact hd.1),iA hd.2 (by rw[hs.la];exact hd.1),lu hd.2 a2 a1,sD hd.2 a2 a1,lu hd.2 a2 a1]
 ·intro e
  have hd:=hF.d e rfl
  obtain ⟨a1,a2⟩:=n0 (by rw[hF.cnt e];decide)
  rw[show ba s x=stA (stB (stI s x.dst (aG s x)) x.dst (pG s x)) x.dst (rG s x) by unfold ba doG;simp[e]]
  unfold V stA stB stI aG pG rG
  dsimp only
  rw[iA hd.2 (by rw[hs.li];exact hd.1),yE hd.2 (by rw[hs.lb];exact hd.1),iA hd.2 (by rw[hs.la];exact hd.1),lu hd.2 a2 a1,sD hd.2 a2 a1,lu hd.2 a2 a1]
end
end
section
open Go.Proofs.Tryz
def vl (f:ab) (s:GS) (v:Int):Int:=if aU f v=2 then (if vi s.arrs v<0 then 0 else ((cY s (vi s.arrs v)).length:Int)) else if aU f v=0 then vi s.ints v else 0
section
variable {f:ab} {s:GS} {K:KS}
theorem Ha {v:Int} (h:aU f v=0):vl f s v=vi s.ints v:=by unfold vl;rw[h];simp
theorem MB {v:Int} (h:aU f v=2):vl f s v=if vi s.arrs v<0 then 0 else ((cY s (vi s.arrs v)).length:Int):=by unfold vl;rw[if_pos h]
end
theorem fD:aX 2=[0,0]∧aX 3=[0,0]∧aX 5=[0,0]∧aX 6=[0,0]∧aX 7=[0,0]∧aX 8=[0,0]∧aX 9=[0,0]∧aX 10=[1]∧aX 11=[1,1]∧aX 12=[2]∧aX 15=[0]∧aX 18=[2,0]∧aX 19=[2]∧aX 20=[0]∧aX 21=[0,0]∧aX 22=[0,0]∧aX 23=[0,0]∧aX 24=[0]:=by decide
theorem l9:di 0=0∧di 2=0∧di 3=0∧di 5=0∧di 6=0∧di 12=0∧di 15=2∧di 16=2:=by decide
theorem jT:bE 0=true∧bE 2=true∧bE 3=true∧bE 5=true∧bE 6=true∧bE 12=true∧bE 15=true∧bE 16=true:=by decide
section
variable {f:ab} {x:aB}
theorem d5 {k:Int} {l:List Int} (hT:fz f x=true) (e:x.op=k) (h1:¬k=1) (hl:aX k=l):x.args.map (aU f)=l:=by
 unfold fz at hT
 rw[if_neg (by omega),wh] at hT
 rw[wk hT.1,e,hl]
theorem FZ {k t:Int} (hT:fz f x=true) (e:x.op=k) (h1:¬k=1) (hm:bE k=true) (hl:di k=t):aU f x.dst=t:=by
 unfold fz at hT
 rw[if_neg (by omega),e,hm,hl] at hT
 simp at hT
 exact hT.2
theorem sK {a b:Int} (h:x.args.map (aU f)=[a,b]):(aU f (dq x)=a∧aU f (eU x)=b)∧∃y z,x.args=[y,z]:=by
 match hx:x.args,h with
 |[y,z],h=>
  simp only[List.map_cons,List.map_nil,List.cons.injEq,and_true] at h
  unfold dq eU
  rw[hx]
  exact ⟨h,y,z,rfl⟩
theorem LF {a:Int} (h:x.args.map (aU f)=[a]):aU f (dq x)=a∧∃y,x.args=[y]:=by
 match hx:x.args,h with
 |[y],h=>
  simp only[List.map_cons,List.map_nil,List.cons.injEq,and_true] at h
  unfold dq
  rw[hx]
  exact ⟨h,y,rfl⟩
end
def ka (s:GS):Prop:=∀r∈s.arrays,r.length≤64
section
variable {f:ab} {s:GS} {K:KS} {x:aB}
theorem F0 {k:Nat} (hk:k≤2) {y z:Int} (h:fp s (21+k) [y,z]=true):dk k (vi s.ints y) (vi s.ints z):=by
 have:k=0∨k=1∨k=2:=by omega
 rcases this with rfl|rfl|rfl
 all_goals (unfold fp wn at h;simp at h;exact h)
theorem Km {v:Int} (h2:aU f v=2) (hs:bA f s) (h64:ka s) (hv:v<f.vars.length∧0≤v):0≤vl f s v∧vl f s v≤64:=by
 rw[MB h2]
 split
 ·omega
 ·have:=h64 _ (oc (by omega) (iG hs hv).2)
  omega
end
end
section
open Go.Proofs.Tryz
structure ia where
 seen:List (Int × Bool)
 out:List sH
def ft (q:ia) (a b n:Int):ia:=if a=b then q else ⟨q.seen,q.out++[⟨a,b,n⟩]⟩
section
variable (f:ab)
def gv:Nat→ia→Int→Bool→ia
 |0,q,_,_=>q
 |n+1,q,c,is=>if q.seen.contains (c,is)=true then q else
  match eg f c with
  |none=>⟨q.seen++[(c,is)],q.out⟩
  |some x=>
   if x.op=10 then gv n ⟨q.seen++[(c,is)],q.out⟩ (dq x) (!is)
   else if x.op=1 then gv n ⟨q.seen++[(c,is)],q.out⟩ (dq x) is
   else if x.op=11 then (if is=true then gv n (gv n ⟨q.seen++[(c,is)],q.out⟩ (dq x) true) (eU x) true else ⟨q.seen++[(c,is)],q.out⟩)
   else if x.op=8 then (if is=true then ft ⟨q.seen++[(c,is)],q.out⟩ (dq x) (eU x) 0 else ft ⟨q.seen++[(c,is)],q.out⟩ (eU x) (dq x) 1)
   else if x.op=9 then (if is=true then ft ⟨q.seen++[(c,is)],q.out⟩ (dq x) (eU x) 1 else ft ⟨q.seen++[(c,is)],q.out⟩ (eU x) (dq x) 0)
   else if x.op=7 then (if is=true then ft ⟨q.seen++[(c,is)],q.out⟩ (dq x) (eU x) 2 else ⟨q.seen++[(c,is)],q.out⟩)
   else ⟨q.seen++[(c,is)],q.out⟩
def o9 (c:Int) (is:Bool):List sH:=(gv f 100000 ⟨[],[]⟩ c is).out
def jJ (i:Int):List sH:=match bj (ah f) f.blocks.length i with
 |[p]=>if (aQ f p).term.kind=1∧(aQ f p).term.to0≠(aQ f p).term.to1 then o9 f (aQ f p).term.var (decide ((aQ f p).term.to0=i)) else[]
 |_=>[]
end
structure mU (f:ab) (s:GS) (r:sH):Prop where
 nn:0≤r.a∧0≤r.b
 lt:r.n=0→vl f s r.a<vl f s r.b
 le:r.n=1→vl f s r.a≤vl f s r.b
 eq:r.n=2→vl f s r.a=vl f s r.b
def Jd (f:ab) (s:GS) (Good:Int→Prop):Prop:=∀v y,Good v→eg f v=some y→(PX s y∧dC f y∧fz f y=true∧y.dst=v)∧∀a∈y.args,Good a
theorem F1 {f:ab} {s:GS} {a b:Int} (h:0≤a∧0≤b) (g:vl f s a<vl f s b):mU f s ⟨a,b,0⟩:=⟨h,fun _=>g,fun e=>(by cases e),fun e=>(by cases e)⟩
theorem F2 {f:ab} {s:GS} {a b:Int} (h:0≤a∧0≤b) (g:vl f s a≤vl f s b):mU f s ⟨a,b,1⟩:=⟨h,fun e=>(by cases e),fun _=>g,fun e=>(by cases e)⟩
theorem Kn {f:ab} {s:GS} {a b:Int} (h:0≤a∧0≤b) (g:vl f s a=vl f s b):mU f s ⟨a,b,2⟩:=⟨h,fun e=>(by cases e),fun e=>(by cases e),fun _=>g⟩
section
variable {f:ab} {s:GS} {K:KS} {Good:Int→Prop} (hG:Jd f s Good)
theorem yH {x:aB} (hl:0<x.args.length):dq x∈x.args:=by unfold dq;rw[qx hl];exact w3 hl
theorem F3 {x:aB} (hl:1<x.args.length):eU x∈x.args:=by unfold eU;rw[qx hl];exact w3 hl
theorem oe {q:ia} (h:∀r∈q.out,mU f s r) {a b n:Int} (hr:mU f s ⟨a,b,n⟩):∀r∈(ft q a b n).out,mU f s r:=by
 unfold ft
 split
 ·exact h
 ·intro r hm
  rcases List.mem_append.1 hm with hm|hm
  ·exact h r hm
  ·rw[List.mem_singleton.1 hm];exact hr
include hG
theorem sL:∀(n:Nat) (q:ia) (c:Int) (is:Bool),(∀r∈q.out,mU f s r)→Good c→gb s.bools c=is→∀r∈(gv f n q c is).out,mU f s r
 |0,q,_,_,h,_,_=>h
 |n+1,q,c,is,h,hc,hv=>by
  unfold gv
  split
  ·exact h
  split
  ·exact h
  rename_i x hx
  obtain ⟨⟨hP,hF,hT,hd⟩,ha⟩:=hG c x hc hx
  split
  ·rename_i e
   have hl:0<x.args.length:=by rw[hF.cnt e];decide
   refine sL n ⟨_,_⟩ _ _ h (ha _ (yH hl)) ?_
   have:=hP.i10 e
   rw[hd,hv] at this
   show pG s x=_
   cases hp:pG s x<;>rw[hp] at this<;>rw[this]<;>rfl
  split
  ·rename_i e
   have hl:0<x.args.length:=by rw[hF.cnt e];decide
   refine sL n ⟨_,_⟩ _ _ h (ha _ (yH hl)) ?_
   have:=hP.i1 e
   unfold V at this
   simp only[Prod.mk.injEq] at this
   rw[←this.2.1,hd,hv]
  split
  ·rename_i e
   have hl:1<x.args.length:=by rw[hF.cnt e];decide
   split
   ·rename_i his
    have hb:=hP.i11 e
    rw[hd,hv,his] at hb
    have hb:=(wh _ _▸hb.symm:pG s x=true∧qG s x=true)
    exact sL n _ _ _ (sL n ⟨_,_⟩ _ _ h (ha _ (yH (by omega))) hb.1) (ha _ (F3 hl)) hb.2
   ·exact h
  split
  ·rename_i e
   obtain ⟨⟨k0,k1⟩,_,_,hl⟩:=sK (d5 hT e (by omega) fD.2.2.2.2.2.1)
   have hy:=hF.a0 (by simp[hl])
   have hz:=hF.a1 (by simp[hl])
   have hb:=hP.i8 e
   rw[hd,hv] at hb
   have v0:vl f s (dq x)=aG s x:=Ha k0
   have v1:vl f s (eU x)=bG s x:=Ha k1
   split
   ·rename_i his
    rw[his] at hb
    have:=wk hb.symm
    exact oe (q:=⟨q.seen++[(c,is)],q.out⟩) h (F1 ⟨hy.2,hz.2⟩ (by omega))
   ·rename_i his
    have:is=false:=by simpa using his
    rw[this] at hb
    have:=wl hb.symm
    exact oe (q:=⟨q.seen++[(c,is)],q.out⟩) h (F2 ⟨hz.2,hy.2⟩ (by omega))
  split
  ·rename_i e
   obtain ⟨⟨k0,k1⟩,_,_,hl⟩:=sK (d5 hT e (by omega) fD.2.2.2.2.2.2.1)
   have hy:=hF.a0 (by simp[hl])
   have hz:=hF.a1 (by simp[hl])
   have hb:=hP.i9 e
   rw[hd,hv] at hb
   have v0:vl f s (dq x)=aG s x:=Ha k0
   have v1:vl f s (eU x)=bG s x:=Ha k1
   split
   ·rename_i his
    rw[his] at hb
    have:=wk hb.symm
    exact oe (q:=⟨q.seen++[(c,is)],q.out⟩) h (F2 ⟨hy.2,hz.2⟩ (by omega))
   ·rename_i his
    have:is=false:=by simpa using his
    rw[this] at hb
    have:=wl hb.symm
    exact oe (q:=⟨q.seen++[(c,is)],q.out⟩) h (F1 ⟨hz.2,hy.2⟩ (by omega))
  split
  ·rename_i e
   obtain ⟨⟨k0,k1⟩,_,_,hl⟩:=sK (d5 hT e (by omega) fD.2.2.2.2.1)
   have hy:=hF.a0 (by simp[hl])
   have hz:=hF.a1 (by simp[hl])
   have hb:=hP.i7 e
   rw[hd,hv] at hb
   have v0:vl f s (dq x)=aG s x:=Ha k0
   have v1:vl f s (eU x)=bG s x:=Ha k1
   split
   ·rename_i his
    rw[his] at hb
    have:=wk hb.symm
    exact oe (q:=⟨q.seen++[(c,is)],q.out⟩) h (Kn ⟨hy.2,hz.2⟩ (by omega))
   ·exact h
  ·exact h
theorem F4 {c:Int} {is:Bool} (hc:Good c) (hv:gb s.bools c=is):∀r∈o9 f c is,mU f s r:=sL hG _ _ _ _ (fun r hr=>by cases hr) hc hv
end
end
end Go.Proofs.YtbbonnfjealmpaaGreatDoor
