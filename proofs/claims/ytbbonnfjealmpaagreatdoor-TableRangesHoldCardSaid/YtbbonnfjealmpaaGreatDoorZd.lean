/- The document's numbers in halves. Plain law. No conditions but int64s. -/
import Derived.Test.YtbbonnfjealmpaaGreatDoorZc
set_option linter.unusedVariables false
set_option linter.unusedSimpArgs false
set_option linter.unusedSectionVars false
namespace Go.Proofs.YtbbonnfjealmpaaGreatDoor
section
open Go.Proofs.Tryz
open Go.Proofs
variable {E:World}
set_option maxRecDepth 20000
theorem pN {p:Int→Bool} {fn:FuncId} {c:List AV} (xs:List Int) (hl:xs.length≤281474976710656) (hp:∀x∈xs,aP prog E fn ([.int .i64 x]++c) (.bool (p x))) :
  aP prog E 182 [.fro 1 (xs.map bO),.fn fn [] c] (.int .i64 (cS p xs 0)):=by
 refine zp func182 U (by decide) U<|ae<|am U<|z2<|zb<|ae<|bd U<|aj j7 U<|aa U<|z2<|zi<|y5 (γ:=Nat) [0,1,7] (fun k=>[(8,.i k)]) (fun k=>[]) (fun k=>k≤xs.length∧(xs.take k).all (fun x=>!p x)) (fun k=>xs.length - k) 0 aL aE (⟨w2 _,U⟩) ?_
 rintro k ⟨hk,hall⟩
 refine ae<|ap U U<|z2<|zb<|zn U (fun ck=>?_) (fun ck=>?_)
 ·have hk2:k<xs.length:=by omega
  refine zf<|zb<|zi<|ae<|aa U<|am U<|z2<|ae<|z8 (yt (v:=.fn _ _ _) U)<|bd U<|aa U<|z8 (qh j7 j9 U U U (qx (by omega)))<|aA jg U<|ay.callVP U (hp _ (w3 hk2)) U<|z2<|zw U (fun cp=>?_) (fun cp=>?_)
  ·refine ae<|aa U<|am U<|z2<|zg<|zm (x:=.int _ _) U ?_
   rw[bZ p xs k hk hall,List.drop_eq_getElem_cons hk2,cS,if_pos cp]
  ·refine zf<|aW<|aC U U<|aa U<|z2 ?_
   exact ⟨k+1,bW,aL,aE,⟨hk2,by rw[qy hk2,List.all_append,hall];simp[cp]⟩,by omega⟩
 ·have hkn:k=xs.length:=by omega
  refine y4<|ae<|am U<|z2<|zg<|zm (x:=.int _ _) U ?_
  rw[bZ p xs k hk hall,hkn,List.drop_length,cS]
theorem mZ {p:Int→Bool} {fn:FuncId} {c:List AV} (xs:List Int) (hl:xs.length≤281474976710656) (hp:∀x∈xs,aP prog E fn ([.int .i64 x]++c) (.bool (p x))) :
  aP prog E 140 [.fro 1 (xs.map bO),.fn fn [] c] (.bool (xs.any p)):=by
 refine zp func140 U (by decide) U<|ae<|ad U<|z2<|ae<|bd U<|z8 (yt (v:=.fn _ _ _) U)<|ze (pN xs hl hp) U<|z8 (q9 U U)<|ad U<|z2<|zg<|zm (x:=.bool _) U ?_
 rw[fX]
def aU (f:ab) (v:Int):Int:=((f.vars[v.toNat]?).map (·.ty)).getD 0
theorem wN {f:ab} {v:Int} (h:bt f v=true):∃x,f.vars[v.toNat]?=some x∧v=(v.toNat:Int)∧aU f v=x.ty:=by
 unfold bt at h
 simp only[wh,wm] at h
 have hl:v.toNat<f.vars.length:=by omega
 refine ⟨f.vars[v.toNat],qx hl,by omega,?_⟩
 unfold aU;rw[qx hl];rfl
theorem fY (f:ab) (v:Int) (hv:bt f v=true):aP prog E 158 [.agg (bw f),.int .i64 v] (.int .i64 (aU f v)):=by
 obtain ⟨x,hx,hv2,hk⟩:=wN hv
 rw[hk]
 refine zp func158 U (by decide) U<|ae<|y6 (cs:=_) U U U<|am U<|z2<|ae<|ak je U Zn U U<|aI Zz U<|aa U<|z8 (bB v.toNat Z7 Yf U U hv2 hx)<|ak Zt U X9 U U<|aA Xj U<|am U<|z2<|zg<|zm (x:=.int _ _) U ?_
 rfl
theorem EE (op:Int):aP prog E 159 [.int .i64 op] (.bool (decide (op=1))):=by
 refine zp func159 U (by decide) U<|ae<|ad U<|z2<|ae<|aa U<|ao U U<|ad U<|z2<|zg<|zm (x:=.bool _) U ?_
 simp_all
theorem EF:∀{l:List Int} (h:0<l.length),l.headD 0=l[0]
 |[],h=>absurd h (Nat.lt_irrefl 0)
 |_::_,_=>rfl
def fz (f:ab) (x:aB):Bool:=if x.op=1 then decide (aU f x.dst=aU f (x.args.headD 0)) else decide (x.args.map (aU f)=aX x.op)&&(!bE x.op||decide (aU f x.dst=di x.op))
theorem jY {f:ab} {xs ts:List Int} {k:Nat} (h1:k<xs.length) (h2:k<ts.length) (h:(xs.take k).map (aU f)=ts.take k) (hk:aU f xs[k]=ts[k]):(xs.take (k+1)).map (aU f)=ts.take (k+1):=by
 rw[qy h1,qy h2,wb,h,List.map_cons,List.map_nil,hk]
theorem EG {f:ab} {xs ts:List Int} {k:Nat} (h1:k<xs.length) (h2:k<ts.length) (hk:¬aU f xs[k]=ts[k]):¬xs.map (aU f)=ts:=by
 intro e
 apply hk
 subst e
 rw[List.getElem_map]
theorem Ak (f:ab) (x:aB) (ha:x.args.all (bt f)=true) (hl:x.args.length=(aX x.op).length) (hd:bE x.op=true→bt f x.dst=true) :
  aP prog E 110 [.agg (bw f),.agg (bq x)] (.bool (fz f x)):=by
 have hlen:(aX x.op).length≤3:=by
  rcases nJ x.op with h|h
  ·unfold aX;rw[h];decide
  ·have:∀r∈gS,r.2.1.data.toList.length≤3:=by decide
   have:=this _ h
   unfold aX;simpa using this
 refine zp func110 U (by decide) U<|ae<|y6 (cs:=_) U U U<|y6 (cs:=_) U U U<|ad U<|z2<|zb<|ae<|ak jd U Zs U U<|aA Y2 U<|ze (EE _) U<|z2<|zn U (fun c1=>?_) (fun c1=>?_)
 ·have e1:x.op=1:=by simpa using c1
  have hlz:0<x.args.length:=by rw[hl,e1];decide
  have hv0:bt f x.args[0]=true:=List.all_eq_true.1 ha _ (w3 hlz)
  have hvd:bt f x.dst=true:=hd (by rw[e1];decide)
  refine zb<|zr (fun j=>false) (by kernel_rfl) U (zo (.rest _))<|ai 0 U (yp Z0 ji U U)<|ai 1 U (db jd U j9 U U)<|ai 2 U (dQ jg U)<|ai 4 U (yp Z0 ji U U)<|ai 5 U (db jd U jh U U)<|ai 6 U (gd jx U)<|ai 7 U (bB 0 j7 j9 U U U (qx hlz))<|ai 8 U (dQ jg U)<|aN 3 U<|ze (fY _ _ (by assumption)) U<|z2<|aN 9 U<|ze (fY _ _ (by assumption)) U<|z2<|ai 10 U (Gv.eqlI U U)<|ai 11 U (qO U)<|bI<|zg<|zm (x:=.bool _) U ?_
  exact jb (by unfold fz;rw[if_pos e1,EF hlz])
 ·have e1:¬x.op=1:=by simpa using c1
  refine zf<|zb<|ae<|ak jd U Zs U U<|aA Y2 U<|ze (qV _) U<|aj underlying222 U<|aa U<|z2<|zi<|y5 (γ:=Nat) [2,3,25,26] (fun k=>[(27,.i k)]) (fun k=>[]) (fun k=>k≤(aX x.op).length∧(x.args.take k).map (aU f)=(aX x.op).take k) (fun k=>(aX x.op).length - k) 0 aL aE (⟨w2 _,U⟩) ?_
  rintro k ⟨hk,hall⟩
  refine ae<|ap U U<|z2<|zb<|zn U (fun ck=>?_) (fun ck=>?_)
  ·have hk2:k<(aX x.op).length:=by simp at ck;omega
   have hk3:k<x.args.length:=by omega
   have hvk:bt f x.args[k]=true:=List.all_eq_true.1 ha _ (w3 hk3)
   refine zf<|zb<|zi<|ae<|aa U<|z8 (bB k underlying222 X9 U U U (qx hk2))<|aA Xj U<|am U<|am U<|z2<|zb<|zr (fun j=>false) (by kernel_rfl) U (zo (.rest _))<|ai 0 U (yp Z0 ji U U)<|ai 1 U (db jd U jh U U)<|ai 2 U (gd jx U)<|ai 3 U (dx U)<|ai 4 U (bB k j7 j9 U U U (qx hk3))<|ai 5 U (dQ jg U)<|ai 7 U (dx U)<|aN 6 U<|ze (fY _ _ (by assumption)) U<|z2<|ai 8 U (Gv.neqI U U)<|bI<|zw U (fun cn=>?_) (fun cn=>?_)
   ·refine ae<|ad U<|z2<|zg<|zm (x:=.bool _) U ?_
    exact jb (by unfold fz;rw[if_neg e1,wg (EG hk3 hk2 (by simpa using cn))];rfl)
   ·refine zf<|aW<|aC U U<|aa U<|z2 ?_
    exact ⟨k+1,fC,aL,aE,⟨hk2,jY hk3 hk2 hall (by simpa using cn)⟩,by omega⟩
  ·have hkn:k=(aX x.op).length:=by simp at ck;omega
   subst hkn
   rw[w4,←hl,w4] at hall
   refine y4<|ae<|ak jd U Zs U U<|aA Y2 U<|ze (qW _) U<|z8 (uY U)<|z8 (nC U U)<|z8 (wz U U)<|am U<|ad U<|z2<|ae<|aq U<|aJ U<|aq U<|zt (s:=50) U (fun c1=>?_) (fun c1=>?_)
   ·refine z6 U U c1<|z6 U U c1<|z6 U U c1<|z6 U U c1<|z6 U U c1<|z6 U U c1<|au U c1 U<|ad U<|z2<|zg<|zm (x:=.bool _) U ?_
    exact jb (by unfold fz;rw[if_neg e1,we hall];simp_all)
   ·refine z7 U U c1<|ac Z0 ji U U<|z7 U U c1<|ak jd U j9 U U<|z7 U U c1<|aA jg U<|z7 U U c1<|ze (fY f x.dst (hd (by simp_all))) U<|z7 U U c1<|aa U<|z7 U U c1<|ao U U<|aw U c1 U<|ad U<|z2<|zg<|zm (x:=.bool _) U ?_
    exact jb (by unfold fz;rw[if_neg e1,we hall];simp_all)
def tz (f:ab) (p:cZ):Bool:=!(p.args.any fun v=>!decide (aU f v=aU f p.dst))
theorem Al (f:ab) (p:cZ) (v:Int) (hv:bt f v=true) (hd:bt f p.dst=true):aP prog E 157 ([.int .i64 v]++[.pf (bw f),.pf (dA p)]) (.bool (!decide (aU f v=aU f p.dst))):=by
 refine zp func157 U (by decide) U<|ae<|ad U<|z2<|zb<|zr (fun j=>false) (by kernel_rfl) U (zo (.rest _))<|ai 0 U (yp Z0 ji U U)<|ai 1 U (dx U)<|ai 3 U (yp Z0 ji U U)<|ai 4 U (db Z4 U j9 U U)<|ai 5 U (dQ jg U)<|aN 2 U<|ze (fY _ _ (by assumption)) U<|z2<|aN 6 U<|ze (fY _ _ (by assumption)) U<|z2<|ai 7 U (Gv.neqI U U)<|ai 8 U (qO U)<|bI<|zg<|zm (x:=.bool _) U ?_
 simp_all
theorem CV (f:ab) (p:cZ) (hp:BL p) (ha:p.args.all (bt f)=true) (hd:bt f p.dst=true):aP prog E 109 [.agg (bw f),.agg (dA p)] (.bool (tz f p)):=by
 have hl1:=hp.1.lt
 refine zp func109 U (by decide) U<|ae<|y6 (cs:=_) U U U<|y6 (cs:=_) U U U<|ad U<|z2<|ae<|ak Z4 U jh U U<|aI jx U<|z8 (Gv.func U U)<|ze (mZ p.args (by omega) (fun v hv=>Al f p v (List.all_eq_true.1 ha v hv) hd)) U<|aJ U<|ad U<|z2<|zg<|zm (x:=.bool _) U ?_
 rfl
def eE (f:ab) (t:fg):Bool:=if t.kind=0 then !decide (t.to0=0) else if t.kind=1 then decide (aU f t.var=1)&&!decide (t.to0=0)&&!decide (t.to1=0) else decide (aU f t.var=0)
theorem Am (f:ab) (t:fg) (h:¬t.kind=0→bt f t.var=true):aP prog E 111 [.agg (bw f),.agg (p7 t)] (.bool (eE f t)):=by
 refine zp func111 U (by decide) U<|ae<|y6 (cs:=_) U U U<|y6 (cs:=_) U U U<|ad U<|z2<|zb<|ae<|ak jj U Y4 U U<|aA Yi U<|z2<|zi<|ae<|ao U U<|ad U<|z2<|zw U (fun c2=>?_) (fun c2=>?_)
 ·refine ae<|ak jj U Zg U U<|z8 (yx (j:=0) Z9 j9 U U U (by decide) U)<|aA jg U<|aO U U<|ad U<|z2<|zg<|zm (x:=.bool _) U ?_
  exact jb (by unfold eE;simp_all)
 ·refine ae<|ao U U<|ad U<|z2<|zw U (fun c3=>?_) (fun c3=>?_)
  ·refine ae<|ac Z0 ji U U<|ak jj U j9 U U<|aA jg U<|ze (fY f t.var (h (by simp_all))) U<|ao U U<|aq U<|zt (s:=20) U (fun c4=>?_) (fun c4=>?_)
   ·refine z7 U U c4<|ak jj U Zg U U<|z7 U U c4<|z8 (yx (j:=0) Z9 j9 U U U (by decide) U)<|z7 U U c4<|aA jg U<|z7 U U c4<|aO U U<|au U c4 U<|aq U<|zt (s:=26) U (fun c5=>?_) (fun c5=>?_)
    ·refine z7 U U c5<|ak jj U Zg U U<|z7 U U c5<|z8 (yx (j:=1) Z9 j9 U U U (by decide) U)<|z7 U U c5<|aA jg U<|z7 U U c5<|aO U U<|au U c5 U<|ad U<|z2<|zg<|zm (x:=.bool _) U ?_
     exact jb (by unfold eE;simp_all)
    ·refine z6 U U c5<|z6 U U c5<|z6 U U c5<|z6 U U c5<|aw U c5 U<|ad U<|z2<|zg<|zm (x:=.bool _) U ?_
     exact jb (by unfold eE;simp_all)
   ·refine z6 U U c4<|z6 U U c4<|z6 U U c4<|z6 U U c4<|aw U c4 U<|aq U<|z6 U U U<|z6 U U U<|z6 U U U<|z6 U U U<|aw U U U<|ad U<|z2<|zg<|zm (x:=.bool _) U ?_
    exact jb (by unfold eE;simp_all)
  ·refine zf<|ae<|ac Z0 ji U U<|ak jj U j9 U U<|aA jg U<|ze (fY f t.var (h (by simp_all))) U<|ao U U<|ad U<|z2<|zg<|zm (x:=.bool _) U ?_
   exact jb (by unfold eE;simp_all)
end
section
open Go.Proofs.Tryz
abbrev bh:=Int × Int
def ib:Int:=-9223372036854775808
def ig:Int:=9223372036854775807
def bg (x:Int):Prop:=-9223372036854775808≤x∧x≤9223372036854775807
instance (x:Int):Decidable (bg x):=by unfold bg;infer_instance
def cO (r:bh):Prop:=bg r.1∧bg r.2
def fN:bh:=(1,0)
def eF (lo hi:Int):bh:=if hi<lo then fN else (lo,hi)
def ff (a b:Int):Int:=if b<a then b else a
def eo (a b:Int):Int:=if a<b then b else a
def df (a b:bh):bh:=if a.2<a.1 then eF b.1 b.2 else if b.2<b.1 then a else (ff a.1 b.1,eo a.2 b.2)
def cF (a b:bh):bh:=eF (eo a.1 b.1) (ff a.2 b.2)
def gU (t:Int):bh:=if t=0 then (ib,ig) else if t=1 then (0,1) else if t=2 then (0,64) else fN
theorem EH {lo hi:Int} (h1:bg lo) (h2:bg hi):cO (eF lo hi):=by
 unfold eF;split
 ·exact ⟨by decide,by decide⟩
 ·exact ⟨h1,h2⟩
theorem Hy {a b:Int} (h1:bg a) (h2:bg b):bg (ff a b):=by unfold ff;split<;>assumption
theorem Hz {a b:Int} (h1:bg a) (h2:bg b):bg (eo a b):=by unfold eo;split<;>assumption
theorem wQ {a b:bh} (h1:cO a) (h2:cO b):cO (cF a b):=EH (Hz h1.1 h2.1) (Hy h1.2 h2.2)
theorem EI (t:Int):cO (gU t):=by
 unfold gU;split
 ·exact ⟨by decide,by decide⟩
 ·split
  ·exact ⟨by decide,by decide⟩
  ·split
   ·exact ⟨by decide,by decide⟩
   ·exact ⟨by decide,by decide⟩
def gP (k:Nat) (x y:Int):Int:=if k=0 then x+y else if k=1 then x - y else x*y
def dk (k:Nat) (x y:Int):Prop:=bg (gP k x y)
instance (k:Nat) (x y:Int):Decidable (dk k x y):=by unfold dk;infer_instance
def pj (k:Nat) (x y:Int):Int:=if (if k=2 then decide (x<0) != decide (y<0) else decide (x<0)) then ib else ig
def re (k:Nat) (x y:Int):Int:=if dk k x y then gP k x y else pj k x y
def p9 (n:Int):bh:=(n,n)
def IZ (k:Nat) (a b:bh):bh:=df (df (df (df fN (p9 (re k a.1 b.1))) (p9 (re k a.1 b.2))) (p9 (re k a.2 b.1))) (p9 (re k a.2 b.2))
def lO (k:Nat) (a b:bh):Prop:=dk k a.1 b.1∧dk k a.1 b.2∧dk k a.2 b.1∧dk k a.2 b.2
instance (k:Nat) (a b:bh):Decidable (lO k a b):=by unfold lO;infer_instance
def ir (a b:Int):bh:=if b<a then (b,a) else (a,b)
def iU (a b:bh):bh:=(if b.1<a.1 then b.1 else a.1,if a.2<b.2 then b.2 else a.2)
def wS (k:Nat) (a b:bh):bh:=iU (ir (re k a.1 b.1) (re k a.1 b.2)) (ir (re k a.2 b.1) (re k a.2 b.2))
theorem Ao (p:Int):df fN (p9 p)=(p,p):=by
 unfold df p9 fN eF
 rw[if_pos (by decide)]
 rw[if_neg (by dsimp only;omega)]
theorem gB {lo hi:Int} (h:lo≤hi) (q:Int):df (lo,hi) (p9 q)=(ff lo q,eo hi q)∧ff lo q≤eo hi q:=by
 unfold df p9
 rw[if_neg (by dsimp only;omega),if_neg (by dsimp only;omega)]
 refine ⟨U,?_⟩
 unfold ff eo;split<;>split<;>omega
theorem EJ (p q r s:Int):df (df (df (df fN (p9 p)) (p9 q)) (p9 r)) (p9 s)=iU (ir p q) (ir r s):=by
 obtain ⟨e2,h2⟩:=gB (Int.le_refl p) q
 obtain ⟨e3,h3⟩:=gB h2 r
 obtain ⟨e4,_⟩:=gB h3 s
 rw[Ao,e2,e3,e4]
 unfold ir iU ff eo
 rw[Prod.ext_iff]
 by_cases c1:q<p<;>by_cases c2:s<r<;>simp only[c1,c2,if_true,if_false]<;>constructor<;>(repeat' split)<;>omega
theorem HA (k:Nat) (a b:bh):IZ k a b=wS k a b:=EJ _ _ _ _
theorem HB {x y:Nat} (hy:0<y) (l:Nat):x≤l / y↔x*y≤l:=Nat.le_div_iff_mul_le hy
theorem tA (a b:Int) (l:Nat):a.natAbs≤l / b.natAbs↔(b=0∧a=0)∨(b≠0∧(a*b).natAbs≤l):=by
 by_cases hb:b=0
 ·subst hb;simp
 ·rw[HB (by omega),Int.natAbs_mul];simp[hb]
theorem wT {a b:Int} (ha:a≠0) (hb:b≠0):(0<a*b↔((a<0)↔(b<0)))∧a*b≠0:=by
 refine ⟨?_,Int.mul_ne_zero ha hb⟩
 rcases Int.lt_or_gt_of_ne ha with h1|h1<;>rcases Int.lt_or_gt_of_ne hb with h2|h2
 ·have:=Int.mul_pos_of_neg_of_neg h1 h2;simp[this,h1,h2]
 ·have:=Int.mul_neg_of_neg_of_pos h1 h2
  constructor
  ·intro h;omega
  ·intro h;have:=h.1 h1;omega
 ·have:=Int.mul_neg_of_pos_of_neg h1 h2
  constructor
  ·intro h;omega
  ·intro h;have:=h.2 h2;omega
 ·have:=Int.mul_pos h1 h2
  constructor
  ·intro _;constructor<;>intro h<;>omega
  ·intro _;exact this
theorem JA (a b:Int) (ha:a≠0) (hb:b≠0):(a.natAbs≤(if decide (a<0)=decide (b<0) then 9223372036854775807 else 9223372036854775808) / b.natAbs)↔dk 2 a b:=by
 have hs:=wT ha hb
 rw[tA]
 unfold dk bg
 have e:gP 2 a b=a*b:=rfl
 rw[e]
 simp only[hb,false_and,false_or,ne_eq,not_false_eq_true,true_and]
 by_cases h:decide (a<0)=decide (b<0)
 ·rw[if_pos h]
  have:(a<0)↔(b<0):=by simpa using h
  have h1:=hs.1.2 this
  omega
 ·rw[if_neg h]
  have:¬((a<0)↔(b<0)):=by simpa using h
  have h1:¬0<a*b:=fun h2=>this (hs.1.1 h2)
  omega
end
section
open Go.Proofs.Tryz
def m0 (r s:bh):Prop:=r.2<r.1∨(s.1≤r.1∧r.2≤s.2)
def dS (x:Int) (r:bh):Prop:=r.1≤x∧x≤r.2
def nK (x:Int):Int:=if x<ib then ib else if ig<x then ig else x
theorem mo {x y:Int} (h:x≤y):nK x≤nK y:=by unfold nK ib ig;(repeat' split)<;>omega
theorem kL {k:Nat} {x y:Int} (h2:k≤2) (hx:bg x) (hy:bg y):re k x y=nK (gP k x y):=by
 unfold re
 by_cases h:dk k x y
 ·rw[if_pos h]
  unfold dk bg at h;unfold nK ib ig
  rw[if_neg (by omega),if_neg (by omega)]
 ·rw[if_neg h]
  unfold pj
  unfold dk at h
  unfold bg at hx hy h
  by_cases hk:k=2
  ·subst hk
   have e:gP 2 x y=x*y:=rfl
   rw[e] at h ⊢
   simp only[if_true]
   have hx0:x≠0:=fun e=>by subst e;simp at h
   have hy0:y≠0:=fun e=>by subst e;simp at h
   have hs:=wT hx0 hy0
   by_cases c:(x<0)↔(y<0)
   ·have h1:=hs.1.2 c
    have:(decide (x<0) != decide (y<0))=false:=by simp[c]
    rw[this]
    unfold nK ib ig
    rw[if_neg (by simp),if_neg (by omega),if_pos (by omega)]
   ·have h1:¬0<x*y:=fun h2=>c (hs.1.1 h2)
    have:(decide (x<0) != decide (y<0))=true:=by
     by_cases c1:x<0<;>by_cases c2:y<0<;>simp_all
    rw[this]
    unfold nK ib ig
    rw[if_pos rfl,if_pos (by omega)]
  ·rw[if_neg hk]
   unfold gP at h ⊢
   unfold nK ib ig
   by_cases h0:k=0
   ·rw[if_pos h0] at h ⊢
    by_cases c:x<0
    ·simp only[we c,if_true];rw[if_pos (by omega)]
    ·simp only[wg c];rw[if_neg (by simp),if_neg (by omega),if_pos (by omega)]
   ·have h1:k=1:=by omega
    rw[if_neg h0,if_pos h1] at h ⊢
    by_cases c:x<0
    ·simp only[we c,if_true];rw[if_pos (by omega)]
    ·simp only[wg c];rw[if_neg (by simp),if_neg (by omega),if_pos (by omega)]
def zY (x a b:Int):Prop:=(a≤x∧x≤b)∨(b≤x∧x≤a)
theorem Ap {x a b:Int} (h:zY x a b):zY (nK x) (nK a) (nK b):=by
 rcases h with ⟨h1,h2⟩|⟨h1,h2⟩
 ·exact .inl ⟨mo h1,mo h2⟩
 ·exact .inr ⟨mo h1,mo h2⟩
theorem I1 {k:Nat} {x a b y:Int} (h1:a≤x) (h2:x≤b):zY (gP k x y) (gP k a y) (gP k b y):=by
 unfold gP zY
 split
 ·omega
 ·split
  ·omega
  ·rcases Int.le_total 0 y with hy|hy
   ·exact .inl ⟨Int.mul_le_mul_of_nonneg_right h1 hy,Int.mul_le_mul_of_nonneg_right h2 hy⟩
   ·exact .inr ⟨Int.mul_le_mul_of_nonpos_right h2 hy,Int.mul_le_mul_of_nonpos_right h1 hy⟩
theorem BO {k:Nat} {x a b y:Int} (h1:a≤y) (h2:y≤b):zY (gP k x y) (gP k x a) (gP k x b):=by
 unfold gP zY
 split
 ·omega
 ·split
  ·omega
  ·rcases Int.le_total 0 x with hx|hx
   ·exact .inl ⟨Int.mul_le_mul_of_nonneg_left h1 hx,Int.mul_le_mul_of_nonneg_left h2 hx⟩
   ·exact .inr ⟨Int.mul_le_mul_of_nonpos_left hx h2,Int.mul_le_mul_of_nonpos_left hx h1⟩
theorem BP {p q r s x u v:Int} (hu:zY u p q) (hv:zY v r s) (hx:zY x u v):dS x (iU (ir p q) (ir r s)):=by
 unfold dS iU ir zY at *
 by_cases c1:q<p<;>by_cases c2:s<r<;>simp only[c1,c2,if_true,if_false]<;>(repeat' split)<;>omega
theorem HC {k:Nat} {a b:bh} {x y:Int} (hk:k≤2) (ha:cO a) (hb:cO b) (hx:dS x a) (hy:dS y b):dS (nK (gP k x y)) (wS k a b):=by
 unfold wS
 rw[kL hk ha.1 hb.1,kL hk ha.1 hb.2,kL hk ha.2 hb.1,kL hk ha.2 hb.2]
 exact BP (Ap (BO hy.1 hy.2)) (Ap (BO hy.1 hy.2)) (Ap (I1 hx.1 hx.2))
theorem Aq {k:Nat} {a b a' b':bh} (na:a.1≤a.2) (nb:b.1≤b.2) (sa:a'.1≤a.1∧a.2≤a'.2) (sb:b'.1≤b.1∧b.2≤b'.2) (h:lO k a' b'):lO k a b:=by
 obtain ⟨h1,h2,h3,h4⟩:=h
 have key:∀x y,a'.1≤x→x≤a'.2→b'.1≤y→y≤b'.2→dk k x y:=fun x y g1 g2 g3 g4=>by
  have e1:=BO (k:=k) (x:=a'.1) g3 g4
  have e2:=BO (k:=k) (x:=a'.2) g3 g4
  have e3:=I1 (k:=k) (y:=y) g1 g2
  unfold dk bg at *
  unfold zY at e1 e2 e3
  omega
 exact ⟨key _ _ (by omega) (by omega) (by omega) (by omega),key _ _ (by omega) (by omega) (by omega) (by omega),key _ _ (by omega) (by omega) (by omega) (by omega),key _ _ (by omega) (by omega) (by omega) (by omega)⟩
end
section
open Go.Proofs.Tryz
theorem iM {x y c:Int} (hx:0≤x) (hc:0<c) (h:c≤y):0≤x.tdiv y∧x.tdiv y≤x.tdiv c:=by
 obtain ⟨n,rfl⟩:=Int.eq_ofNat_of_zero_le hx
 obtain ⟨m,rfl⟩:=Int.eq_ofNat_of_zero_le (by omega:0≤y)
 obtain ⟨k,rfl⟩:=Int.eq_ofNat_of_zero_le (by omega:0≤c)
 have e1:((n:Int).tdiv (m:Int))=((n / m:Nat):Int):=rfl
 have e2:((n:Int).tdiv (k:Int))=((n / k:Nat):Int):=rfl
 rw[e1,e2]
 have:=Nat.div_le_div_left (a:=n) (by omega:k≤m) (by omega:0<k)
 exact ⟨Int.natCast_nonneg _,Int.ofNat_le.2 this⟩
theorem JB {x a b y:Int} (hy:y≠0) (h1:a≤x) (h2:x≤b):zY (x.tdiv y) (a.tdiv y) (b.tdiv y):=by
 rcases Int.lt_or_gt_of_ne hy with h|h
 ·right
  have e:∀z:Int,z.tdiv y=-(z.tdiv (-y)):=fun z=>by rw[Int.tdiv_neg];omega
  rw[e x,e a,e b]
  have g1:=Int.tdiv_le_tdiv (c:=-y) (by omega) h1
  have g2:=Int.tdiv_le_tdiv (c:=-y) (by omega) h2
  omega
 ·exact .inl ⟨Int.tdiv_le_tdiv h h1,Int.tdiv_le_tdiv h h2⟩
theorem wU {x y c d:Int} (hc:0<c) (h1:c≤y) (h2:y≤d):zY (x.tdiv y) (x.tdiv c) (x.tdiv d):=by
 rcases Int.le_total 0 x with hx|hx
 ·right
  exact ⟨(iM hx (by omega) h2).2,(iM hx hc h1).2⟩
 ·left
  have e:∀z:Int,x.tdiv z=-((-x).tdiv z):=fun z=>by rw[Int.neg_tdiv];omega
  rw[e y,e c,e d]
  have g1:=(iM (x:=-x) (by omega) (by omega) h2).2
  have g2:=(iM (x:=-x) (by omega) hc h1).2
  omega
theorem EK {x y c d:Int} (hd:d<0) (h1:c≤y) (h2:y≤d):zY (x.tdiv y) (x.tdiv c) (x.tdiv d):=by
 have e:∀z:Int,x.tdiv z=-(x.tdiv (-z)):=fun z=>by rw[Int.tdiv_neg];omega
 rw[e y,e c,e d]
 have:=wU (x:=x) (y:=-y) (c:=-d) (d:=-c) (by omega) (by omega) (by omega)
 unfold zY at *
 omega
def oD (a b:bh):bh:=iU (ir (a.1.tdiv b.1) (a.1.tdiv b.2)) (ir (a.2.tdiv b.1) (a.2.tdiv b.2))
theorem vf {a b:bh} {x y:Int} (hb:0<b.1∨b.2<0) (hx:dS x a) (hy:dS y b):dS (x.tdiv y) (oD a b):=by
 have hy0:y≠0:=by
  unfold dS at hy
  rcases hb with h|h<;>omega
 have key:∀x:Int,zY (x.tdiv y) (x.tdiv b.1) (x.tdiv b.2):=fun x=>by
  rcases hb with h|h
  ·exact wU h hy.1 hy.2
  ·exact EK h hy.1 hy.2
 exact BP (key a.1) (key a.2) (JB hy0 hx.1 hx.2)
def mK (a b:bh):bh:=
 if a.1=ib∧b.1≤-1∧-1≤b.2 then (ib,ig) else
 if b.1=0∧b.2=0 then fN else
 if 0≤b.1 then oD a (if b.1=0 then 1 else b.1,b.2) else
 if b.2≤0 then oD a (b.1,if b.2=0 then -1 else b.2) else iU (oD a (b.1,-1)) (oD a (1,b.2))
theorem JC {a b:bh} {x y:Int} (hx:dS x a) (hy:dS y b) (h0:y≠0) (hno:¬(a.1=ib∧b.1≤-1∧-1≤b.2)):dS (x.tdiv y) (mK a b):=by
 unfold mK
 unfold dS at hy
 rw[if_neg hno,if_neg (by omega)]
 by_cases h1:0≤b.1
 ·rw[if_pos h1]
  exact vf (.inl (by dsimp only;split<;>omega)) hx ⟨by dsimp only;split<;>omega,by dsimp only;omega⟩
 ·rw[if_neg h1]
  by_cases h2:b.2≤0
  ·rw[if_pos h2]
   exact vf (.inr (by dsimp only;split<;>omega)) hx ⟨by dsimp only;omega,by dsimp only;split<;>omega⟩
  ·rw[if_neg h2]
   rcases Int.lt_or_gt_of_ne h0 with h|h
   ·have:=vf (a:=a) (b:=(b.1,-1)) (x:=x) (y:=y) (.inr (by dsimp only;omega)) hx ⟨by dsimp only;omega,by dsimp only;omega⟩
    unfold dS iU at *
    (repeat' split)<;>omega
   ·have:=vf (a:=a) (b:=(1,b.2)) (x:=x) (y:=y) (.inl (by dsimp only;omega)) hx ⟨by dsimp only;omega,by dsimp only;omega⟩
    unfold dS iU at *
    (repeat' split)<;>omega
theorem JD {a b:bh} {x y:Int} (ha:cO a) (hb:cO b) (hx:dS x a) (hy:dS y b) (hno:¬(a.1=ib∧b.1≤-1∧-1≤b.2)) (h0:y≠0):bg (x.tdiv y):=by
 have h1:=Int.natAbs_tdiv_le_natAbs x y
 unfold cO bg at *
 unfold dS at *
 unfold ib at hno
 by_cases hm:x=-9223372036854775808
 ·have hy1:y≠-1:=by
   intro e
   apply hno
   omega
  subst hm
  rcases Int.lt_or_gt_of_ne h0 with h|h
  ·have:=(iM (x:=9223372036854775808) (y:=-y) (c:=2) (by omega) (by omega) (by omega))
   have e:(-9223372036854775808:Int).tdiv y=(9223372036854775808:Int).tdiv (-y):=by
    rw[Int.tdiv_neg,←Int.neg_tdiv]
   rw[e]
   have e2:(9223372036854775808:Int).tdiv 2=4611686018427387904:=by decide
   rw[e2] at this
   omega
  ·have:=(iM (x:=9223372036854775808) (y:=y) (c:=1) (by omega) (by omega) (by omega)).1
   have e:(-9223372036854775808:Int).tdiv y=-((9223372036854775808:Int).tdiv y):=by rw[←Int.neg_tdiv]
   omega
 ·omega
end
section
open Go.Proofs.Tryz
def K8 (b:bh):Int:=eo (if b.1<0 then -b.1 else b.1) (if b.2<0 then -b.2 else b.2) - 1
def CW (a b:bh):bh:=if b.1=0∧b.2=0 then fN else (if a.1<0 then eo (-(K8 b)) a.1 else 0,if 0<a.2 then ff (K8 b) a.2 else 0)
def rg (no yes:Bool):bh:=(if no then 0 else 1,if yes then 1 else 0)
def LW (a b:bh):bh:=rg (!(decide (a.1=a.2)&&decide (a=b))) (!decide ((cF a b).2<(cF a b).1))
def Mf (a b:bh):bh:=rg (decide (b.1≤a.2)) (decide (a.1<b.2))
def Mg (a b:bh):bh:=rg (decide (b.1<a.2)) (decide (a.1≤b.2))
def HD (a:bh):bh:=rg (decide (a.2=1)) (decide (a.1=0))
def HE (a b:bh):bh:=rg (decide (a.1=0)||decide (b.1=0)) (decide (a.2=1)&&decide (b.2=1))
theorem HF {a b:bh}:(cF a b).2<(cF a b).1↔ff a.2 b.2<eo a.1 b.1:=by
 unfold cF eF
 split
 ·rename_i h;exact ⟨fun _=>h,fun _=>by decide⟩
 ·exact Iff.rfl
def wW (num:Int) (a b:bh):bh:=
 if num=0 then (if b.2=ib then fN else cF a (ib,b.2 - 1)) else
 if num=1 then cF a (ib,b.2) else
 if num=2 then cF a b else
 if num=3 then cF a (b.1,ig) else
 if num=4 then (if b.1=ig then fN else cF a (b.1+1,ig)) else a
end
section
open Go.Proofs.Tryz
def lC:bh:=(ib,ig)
def vg (k:Nat) (a b:bh) (chk:Bool):bh:=if chk=true∨lO k a b then wS k a b else lC
def ra (rs:List bh) (i:Nat):bh:=(rs[i]?).getD (0,0)
def wY (op num:Int) (rs:List bh) (chk:Bool):bh:=
 if op=0 then p9 num else if op=1∨op=12 then ra rs 0 else
 if op=2 then vg 0 (ra rs 0) (ra rs 1) chk else if op=3 then vg 1 (ra rs 0) (ra rs 1) chk else if op=4 then vg 2 (ra rs 0) (ra rs 1) chk else
 if op=5 then mK (ra rs 0) (ra rs 1) else if op=6 then CW (ra rs 0) (ra rs 1) else
 if op=7 then LW (ra rs 0) (ra rs 1) else if op=8 then Mf (ra rs 0) (ra rs 1) else if op=9 then Mg (ra rs 0) (ra rs 1) else
 if op=10 then HD (ra rs 0) else if op=11 then HE (ra rs 0) (ra rs 1) else
 if op=15 then cF (ra rs 0) (0,64) else if op=16 then p9 0 else
 if op=25 then wW num (ra rs 0) (ra rs 1) else if op=26 then wW 0 (cF (ra rs 0) (0,ig)) (ra rs 1) else lC
end
section
open Go.Proofs.Tryz
def m1 (h:bh × Bool) (n:Int) (fits:Bool) (e:Int):bh × Bool:=(df h.1 (p9 (if fits then n else e)),h.2||!fits)
def h4 (h:bh × Bool) (a b:bh) (n:Int→Int→Int) (fit:Int→Int→Bool) (e:Int→Int→Int):bh × Bool:=
 m1 (m1 (m1 (m1 h (n a.1 b.1) (fit a.1 b.1) (e a.1 b.1)) (n a.1 b.2) (fit a.1 b.2) (e a.1 b.2)) (n a.2 b.1) (fit a.2 b.1) (e a.2 b.1)) (n a.2 b.2) (fit a.2 b.2) (e a.2 b.2)
instance (k:Nat) (x y:Int):Decidable (dk k x y):=by unfold dk bg;infer_instance
instance (k:Nat) (a b:bh):Decidable (lO k a b):=by unfold lO;infer_instance
def rh (k:Nat) (a b:bh):bh × Bool:=h4 (fN,false) a b (gP k) (fun x y=>decide (dk k x y)) (pj k)
theorem EL (k:Nat) (a b:bh):rh k a b=(wS k a b,!decide (lO k a b)):=by
 rw[←HA]
 unfold rh h4 m1 IZ lO re
 simp only[Bool.false_or,wm]
 refine Prod.ext U ?_
 dsimp only
 by_cases h1:dk k a.1 b.1<;>by_cases h2:dk k a.1 b.2<;>by_cases h3:dk k a.2 b.1<;>by_cases h4:dk k a.2 b.2<;>simp[h1,h2,h3,h4]
def oE (k:Nat) (a b:bh) (chk:Bool):bh:=if chk then (rh k a b).1 else if (rh k a b).2 then lC else (rh k a b).1
theorem BQ (k:Nat) (a b:bh) (chk:Bool):oE k a b chk=vg k a b chk:=by
 unfold oE vg
 rw[EL]
 cases chk
 ·by_cases h:lO k a b<;>simp[h]
 ·simp
def f7 (x y:Int):Bool:=decide (x≠ib)||decide (y≠-1)
def nL (a p:bh) (h:bh × Bool):bh × Bool:=if p.2<p.1 then h else h4 h a p Int.tdiv f7 (fun _ _=>ig)
def uk (a b:bh):bh:=
 let h:=nL a (cF b (1,ig)) (nL a (cF b (ib,-1)) (fN,false))
 if h.2 then lC else h.1
theorem Ar {lo hi:Int} (h:lo≤hi) (p q r s:Int):df (df (df (df (lo,hi) (p9 p)) (p9 q)) (p9 r)) (p9 s)=iU (lo,hi) (iU (ir p q) (ir r s)):=by
 obtain ⟨e1,g1⟩:=gB h p
 obtain ⟨e2,g2⟩:=gB g1 q
 obtain ⟨e3,g3⟩:=gB g2 r
 obtain ⟨e4,_⟩:=gB g3 s
 rw[e1,e2,e3,e4]
 unfold iU ir ff eo
 refine Prod.ext ?_ ?_<;>dsimp only<;>(repeat' split)<;>(try dsimp only)<;>(repeat' split)<;>omega
theorem As {h:bh × Bool} {a p:bh} (hf:f7 a.1 p.1=true∧f7 a.1 p.2=true∧f7 a.2 p.1=true∧f7 a.2 p.2=true) :
  h4 h a p Int.tdiv f7 (fun _ _=>ig)=(df (df (df (df h.1 (p9 (a.1.tdiv p.1))) (p9 (a.1.tdiv p.2))) (p9 (a.2.tdiv p.1))) (p9 (a.2.tdiv p.2)),h.2):=by
 unfold h4 m1
 simp[hf.1,hf.2.1,hf.2.2.1,hf.2.2.2]
theorem EM {h:bh × Bool} {a p:bh} (n:Int→Int→Int) (fit:Int→Int→Bool) (e:Int→Int→Int) :
  (h4 h a p n fit e).2=(h.2||!(fit a.1 p.1&&fit a.1 p.2&&fit a.2 p.1&&fit a.2 p.2)):=by
 unfold h4 m1
 cases fit a.1 p.1<;>cases fit a.1 p.2<;>cases fit a.2 p.1<;>cases fit a.2 p.2<;>simp
theorem HG (a p:bh):(oD a p).1≤(oD a p).2:=by
 unfold oD iU ir
 (repeat' split)<;>(try dsimp only at *)<;>omega
theorem EN {a b:bh} (ha:cO a) (hb:cO b) (na:a.1≤a.2) (nb:b.1≤b.2):uk a b=mK a b:=by
 obtain ⟨a1,a2⟩:=a
 obtain ⟨b1,b2⟩:=b
 have ha1:=ha.1;have ha2:=ha.2;have hb1:=hb.1;have hb2:=hb.2
 unfold bg at ha1 ha2 hb1 hb2
 dsimp only at ha1 ha2 hb1 hb2 na nb
 have hM:ig=9223372036854775807:=rfl
 have hm:ib=-9223372036854775808:=rfl
 have hneg:cF (b1,b2) (ib,-1)=if b1<0 then (b1,if -1<b2 then -1 else b2) else fN:=by
  unfold cF eF ff eo
  dsimp only
  rw[hm]
  (repeat' split)<;>first|rfl|omega|(refine Prod.ext ?_ ?_<;>dsimp only<;>omega)
 have hpos:cF (b1,b2) (1,ig)=if 0<b2 then (if b1<1 then 1 else b1,b2) else fN:=by
  unfold cF eF ff eo
  dsimp only
  rw[hM]
  (repeat' split)<;>first|rfl|omega|(refine Prod.ext ?_ ?_<;>dsimp only<;>omega)
 have hno:(fN).2<(fN).1:=by decide
 unfold uk
 rw[hneg,hpos]
 have fitPos:∀x y:Int,0<y→f7 x y=true:=fun x y h=>by unfold f7;simp;right;omega
 have hposF:0<b2→(f7 a1 (if b1<1 then 1 else b1)=true∧f7 a1 b2=true∧f7 a2 (if b1<1 then 1 else b1)=true∧f7 a2 b2=true):=fun h=>
  ⟨fitPos _ _ (by split<;>omega),fitPos _ _ h,fitPos _ _ (by split<;>omega),fitPos _ _ h⟩
 by_cases cN:b1<0
 ·rw[if_pos cN]
  have hnp:¬((b1,if -1<b2 then -1 else b2):bh).2<((b1,if -1<b2 then -1 else b2):bh).1:=by dsimp only;split<;>omega
  rw[nL.eq_1 _ (b1,_),if_neg hnp]
  by_cases cW:a1=ib∧-1≤b2
  ·
   have hw:(h4 (fN,false) (a1,a2) (b1,if -1<b2 then -1 else b2) Int.tdiv f7 (fun _ _=>ig)).2=true:=by
    rw[EM]
    have:f7 a1 (if -1<b2 then -1 else b2)=false:=by unfold f7;simp;exact ⟨cW.1,by omega⟩
    dsimp only
    rw[this];simp
   have hw2:(nL (a1,a2) (if 0<b2 then (if b1<1 then 1 else b1,b2) else fN) (h4 (fN,false) (a1,a2) (b1,if -1<b2 then -1 else b2) Int.tdiv f7 (fun _ _=>ig))).2=true:=by
    generalize (if 0<b2 then (if b1<1 then 1 else b1,b2) else fN:bh)=q
    generalize h4 (fN,false) (a1,a2) (b1,if -1<b2 then -1 else b2) Int.tdiv f7 (fun _ _=>ig)=h at hw ⊢
    unfold nL
    by_cases c:q.2<q.1
    ·rw[if_pos c];exact hw
    ·rw[if_neg c,EM,hw];rfl
   dsimp only
   rw[if_pos hw2]
   unfold mK
   rw[if_pos ⟨cW.1,by dsimp only;omega,cW.2⟩];rfl
  ·have hF:f7 a1 b1=true∧f7 a1 (if -1<b2 then -1 else b2)=true∧f7 a2 b1=true∧f7 a2 (if -1<b2 then -1 else b2)=true:=by
    unfold f7
    simp only[ne_eq,Bool.or_eq_true,wm]
    refine ⟨?_,?_,?_,?_⟩<;>(try split)<;>omega
   have e1:=As (h:=(fN,false)) (a:=(a1,a2)) (p:=(b1,if -1<b2 then -1 else b2)) hF
   dsimp only at e1
   rw[e1,EJ]
   by_cases cP:0<b2
   ·rw[if_pos cP]
    have hpp:¬((if b1<1 then 1 else b1,b2):bh).2<((if b1<1 then 1 else b1,b2):bh).1:=by dsimp only;split<;>omega
    unfold nL
    rw[if_neg hpp]
    have e2:=As (h:=(iU (ir (a1.tdiv b1) (a1.tdiv (if -1<b2 then -1 else b2))) (ir (a2.tdiv b1) (a2.tdiv (if -1<b2 then -1 else b2))),false)) (a:=(a1,a2)) (p:=(if b1<1 then 1 else b1,b2)) (hposF cP)
    dsimp only at e2
    rw[e2]
    have ho:=HG (a1,a2) (b1,if -1<b2 then -1 else b2)
    unfold oD at ho
    dsimp only at ho ⊢
    rw[if_neg (by simp)]
    refine (Ar ho _ _ _ _).trans ?_
    have hx:(if -1<b2 then -1 else b2)=-1:=if_pos (by omega)
    have hy:(if b1<1 then 1 else b1)=1:=if_pos (by omega)
    have hd:mK (a1,a2) (b1,b2)=iU (oD (a1,a2) (b1,-1)) (oD (a1,a2) (1,b2)):=by
     unfold mK
     dsimp only
     rw[if_neg (by omega),if_neg (by omega),if_neg (by omega),if_neg (by omega)]
    rw[hx,hy,hd]
    rfl
   ·rw[if_neg cP]
    unfold nL
    rw[if_pos hno]
    dsimp only
    rw[if_neg (by simp)]
    have hx:(if -1<b2 then -1 else b2)=if b2=0 then -1 else b2:=by (repeat' split)<;>omega
    have hd:mK (a1,a2) (b1,b2)=oD (a1,a2) (b1,if b2=0 then -1 else b2):=by
     unfold mK
     dsimp only
     rw[if_neg (by omega),if_neg (by omega),if_neg (by omega),if_pos (by omega)]
    rw[hx,hd];rfl
 ·rw[if_neg cN]
  rw[nL.eq_1 _ fN,if_pos hno]
  by_cases cP:0<b2
  ·rw[if_pos cP]
   have hpp:¬((if b1<1 then 1 else b1,b2):bh).2<((if b1<1 then 1 else b1,b2):bh).1:=by dsimp only;split<;>omega
   unfold nL
   rw[if_neg hpp]
   have e2:=As (h:=(fN,false)) (a:=(a1,a2)) (p:=(if b1<1 then 1 else b1,b2)) (hposF cP)
   dsimp only at e2 ⊢
   rw[e2,EJ,if_neg (by simp)]
   have hy:(if b1<1 then 1 else b1)=if b1=0 then 1 else b1:=by (repeat' split)<;>omega
   have hd:mK (a1,a2) (b1,b2)=oD (a1,a2) (if b1=0 then 1 else b1,b2):=by
    unfold mK
    dsimp only
    rw[if_neg (by omega),if_neg (by omega),if_pos (by omega)]
   rw[hy,hd];rfl
  ·rw[if_neg cP]
   unfold nL
   rw[if_pos hno]
   have hd:mK (a1,a2) (b1,b2)=fN:=by
    unfold mK
    dsimp only
    rw[if_neg (by omega),if_pos (by omega)]
   rw[hd];rfl
def pk (a b:bh):bh:=
 if b=(0,0) then fN else
  let k:=if 0<b.2 then eo (if b.1<0 then -(b.1+1) else 0) (b.2 - 1) else (if b.1<0 then -(b.1+1) else 0)
  (if a.1<0 then eo a.1 (-k) else 0,if 0<a.2 then ff a.2 k else 0)
theorem EO {a b:bh} (nb:b.1≤b.2):pk a b=CW a b:=by
 obtain ⟨b1,b2⟩:=b
 unfold pk CW
 dsimp only at *
 by_cases h:b1=0∧b2=0
 ·rw[if_pos h,if_pos (by rw[h.1,h.2])]
 ·rw[if_neg h,if_neg (by intro e;cases e;exact h ⟨rfl,rfl⟩)]
  have:(if 0<b2 then eo (if b1<0 then -(b1+1) else 0) (b2 - 1) else (if b1<0 then -(b1+1) else 0))=K8 (b1,b2):=by
   unfold K8 eo;dsimp only;(repeat' split)<;>omega
  rw[this]
  refine Prod.ext ?_ ?_
  ·dsimp only;unfold eo;(repeat' split)<;>omega
  ·dsimp only;unfold ff;(repeat' split)<;>omega
def CX (always never:Bool):bh:=if always then (1,1) else if never then (0,0) else (0,1)
theorem vh {al ne no ye:Bool} (h1:no=!al) (h2:ye=!ne) (h:¬(al=true∧ne=true)):CX al ne=rg no ye:=by
 subst h1 h2
 cases al<;>cases ne<;>simp_all[CX,rg]
def kM (op:Int) (a b:bh):bh:=
 if a.2<a.1∨b.2<b.1 then fN else
 if op=7 then CX (decide (a.1=a.2)&&decide (a=b)) (decide ((cF a b).2<(cF a b).1)) else
 if op=8 then CX (decide (a.2<b.1)) (decide (b.2≤a.1)) else
 if op=9 then CX (decide (a.2≤b.1)) (decide (b.2<a.1)) else (0,1)
theorem JE {a b:bh} (na:a.1≤a.2) (nb:b.1≤b.2):kM 7 a b=LW a b:=by
 unfold kM
 rw[if_neg (by omega),if_pos rfl]
 refine vh U U ?_
 rintro ⟨h1,h2⟩
 simp only[wh,wm,HF] at h1 h2
 obtain ⟨h1,rfl⟩:=h1
 unfold ff eo at h2
 (repeat' split at h2)<;>omega
theorem JF {a b:bh} (na:a.1≤a.2) (nb:b.1≤b.2):kM 8 a b=Mf a b:=by
 unfold kM
 rw[if_neg (by omega),if_neg (by decide),if_pos rfl]
 refine vh (by rw[←decide_not];exact decide_eq_decide.2 (by omega)) (by rw[←decide_not];exact decide_eq_decide.2 (by omega)) ?_
 simp only[wm];omega
theorem JG {a b:bh} (na:a.1≤a.2) (nb:b.1≤b.2):kM 9 a b=Mg a b:=by
 unfold kM
 rw[if_neg (by omega),if_neg (by decide),if_neg (by decide),if_pos rfl]
 refine vh (by rw[←decide_not];exact decide_eq_decide.2 (by omega)) (by rw[←decide_not];exact decide_eq_decide.2 (by omega)) ?_
 simp only[wm];omega
theorem HH {a:bh} (na:a.1≤a.2) (h0:0≤a.1) (h1:a.2≤1):((1 - a.2,1 - a.1):bh)=HD a:=by
 unfold HD rg
 refine Prod.ext ?_ ?_<;>simp only[wm]<;>split<;>omega
theorem HI {a b:bh} (na:a.1≤a.2) (nb:b.1≤b.2) (h0:0≤a.1) (h1:a.2≤1) (g0:0≤b.1) (g1:b.2≤1):((ff a.1 b.1,ff a.2 b.2):bh)=HE a b:=by
 unfold HE rg ff
 refine Prod.ext ?_ ?_<;>simp only[Bool.or_eq_true,wh,wm]<;>(repeat' split)<;>omega
def Au (num:Int) (a b:bh):bh:=
 if a.2<a.1∨b.2<b.1 then fN else
 if num=0 then (if b.2=ib then fN else eF a.1 (ff a.2 (b.2 - 1))) else
 if num=1 then eF a.1 (ff a.2 b.2) else
 if num=2 then cF a b else
 if num=3 then eF (eo a.1 b.1) a.2 else
 if num=4 then (if b.1=ig then fN else eF (eo a.1 (b.1+1)) a.2) else a
theorem BR {num:Int} {a b:bh} (ha:cO a) (na:a.1≤a.2) (nb:b.1≤b.2):Au num a b=wW num a b:=by
 have h1:=ha.1;have h2:=ha.2
 unfold bg at h1 h2
 have e1:eo a.1 ib=a.1:=by unfold eo ib;split<;>omega
 have e2:ff a.2 ig=a.2:=by unfold ff ig;split<;>omega
 unfold Au wW cF
 rw[if_neg (by omega)]
 dsimp only
 rw[e1,e2]
end
section
open Go.Proofs.Tryz
open Go.Proofs
theorem gf {z:Int} (h:bg z):IntKind.i64.wrap z=z:=by
 unfold bg at h
 unfold IntKind.wrap;simp[IntKind.bits,IntKind.signed];omega
def er (a:bh) (i:Nat):Int:=if i=0 then a.1 else a.2
theorem Aw {a:bh} (h:cO a) (i:Nat):bg (er a i):=by unfold er;split;exact h.1;exact h.2
theorem qA {a:bh} {i:Nat} (h:i<2):([AV.int .i64 a.1,AV.int .i64 a.2]:List AV)[i]?=some (.int .i64 (er a i)):=by
 rcases (by omega:i=0∨i=1) with rfl|rfl<;>rfl
def KF (n:Int→Int→Int) (fit:Int→Int→Bool) (e:Int→Int→Int) (h0:bh × Bool) (a b:bh):Nat→bh × Bool
 |0=>h0
 |m+1=>m1 (KF n fit e h0 a b m) (n (er a (m / 2)) (er b (m % 2))) (fit (er a (m / 2)) (er b (m % 2))) (e (er a (m / 2)) (er b (m % 2)))
theorem wZ {n:Int→Int→Int} {fit:Int→Int→Bool} {e:Int→Int→Int} {h0:bh × Bool} {a b:bh} (i:Nat) {j:Nat} (hj:j<2) :
  KF n fit e h0 a b (2*i+(j+1))=m1 (KF n fit e h0 a b (2*i+j)) (n (er a i) (er b j)) (fit (er a i) (er b j)) (e (er a i) (er b j)):=by
 rw[←Nat.add_assoc,KF,show (2*i+j) / 2=i by omega,show (2*i+j) % 2=j by omega]
theorem lP {h:bh × Bool} {n n':Int} {fits:Bool} {e e':Int} (h1:fits=true→n=n') (h2:e=e'):m1 h n fits e=m1 h n' fits e':=by
 cases fits
 ·unfold m1;simp[h2]
 ·rw[h1 rfl,h2]
theorem HJ {x y:Int}:decide (dk 0 x y)=true→IntKind.i64.wrap (x+y)=gP 0 x y:=fun h=>gf (wk h)
theorem HK {x y:Int}:decide (dk 1 x y)=true→IntKind.i64.wrap (x - y)=gP 1 x y:=fun h=>gf (wk h)
theorem EP {x y:Int}:decide (dk 2 x y)=true→IntKind.i64.wrap (x*y)=gP 2 x y:=fun h=>gf (wk h)
theorem Mh {x y:Int} (hx:bg x) (hy:bg y):(!(decide (x<0) == decide (y<0))||(decide (IntKind.i64.wrap (x+y)<0) == decide (x<0)))=decide (dk 0 x y):=by
 have hw:IntKind.i64.wrap (x+y)=(if x+y < -9223372036854775808 then x+y+18446744073709551616 else if 9223372036854775807<x+y then x+y - 18446744073709551616 else x+y):=by
  unfold bg at hx hy
  unfold IntKind.wrap;simp[IntKind.bits,IntKind.signed];(repeat' split)<;>omega
 rw[hw,w8,wm]
 show _↔bg (x+y)
 unfold bg at *
 simp only[Bool.or_eq_true,Bool.not_eq_true',beq_eq_false_iff_ne,beq_iff_eq,decide_eq_decide,ne_eq]
 (repeat' split)<;>omega
theorem Mi {x y:Int} (hx:bg x) (hy:bg y):((decide (x<0) == decide (y<0))||(decide (IntKind.i64.wrap (x - y)<0) == decide (x<0)))=decide (dk 1 x y):=by
 have hw:IntKind.i64.wrap (x - y)=(if x - y < -9223372036854775808 then x - y+18446744073709551616 else if 9223372036854775807<x - y then x - y - 18446744073709551616 else x - y):=by
  unfold bg at hx hy
  unfold IntKind.wrap;simp[IntKind.bits,IntKind.signed];(repeat' split)<;>omega
 rw[hw,w8,wm]
 show _↔bg (x - y)
 unfold bg at *
 simp only[Bool.or_eq_true,beq_iff_eq,decide_eq_decide]
 (repeat' split)<;>omega
theorem lQ {x:Int} (h:bg x):(if x<0 then IntKind.u64.wrap (0 - IntKind.u64.wrap x) else IntKind.u64.wrap x)=((x.natAbs:Nat):Int):=by
 unfold bg at h
 unfold IntKind.wrap;simp[IntKind.bits,IntKind.signed];split<;>omega
theorem EQ {x:Int} (h:bg x):x.natAbs<18446744073709551616:=by unfold bg at h;omega
theorem Mj {x y:Int}:(decide (((x.natAbs*y.natAbs / 18446744073709551616:Nat):Int)=0)&&decide (((x.natAbs*y.natAbs % 18446744073709551616:Nat):Int)≤(if (!(decide (x<0) == decide (y<0)))=true then 9223372036854775808 else 9223372036854775807)))=decide (dk 2 x y):=by
 have hm:=Int.natAbs_mul x y
 rw[w8,wm (p:=dk 2 x y)]
 show _↔bg (x*y)
 unfold bg
 rw[←hm]
 have hs:(x<0↔y<0)→0≤x*y:=fun h=>by
  by_cases hx:x<0
  ·exact Int.le_of_lt (Int.mul_pos_of_neg_of_neg hx (h.1 hx))
  ·exact Int.mul_nonneg (by omega) (by have:=mt h.2 hx;omega)
 have hd:¬(x<0↔y<0)→x*y≤0:=fun h=>by
  by_cases hx:x<0
  ·have hy:¬y<0:=fun hy=>h ⟨fun _=>hy,fun _=>hx⟩
   exact Int.mul_nonpos_of_nonpos_of_nonneg (by omega) (by omega)
  ·have hy:y<0:=Classical.byContradiction fun hy=>h ⟨fun h=>absurd h hx,fun h=>absurd h hy⟩
   exact Int.mul_nonpos_of_nonneg_of_nonpos (by omega) (by omega)
 generalize x*y=z at *
 simp only[wh,wm,Bool.not_eq_true',beq_eq_false_iff_ne,decide_eq_decide,ne_eq]
 by_cases c:(x<0↔y<0)
 ·have:=hs c
  rw[if_neg (by simp[c])];omega
 ·have:=hd c
  rw[if_pos c];omega
theorem JH (x y:Int):(if decide (x<0)=true then ib else ig)=pj 0 x y:=rfl
theorem JI (x y:Int):(if decide (x<0)=true then ib else ig)=pj 1 x y:=rfl
theorem JJ (x y:Int):(if (!(decide (x<0) == decide (y<0)))=true then ib else ig)=pj 2 x y:=rfl
theorem BS {x y:Int} (hx:bg x) (hy:y≠0) (h:f7 x y=true):IntKind.i64.wrap (x.tdiv y)=x.tdiv y:=by
 refine gf ?_
 have h1:(x.tdiv y).natAbs=x.natAbs / y.natAbs:=Int.natAbs_tdiv x y
 have h2:x.natAbs / y.natAbs≤x.natAbs:=Nat.div_le_self _ _
 unfold bg at *
 by_cases e:x=-9223372036854775808
 ·subst e
  have hy1:y≠-1:=by unfold f7 ib at h;simpa using h
  by_cases h3:y=1
  ·subst h3;rw[Int.tdiv_one];omega
  ·have h4:2≤y.natAbs:=by omega
   have h5:(-9223372036854775808:Int).natAbs / y.natAbs≤(-9223372036854775808:Int).natAbs / 2:=Nat.div_le_div_left h4 (by omega)
   have h6:(-9223372036854775808:Int).natAbs / 2=4611686018427387904:=by decide
   omega
 ·omega
def pl (b:bh) (q:Nat):bh:=if q=0 then cF b (ib,-1) else cF b (1,ig)
def tB (a b:bh):Nat→bh × Bool
 |0=>(fN,false)
 |q+1=>nL a (pl b q) (tB a b q)
theorem ER (a b:bh):uk a b=if (tB a b 2).2 then lC else (tB a b 2).1:=rfl
theorem HM {b:bh} {q j:Nat} (h:¬(pl b q).2<(pl b q).1):er (pl b q) j≠0:=by
 unfold pl at *
 unfold er
 split at h
 ·rename_i hq
  rw[if_pos hq]
  unfold cF eF ff eo fN at *
  dsimp only at *
  (repeat' split at h)<;>(repeat' split)<;>(try dsimp only at *)<;>omega
 ·rename_i hq
  rw[if_neg hq]
  unfold cF eF ff eo fN at *
  dsimp only at *
  (repeat' split at h)<;>(repeat' split)<;>(try dsimp only at *)<;>omega
def bP (r:bh):List AV:=[.int .i64 r.1,.int .i64 r.2]
def vj (h:bh × Bool):List AV:=[.int .i64 h.1.1,.int .i64 h.1.2,.bool h.2]
theorem HN {r:bh} {x y:Int} (h1:x=r.1) (h2:y=r.2):AV.agg [.int .i64 x,.int .i64 y]=AV.agg (bP r):=by subst h1 h2;rfl
theorem ES {b:bh} {q:Nat} (h:q<2):((bP (cF b (ib,-1))++bP (cF b (1,ig))).drop (q*2)).take 2=bP (pl b q):=by
 rcases (by omega:q=0∨q=1) with rfl|rfl<;>rfl
end
section
open Go.Proofs.Tryz
open Go.Proofs
theorem mL:em prog 63 #[(0,1),(1,1)] [.int .i64 0,.int .i64 0]:=⟨_,_,jz,Z3,fun w=>by kernel_rfl,rfl⟩
variable {E:World}
set_option maxRecDepth 20000
theorem xa (a b c d:Int) (w:World):(Op.equalIn 10000 63 (.agg [.int .i64 a,.int .i64 b].toArray) (.agg [.int .i64 c,.int .i64 d].toArray)).run prog w=.ok (decide (a=c∧b=d)) w:=by
 have hS:prog.underlying 63=some (.struct (prog.fieldsOf 63)):=by kernel_rfl
 have hp:prog.stoodInHeld 63=false:=by kernel_rfl
 rw[show (10000:Nat)=9999+1 from rfl,run_equalIn_agg w 9999 _ _ _ hS hp]
 simp only[Program.fieldsOf,jz]
 simp[Op.eqFields,part,Zc,run_equalIn_int,Zu]
 by_cases h1:a=c<;>by_cases h2:b=d<;>simp[h1,h2]
theorem gV:aP prog E 41 [] (.agg (bP fN)):=by
 refine zp func41 U (by decide) U<|ae<|zu (cs:=[.int .i64 0,.int .i64 0]) Z3 U U<|fun i0=>z2<|ae<|z8 (zz (cps:=[(0,[_]),(1,[_])]) (rs:=[_,_]) mL U U U)<|zj j8 U U U U U U .head U<|z2<|zg<|ym U ⟨_,.head⟩ jk j8 U ?_
 rfl
theorem I2 (n:Int):aP prog E 70 [.int .i64 n] (.agg (bP (p9 n))):=by
 refine zp func70 U (by decide) U<|ae<|zu (cs:=[.int .i64 0,.int .i64 0]) Z3 U U<|fun i2=>z2<|ae<|aa U<|aa U<|z8 (zz (cps:=[(0,[_]),(1,[_])]) (rs:=[_,_]) mL U U U)<|zj j8 U U U U U U .head U<|z2<|zg<|ym U ⟨_,.head⟩ jk j8 U ?_
 rfl
theorem ET:aP prog E 112 [] (.agg (bP lC)):=by
 refine zp func112 U (by decide) U<|ae<|zu (cs:=[.int .i64 0,.int .i64 0]) Z3 U U<|fun i0=>z2<|ae<|z8 (zz (cps:=[(0,[_]),(1,[_])]) (rs:=[_,_]) mL U U U)<|zj j8 U U U U U U .head U<|z2<|zg<|ym U ⟨_,.head⟩ jk j8 U ?_
 rfl
theorem EU (t:Int):aP prog E 69 [.int .i64 t] (.agg (bP (gU t))):=by
 refine zp func69 U (by decide) U<|ae<|zu (cs:=[.int .i64 0,.int .i64 0]) Z3 U U<|fun i2=>z2<|zb<|ae<|aa U<|z2<|zi<|ae<|ao U U<|ad U<|z2<|zw U (fun c1=>?_) (fun c1=>?_)
 ·refine ae<|ze (ET) U<|zj j8 U U U U U U .head U<|z2<|zg<|ym U ⟨_,.head⟩ jk j8 U ?_
  exact HN (by simp_all[gU,lC]) (by simp_all[gU,lC])
 ·refine ae<|ao U U<|ad U<|z2<|zw U (fun c2=>?_) (fun c2=>?_)
  ·refine ae<|z8 (zz (cps:=[(0,[_]),(1,[_])]) (rs:=[_,_]) mL U U U)<|zj j8 U U U U U U .head U<|z2<|zg<|ym U ⟨_,.head⟩ jk j8 U ?_
   exact HN (by simp_all[gU,lC]) (by simp_all[gU,lC])
  ·refine ae<|ao U U<|ad U<|z2<|zw U (fun c3=>?_) (fun c3=>?_)
   ·refine ae<|z8 (zz (cps:=[(0,[_]),(1,[_])]) (rs:=[_,_]) mL U U U)<|zj j8 U U U U U U .head U<|z2<|zg<|ym U ⟨_,.head⟩ jk j8 U ?_
    exact HN (by simp_all[gU,lC]) (by simp_all[gU,lC])
   ·refine zf<|ae<|ze (gV) U<|zj j8 U U U U U U .head U<|z2<|zg<|ym U ⟨_,.head⟩ jk j8 U ?_
    exact HN (by simp_all[gU,lC]) (by simp_all[gU,lC])
theorem ul (lo hi:Int):aP prog E 188 [.int .i64 lo,.int .i64 hi] (.agg (bP (eF lo hi))):=by
 refine zp func188 U (by decide) U<|ae<|zu (cs:=[.int .i64 0,.int .i64 0]) Z3 U U<|fun i4=>z2<|zb<|ae<|aa U<|aa U<|be U U<|z2<|zn U (fun c=>?_) (fun c=>?_)
 ·refine ae<|ze (gV) U<|zj j8 U U U U U U .head U<|z2<|zg<|ym U ⟨_,.head⟩ jk j8 U ?_
  rw[eF,if_pos c];try rfl
 ·refine zf<|ae<|aa U<|aa U<|z8 (zz (cps:=[(0,[_]),(1,[_])]) (rs:=[_,_]) mL U U U)<|zj j8 U U U U U U .head U<|z2<|zg<|ym U ⟨_,.head⟩ jk j8 U ?_
  rw[eF,if_neg c];try rfl
theorem pm (a b:bh):aP prog E 146 [.agg (bP a),.agg (bP b)] (.agg (bP (cF a b))):=by
 refine zp func146 U (by decide) U<|ae<|y6 (cs:=_) U U U<|y6 (cs:=_) U U U<|zu (cs:=[.int .i64 0,.int .i64 0]) Z3 U U<|fun i4=>z2<|ae<|ak jz U Z1 U U<|aA Zc U<|ak jz U Z1 U U<|aA Zc U<|z8 (Gv.maxI U U)<|ak jz U Z1 U U<|aA Zc U<|ak jz U Z1 U U<|aA Zc U<|z8 (Gv.minI U U)<|ze (ul _ _) U<|zj j8 U U U U U U .head U<|z2<|zg<|ym U ⟨_,.head⟩ jk j8 U ?_
 rfl
theorem fi (r:bh):aP prog E 71 [.agg (bP r)] (.bool (decide (r.2<r.1))):=by
 refine zp func71 U (by decide) U<|ae<|y6 (cs:=_) U U U<|ad U<|z2<|ae<|ak jz U Z1 U U<|aA Zc U<|ak jz U Z1 U U<|aA Zc U<|be U U<|ad U<|z2<|zg<|zm (x:=.bool _) U ?_
 rfl
theorem K9 (r:bh) (n:Int):aP prog E 72 [.agg (bP r),.int .i64 n] (.bool (decide (r.1≤n)&&decide (n≤r.2))):=by
 refine zp func72 U (by decide) U<|ae<|y6 (cs:=_) U U U<|ad U<|z2<|ae<|aa U<|ak jz U Z1 U U<|aA Zc U<|z8 (q9 U U)<|aq U<|zt (s:=9) U (fun c4=>?_) (fun c4=>?_)
 ·refine z7 U U c4<|aa U<|z7 U U c4<|ak jz U Z1 U U<|z7 U U c4<|aA Zc U<|z7 U U c4<|z8 (Gv.leq U U)<|au U c4 U<|ad U<|z2<|zg<|zm (x:=.bool _) U ?_
  exact jb (by simp_all<;>omega)
 ·refine z6 U U c4<|z6 U U c4<|z6 U U c4<|z6 U U c4<|aw U c4 U<|ad U<|z2<|zg<|zm (x:=.bool _) U ?_
  exact jb (by simp_all<;>omega)
def mq (a b:bh):Bool:=decide (a.2<a.1∨(b.1≤a.1∧a.2≤b.2))
theorem HO (a b:bh):aP prog E 38 [.agg (bP a),.agg (bP b)] (.bool (mq a b)):=by
 refine zp func38 U (by decide) U<|ae<|y6 (cs:=_) U U U<|y6 (cs:=_) U U U<|ad U<|z2<|ae<|ac jk j8 U U<|ze (fi _) U<|aq U<|zt (s:=7) U (fun c5=>?_) (fun c5=>?_)
 ·refine z6 U U c5<|z6 U U c5<|z6 U U c5<|z6 U U c5<|z6 U U c5<|zk U U<|zk U U<|zk U U<|zk U U<|z6 U U c5<|au U c5 U<|ad U<|z2<|zg<|zm (x:=.bool _) U ?_
  exact jb (by unfold mq;rw[w8];simp_all<;>omega)
 ·refine z7 U U c5<|ac jk j8 U U<|z7 U U c5<|ak jz U Z1 U U<|z7 U U c5<|aA Zc U<|z7 U U c5<|ze (K9 _ _) U<|z7 U U c5<|aq U<|zt (s:=12) U (fun c6=>?_) (fun c6=>?_)
  ·refine z7 U U c6<|ac jk j8 U U<|z7 U U c6<|ak jz U Z1 U U<|z7 U U c6<|aA Zc U<|z7 U U c6<|ze (K9 _ _) U<|z7 U U c5<|au U c6 U<|aw U c5 U<|ad U<|z2<|zg<|zm (x:=.bool _) U ?_
   exact jb (by unfold mq;rw[w8];simp_all<;>omega)
  ·refine z6 U U c6<|z6 U U c6<|z6 U U c6<|z6 U U c6<|z7 U U c5<|aw U c6 U<|aw U c5 U<|ad U<|z2<|zg<|zm (x:=.bool _) U ?_
   exact jb (by unfold mq;rw[w8];simp_all<;>omega)
theorem I3 (a b:bh):aP prog E 148 [.agg (bP a),.agg (bP b)] (.agg (bP (df a b))):=by
 refine zp func148 U (by decide) U<|ae<|y6 (cs:=_) U U U<|y6 (cs:=_) U U U<|zu (cs:=[.int .i64 0,.int .i64 0]) Z3 U U<|fun i4=>z2<|zb<|zi<|ae<|ac jk j8 U U<|ze (fi _) U<|ad U<|z2<|zn U (fun c1=>?_) (fun c1=>?_)
 ·refine ae<|ak jz U Z1 U U<|aA Zc U<|ak jz U Z1 U U<|aA Zc U<|ze (ul _ _) U<|zj j8 U U U U U U .head U<|z2<|zg<|ym U ⟨_,.head⟩ jk j8 U ?_
  rw[df,if_pos c1];try rfl
 ·refine ae<|ac jk j8 U U<|ze (fi _) U<|ad U<|z2<|zn U (fun c2=>?_) (fun c2=>?_)
  ·refine ae<|ac jk j8 U U<|zj j8 U U U U U U .head U<|z2<|zg<|ym U ⟨_,.head⟩ jk j8 U ?_
   rw[df,if_neg c1,if_pos c2];try rfl
  ·refine zf<|ae<|ak jz U Z1 U U<|aA Zc U<|ak jz U Z1 U U<|aA Zc U<|z8 (Gv.minI U U)<|ak jz U Z1 U U<|aA Zc U<|ak jz U Z1 U U<|aA Zc U<|z8 (Gv.maxI U U)<|z8 (zz (cps:=[(0,[_]),(1,[_])]) (rs:=[_,_]) mL U U U)<|zj j8 U U U U U U .head U<|z2<|zg<|ym U ⟨_,.head⟩ jk j8 U ?_
   rw[df,if_neg c1,if_neg c2];try rfl
theorem EV (b:Bool):aP prog E 211 [.bool b] (.int .i64 (if b=true then ib else ig)):=by
 refine zp func211 U (by decide) U<|ae<|am U<|z2<|zb<|ae<|aq U<|z2<|zw U (fun c7=>?_) (fun c7=>?_)
 ·refine ae<|am U<|z2<|zg<|zm (x:=.int _ _) U ?_
  simp_all[ib,ig]
 ·refine zf<|ae<|am U<|z2<|zg<|zm (x:=.int _ _) U ?_
  simp_all[ib,ig]
theorem I4 (op:Int):aP prog E 184 [.int .i64 op] (.bool (decide (op=2)||(decide (op=3)||decide (op=4)))):=by
 refine zp func184 U (by decide) U<|ae<|ad U<|z2<|ae<|aa U<|ao U U<|aq U<|zt (s:=5) U (fun c8=>?_) (fun c8=>?_)
 ·refine z6 U U c8<|z6 U U c8<|au U c8 U<|aq U<|z6 U U U<|z6 U U U<|au U U U<|ad U<|z2<|zg<|zm (x:=.bool _) U ?_
  exact jb (by simp_all)
 ·refine z7 U U c8<|aa U<|z7 U U c8<|ao U U<|aw U c8 U<|aq U<|zt (s:=9) U (fun c9=>?_) (fun c9=>?_)
  ·refine z6 U U c9<|z6 U U c9<|au U c9 U<|ad U<|z2<|zg<|zm (x:=.bool _) U ?_
   exact jb (by simp_all)
  ·refine z7 U U c9<|aa U<|z7 U U c9<|ao U U<|aw U c9 U<|ad U<|z2<|zg<|zm (x:=.bool _) U ?_
   exact jb (by simp_all)
theorem Mk {x y:Int} (hx:bg x) (hy:bg y):aP prog E 209 [.int .i64 x,.int .i64 y] (.tup [.int .i64 (IntKind.i64.wrap (x+y)),.bool (decide (dk 0 x y))]):=by
 rw[←Mh hx hy]
 refine zp func209 U (by decide) U<|ae<|am U<|ad U<|z2<|ae<|aa U<|aa U<|z8 (Gv.addW U U)<|am U<|z2<|ae<|aa U<|aa U<|ap U U<|aa U<|ap U U<|z8 (Gv.neqB Yo U U)<|aq U<|zt (s:=16) U (fun c10=>?_) (fun c10=>?_)
 ·refine z6 U U c10<|z6 U U c10<|z6 U U c10<|z6 U U c10<|z6 U U c10<|au U c10 U<|am U<|ad U<|z2<|zg<|qn (x:=.int _ _) (y:=.bool _) U U ?_
  simp_all
 ·refine z7 U U c10<|aa U<|z7 U U c10<|ap U U<|z7 U U c10<|aa U<|z7 U U c10<|ap U U<|z7 U U c10<|z8 (Gv.eqlB Yo U U)<|aw U c10 U<|am U<|ad U<|z2<|zg<|qn (x:=.int _ _) (y:=.bool _) U U ?_
  simp_all
theorem Ml {x y:Int} (hx:bg x) (hy:bg y):aP prog E 212 [.int .i64 x,.int .i64 y] (.tup [.int .i64 (IntKind.i64.wrap (x - y)),.bool (decide (dk 1 x y))]):=by
 rw[←Mi hx hy]
 refine zp func212 U (by decide) U<|ae<|am U<|ad U<|z2<|ae<|aa U<|aa U<|z8 (Gv.subW U U)<|am U<|z2<|ae<|aa U<|aa U<|ap U U<|aa U<|ap U U<|z8 (Gv.eqlB Yo U U)<|aq U<|zt (s:=16) U (fun c11=>?_) (fun c11=>?_)
 ·refine z6 U U c11<|z6 U U c11<|z6 U U c11<|z6 U U c11<|z6 U U c11<|au U c11 U<|am U<|ad U<|z2<|zg<|qn (x:=.int _ _) (y:=.bool _) U U ?_
  simp_all
 ·refine z7 U U c11<|aa U<|z7 U U c11<|ap U U<|z7 U U c11<|aa U<|z7 U U c11<|ap U U<|z7 U U c11<|z8 (Gv.eqlB Yo U U)<|aw U c11 U<|am U<|ad U<|z2<|zg<|qn (x:=.int _ _) (y:=.bool _) U U ?_
  simp_all
theorem La {x:Int} (hx:bg x):aP prog E 231 [.int .i64 x] (.int .u64 (x.natAbs:Int)):=by
 rw[←lQ hx]
 refine zp func231 U (by decide) U<|ae<|am U<|z2<|zb<|ae<|aa U<|ap U U<|z2<|zn U (fun c=>?_) (fun c=>?_)
 ·refine ae<|aa U<|z8 (ql Zu Zq U)<|z8 (Gv.neg U)<|am U<|z2<|zg<|zm (x:=.int _ _) U ?_
  rw[if_pos c];try rfl
 ·refine zf<|ae<|aa U<|z8 (ql Zu Zq U)<|am U<|z2<|zg<|zm (x:=.int _ _) U ?_
  rw[if_neg c];try rfl
theorem Mm {x y:Int} (hy:y≠0):aP prog E 214 [.int .i64 x,.int .i64 y] (.tup [.int .i64 (IntKind.i64.wrap (x.tdiv y)),.bool true]):=by
 refine zp func214 U (by decide) U<|ae<|am U<|ad U<|z2<|zb<|ae<|aa U<|ao U U<|z2<|yq U (by simpa using hy)<|zf<|ae<|aa U<|aa U<|z8 (Gv.quo U U (by omega))<|am U<|ad U<|z2<|zg<|qn (x:=.int _ _) (y:=.bool _) U U ?_
 rfl
end
section
open Go.Proofs.Tryz
open Go.Proofs
theorem kN (z:Int):IntKind.i64.wrap z=(z+9223372036854775808) % 18446744073709551616 - 9223372036854775808:=by
 unfold IntKind.wrap;simp[IntKind.bits,IntKind.signed];(try split)<;>omega
theorem ri (z:Int):IntKind.u64.wrap z=z % 18446744073709551616:=by
 unfold IntKind.wrap;simp[IntKind.bits,IntKind.signed]
theorem CY (x y:Int):IntKind.i64.wrap (IntKind.u64.wrap (IntKind.u64.wrap x+IntKind.u64.wrap y))=IntKind.i64.wrap (x+y):=by
 simp only[kN,ri];omega
theorem CZ (x y:Int):IntKind.i64.wrap (IntKind.u64.wrap (IntKind.u64.wrap x - IntKind.u64.wrap y))=IntKind.i64.wrap (x - y):=by
 simp only[kN,ri];omega
theorem C0 (x y:Int):IntKind.i64.wrap (IntKind.u64.wrap (IntKind.u64.wrap x*IntKind.u64.wrap y))=IntKind.i64.wrap (x*y):=by
 simp only[kN,ri]
 rw[←Int.mul_emod];omega
theorem C1 (x:Int):IntKind.i64.wrap (IntKind.u64.wrap (0 - IntKind.u64.wrap x))=IntKind.i64.wrap (x.tdiv (-1)):=by
 rw[show x.tdiv (-1)=-x by rw[Int.tdiv_neg,Int.tdiv_one]]
 simp only[kN,ri];omega
theorem Mn {x y:Int} (hx:bg x) (hx0:x≠0) (hy0:y≠0):decide ((x.natAbs:Int)≤IntKind.u64.wrap ((if (decide (x<0) == decide (y<0))=true then 9223372036854775807 else 9223372036854775808:Int).tdiv (y.natAbs:Int)))=decide (dk 2 x y):=by
 rw[decide_eq_decide,←JA x y hx0 hy0]
 obtain ⟨l,hl⟩:∃l:Nat,(if decide (x<0)=decide (y<0) then 9223372036854775807 else 9223372036854775808)=l:=⟨_,rfl⟩
 have hl2:(if (decide (x<0) == decide (y<0))=true then 9223372036854775807 else 9223372036854775808:Int)=(l:Int):=by
  rw[←hl]
  by_cases h:decide (x<0)=decide (y<0)
  ·rw[if_pos h,if_pos (by simpa using h)];rfl
  ·rw[if_neg h,if_neg (by simpa using h)];rfl
 have hll:l≤9223372036854775808:=by rw[←hl];split<;>omega
 rw[hl,hl2,show ((l:Int)).tdiv (y.natAbs:Int)=((l / y.natAbs:Nat):Int) from rfl,ri]
 have h3:=Nat.div_le_self l y.natAbs
 generalize l / y.natAbs=q at h3 ⊢
 omega
end
end Go.Proofs.YtbbonnfjealmpaaGreatDoor
