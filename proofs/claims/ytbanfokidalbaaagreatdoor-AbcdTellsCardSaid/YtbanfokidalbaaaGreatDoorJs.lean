/- The document's edges of an instruction. Of programs that are little. -/
import Derived.Test.YtbanfokidalbaaaGreatDoorJr
set_option linter.unusedVariables false
set_option linter.unusedSimpArgs false
set_option linter.unusedSectionVars false
namespace Go.Proofs.YtbanfokidalbaaaGreatDoor
open Go.Proofs.Tryz
open Go.Proofs Go.Lib Go.Shelf Go.RowKit
theorem Gx:dM prog 84 126 2 3 [.int .i64 0,.int .i64 0,.int .i64 0,.int .i64 0,.int .i64 0,.int .i64 0]:=⟨_,Zu,sizeOf126,zeroValue126,by decide,by decide,by kernel_rfl⟩
variable {E:World}
set_option maxRecDepth 20000
def sT (r:be):Bool:=decide (r.1≤r.2)&&(decide (0≤r.1)&&decide (r.1≠lc))
theorem pD (f:ad) (l:List be) (v:Int):li f l v=sT (dW f l v):=by
 unfold li sT dz
 rw[qz]
 unfold mO lc
 simp only[w9,Bool.not_eq_true',wc,decide_eq_false_iff_not]
 omega
def D8 (k:Nat) (a b:be):Bool:=!(decide (a.1≤a.2)&&decide (b.1≤b.2))||decide (jA k a b)
theorem BT (f:ad) (l:List be) (x:aN):gN f l x=D8 (x.op - 2).toNat (dW f l (x0 x)) (dW f l (x1 x)):=by
 unfold gN D8
 rw[qz]
 simp only[Bool.or_eq_true,Bool.not_eq_true',wc,Bool.and_eq_false_iff,decide_eq_false_iff_not]
 constructor
 ·rintro (h|h|h)
  ·exact .inl (.inl (by omega))
  ·exact .inl (.inr (by omega))
  ·exact .inr h
 ·rintro ((h|h)|h)
  ·exact .inl (by omega)
  ·exact .inr (.inl (by omega))
  ·exact .inr (.inr h)
theorem gI {f:ad} {l:List be} {v:Int} (ho:cY (dW f l v)) {n:Int} (hn:n=(dW f l v).1∨n=(dW f l v).2) {s:Int} (hs:s=1∨s=-1):dz (dW f l v) n=true→aP (s*n):=fun h=>by
 have h1:=ho.1;have h2:=ho.2
 unfold dz mO lc at h
 simp only[w9,wc] at h
 unfold aP at h1 h2 ⊢
 rcases hs with rfl|rfl<;>rcases hn with rfl|rfl<;>omega
theorem IY {f:ad} {l:List be} {x:aN} (h:1≤x.args.length):ra (jS f l x) 0=dW f l (x0 x):=by
 rw[Fl];unfold x0;rw[qq (by omega)];rfl
theorem IZ {f:ad} {l:List be} {x:aN} (h:2≤x.args.length):ra (jS f l x) 1=dW f l (x1 x):=by
 rw[Fl];unfold x1;rw[qq (by omega)];rfl
theorem BU {x:aN} (h:1≤x.args.length):x0 x∈x.args:=by unfold x0;rw[qq (by omega)];exact qu _
theorem uY {x:aN} (h:2≤x.args.length):x1 x∈x.args:=by unfold x1;rw[qq (by omega)];exact qu _
theorem aK.knowE {env:aS} {O O':OL} {t i m:Nat} {T:TypeId} {es:List dI} (hv:env t=.own i m) (hO:dw O i (.grow 3 T (eC es)) O') (hm:es.length=m):aK E env O (bC env t (.fro 3 (es.map gg))) O':=by
 rw[pC] at hO
 exact aK.know hv hO (fun r hr=>by obtain ⟨z,_,rfl⟩:=List.mem_map.1 hr;rfl) (by decide) (by rw[qx];exact hm)
theorem I1 {f:ad} {l:List be} {up:Bool} {x:aN} {b a:Int} (h:x.op=0):cT f l up x b a=[(n0 f,x.dst,x.num)]:=by unfold cT;rw[if_pos h]
theorem Mb {f:ad} {l:List be} {up:Bool} {x:aN} {b a:Int} (h:x.op=1∨x.op=12∨x.op=15):cT f l up x b a=[(x0 x,x.dst,0)]:=by unfold cT;rw[if_neg (by omega),if_pos h]
theorem JQ {f:ad} {l:List be} {up:Bool} {x:aN} {b a:Int} (h:x.op=16):cT f l up x b a=[(n0 f,x.dst,0)]:=by unfold cT;rw[if_neg (by omega),if_neg (by omega),if_neg (by omega),if_neg (by omega),if_pos h]
theorem wS {f:ad} {l:List be} {up:Bool} {x:aN} {b a:Int} (h:x.op=2∨x.op=3):cT f l up x b a=kW f l up x b a:=by unfold cT;rw[if_neg (by omega),if_neg (by omega),if_pos h]
theorem sU {f:ad} {l:List be} {up:Bool} {x:aN} {b a:Int} (h:x.op=5∨x.op=6):cT f l up x b a=gD f l up x:=by unfold cT;rw[if_neg (by omega),if_neg (by omega),if_neg (by omega),if_pos h]
theorem kR {f:ad} {l:List be} {up:Bool} {x:aN} {b a:Int} (h:x.op=25):cT f l up x b a=Bs up x:=by unfold cT;rw[if_neg (by omega),if_neg (by omega),if_neg (by omega),if_neg (by omega),if_neg (by omega),if_pos h]
theorem JR {f:ad} {l:List be} {up:Bool} {x:aN} {b a:Int} (h:x.op=26):cT f l up x b a=[(x0 x,x.dst,0),if up=true then (x1 x,x.dst,-1) else (n0 f,x.dst,0)]:=by unfold cT;rw[if_neg (by omega),if_neg (by omega),if_neg (by omega),if_neg (by omega),if_neg (by omega),if_neg (by omega),if_pos h]
theorem Mc {f:ad} {l:List be} {up:Bool} {x:aN} {b a:Int} (h0:¬x.op=0) (h1:¬(x.op=1∨x.op=12∨x.op=15)) (h2:¬x.op=2) (h3:¬x.op=3) (h5:¬x.op=5) (h6:¬x.op=6) (h16:¬x.op=16) (h25:¬x.op=25) (h26:¬x.op=26):cT f l up x b a=[]:=by
 unfold cT;rw[if_neg h0,if_neg h1,if_neg (by omega),if_neg (by omega),if_neg h16,if_neg h25,if_neg h26]
theorem I2 {f:ad} {l:List be} {up:Bool} {x:aN} {b a:Int} (hc:(gN f l x||kq f x b a)=false):kW f l up x b a=[]:=by unfold kW;rw[hc];rfl
theorem Md {f:ad} {l:List be} {x:aN} {b a:Int} (h:x.op=2) (hc:(gN f l x||kq f x b a)=true):kW f l true x b a=fG (fG [] x.dst (x0 x) (dW f l (x1 x)) (dW f l (x1 x)).2 1) x.dst (x1 x) (dW f l (x0 x)) (dW f l (x0 x)).2 1:=by unfold kW;rw[hc,if_pos rfl,if_neg (by omega)];rfl
theorem Me {f:ad} {l:List be} {x:aN} {b a:Int} (h:x.op=2) (hc:(gN f l x||kq f x b a)=true):kW f l false x b a=fG (fG [] x.dst (x0 x) (dW f l (x1 x)) (dW f l (x1 x)).1 1) x.dst (x1 x) (dW f l (x0 x)) (dW f l (x0 x)).1 1:=by unfold kW;rw[hc,if_pos rfl,if_neg (by omega)];rfl
theorem Mf {f:ad} {l:List be} {x:aN} {b a:Int} (h:x.op=3) (hc:(gN f l x||kq f x b a)=true):kW f l true x b a=fG [] x.dst (x0 x) (dW f l (x1 x)) (dW f l (x1 x)).1 (-1):=by unfold kW;rw[hc,if_pos rfl,if_pos h];rfl
theorem Mg {f:ad} {l:List be} {x:aN} {b a:Int} (h:x.op=3) (hc:(gN f l x||kq f x b a)=true):kW f l false x b a=fG [] x.dst (x0 x) (dW f l (x1 x)) (dW f l (x1 x)).2 (-1):=by unfold kW;rw[hc,if_pos rfl,if_pos h];rfl
theorem tU (to from_:Int) (r:be) (n s:Int):(fG [] to from_ r n s).length≤1:=by have:=D7 [] to from_ r n s;simpa using this
theorem Mh {f:ad} {l:List be} {x:aN} {b a:Int} {U1 D:List dI} (h1:cT f l true x b a=U1) (h2:cT f l false x b a=D):AV.tup [.fro 3 (U1.map gg),.fro 3 (D.map gg)]=AV.tup [.fro 3 ((cT f l true x b a).map gg),.fro 3 ((cT f l false x b a).map gg)]:=by rw[h1,h2]
set_option maxHeartbeats 8000000 in
theorem AF (f:ad) (hf:small f) (hS:bx f) (hE:bF f) (l:List be) (hll:l.length=f.vars.length) (hok:∀u:Int,0≤u→cY (lv l u)) (x:aN) (hI:tJ f x) (block at_:Nat) (hb:block<f.blocks.length) :
  aJ prog E 53 [.agg (bL f),IQ (mv f),.fro 2 (l.map bg),.agg (cK x),.int .i64 block,.int .i64 at_] (.tup [.fro 3 ((cT f l true x block at_).map gg),.fro 3 ((cT f l false x block at_).map gg)]):=by
 have hal:(jS f l x).length=x.args.length:=by unfold jS;rw[qx]
 have hvn:=hf.1
 have hx3:x.args.length≤3:=by
  rw[hI.len]
  rcases m1 x.op with h|h
  ·unfold bq;rw[h];decide
  ·have:∀r∈gz,r.2.1.data.toList.length≤3:=by decide
   have:=this _ h
   unfold bq;simpa using this
 refine zo func53 Z (by decide) Z<|ah<|yb (cs:=_) Z Z Z<|yb (cs:=_) Z Z Z<|bV Z<|bV Z<|z6<|zc<|y7 (fun j=>false) (by kernel_rfl) Z (zn (.rest _))<|au 0 Z (cA j8 Z ja Z Z)<|au 1 Z (du jc Z)<|au 2 Z (cA je Z Zg Z Z)<|au 3 Z (iS Zp Z)<|au 4 Z (Gv.lenM js Z)<|au 5 Z (Fa Z)<|au 6 Z (Fa Z)<|bY<|ah<|zy (cs:=[.int .i64 0,.int .i64 0,.int .i64 0,.int .i64 0,.int .i64 0,.int .i64 0]) zeroValue169 Z Z<|fun i16=>z6<|zc<|ah<|ae j8 Z jg Z Z<|aI jn Z<|ak j9 Z<|aa Z<|z6<|zh<|ya (γ:=Nat) [1,2,4,5,6,9,12,13,14,15,16,31,32] (fun m=>[(33,.int .i64 m)]) (fun m=>[(i16,.cells 169 (c3 ((jS f l x).take m)))]) (fun m=>m≤x.args.length) (fun m=>x.args.length - m) 0 aG aC (qt _) ?_
 rintro m hm
 refine ah<|aw Z Z<|z6<|zc<|zp Z (fun cm=>?_) (fun cm=>?_)
 ·have hm2:m<x.args.length:=by simp at cm;omega
  obtain ⟨a,ha⟩:∃a,x.args[m]=a:=⟨_,rfl⟩
  have hav:=hI.args a (ha▸qu hm2)
  obtain ⟨ha0,ha1⟩:=bH hav
  obtain ⟨y,hy,hyt,hy0,hy2⟩:=uW hS hav
  have htk:=DZ (f:=f) (l:=l) hm2
  rw[ha] at htk
  have hAl:((jS f l x).take m).length=m:=by rw[w6];omega
  obtain ⟨A,hA⟩:∃A,(jS f l x).take m=A:=⟨_,rfl⟩
  rw[hA] at hAl htk ⊢
  have hof:fA (lv l a) (de y.ty)=dW f l a:=by unfold dW;rw[←hyt]
  refine zd<|zc<|zh<|ah<|aa Z<|za (bD m j9 ja Z Z Z (by rw[qq hm2,ha])) ?_
  refine ax jc Z<|ay Z<|ay Z<|z6 ?_
  rcases (by omega:m=0∨m=1∨m=2) with rfl|rfl|rfl
  ·obtain rfl:A=[]:=List.eq_nil_of_length_eq_zero hAl
   refine y7 (fun j=>Nat.beq j 14) (by kernel_rfl) Z (zn (.rest _))<|au 0 Z (cG Z)<|au 1 Z (kl Z)<|au 2 Z (cG Z)<|au 3 Z (bD a.toNat X3 jq Z Z (by omega) (uV (by omega)))<|au 4 Z (yk Y9 jq Z Z)<|au 5 Z (cA je Z Zg Z Z)<|au 6 Z (iS Zp Z)<|au 7 Z (cG Z)<|au 8 Z (bD a.toNat js Zx Z Z (by omega) hy)<|au 9 Z (cA Zd Z Yj Z Z)<|au 10 Z (du Yv Z)<|aV 11 Z<|ze (gU (t:=y.ty) ⟨hy0,hy2⟩) Z<|z6<|aV 12 Z<|ze (lO (lv l a) (de y.ty)) Z<|z6<|au 13 Z (Gv.idxAO (j:=0) Z7 jq Z Z Z (by decide) Z)<|yx<|q1 (i:=14) Z (by kernel_rfl) (by kernel_rfl)<|qg (l:=[_,_]) (new:=[_,_,_,_,_,_]) jq Z Z Z Z Z Z .head Z Z<|z6<|yz (by kernel_rfl)<|aM<|aA Z Z<|aa Z<|z6 ?_
   exact ⟨1,sI,aG,⟨_,(.refl _),by rw[htk,←hof];rfl⟩,hm2,by omega⟩
  ·obtain ⟨r0,rfl⟩:=List.length_eq_one_iff.1 hAl
   refine y7 (fun j=>Nat.beq j 14) (by kernel_rfl) Z (zn (.rest _))<|au 0 Z (cG Z)<|au 1 Z (kl Z)<|au 2 Z (cG Z)<|au 3 Z (bD a.toNat X3 jq Z Z (by omega) (uV (by omega)))<|au 4 Z (yk Y9 jq Z Z)<|au 5 Z (cA je Z Zg Z Z)<|au 6 Z (iS Zp Z)<|au 7 Z (cG Z)<|au 8 Z (bD a.toNat js Zx Z Z (by omega) hy)<|au 9 Z (cA Zd Z Yj Z Z)<|au 10 Z (du Yv Z)<|aV 11 Z<|ze (gU (t:=y.ty) ⟨hy0,hy2⟩) Z<|z6<|aV 12 Z<|ze (lO (lv l a) (de y.ty)) Z<|z6<|au 13 Z (Gv.idxAO (j:=1) Z7 jq Z Z Z (by decide) Z)<|yx<|q1 (i:=14) Z (by kernel_rfl) (by kernel_rfl)<|qg (l:=[_,_]) (new:=[_,_,_,_,_,_]) jq Z Z Z Z Z Z .head Z Z<|z6<|yz (by kernel_rfl)<|aM<|aA Z Z<|aa Z<|z6 ?_
   exact ⟨2,sI,aG,⟨_,(.refl _),by rw[htk,←hof];rfl⟩,hm2,by omega⟩
  ·obtain ⟨r0,r1,rfl⟩:∃r0 r1,A=[r0,r1]:=by
    match A,hAl with
    |[r0,r1],_=>exact ⟨r0,r1,rfl⟩
   refine y7 (fun j=>Nat.beq j 14) (by kernel_rfl) Z (zn (.rest _))<|au 0 Z (cG Z)<|au 1 Z (kl Z)<|au 2 Z (cG Z)<|au 3 Z (bD a.toNat X3 jq Z Z (by omega) (uV (by omega)))<|au 4 Z (yk Y9 jq Z Z)<|au 5 Z (cA je Z Zg Z Z)<|au 6 Z (iS Zp Z)<|au 7 Z (cG Z)<|au 8 Z (bD a.toNat js Zx Z Z (by omega) hy)<|au 9 Z (cA Zd Z Yj Z Z)<|au 10 Z (du Yv Z)<|aV 11 Z<|ze (gU (t:=y.ty) ⟨hy0,hy2⟩) Z<|z6<|aV 12 Z<|ze (lO (lv l a) (de y.ty)) Z<|z6<|au 13 Z (Gv.idxAO (j:=2) Z7 jq Z Z Z (by decide) Z)<|yx<|q1 (i:=14) Z (by kernel_rfl) (by kernel_rfl)<|qg (l:=[_,_]) (new:=[_,_,_,_,_,_]) jq Z Z Z Z Z Z .head Z Z<|z6<|yz (by kernel_rfl)<|aM<|aA Z Z<|aa Z<|z6 ?_
   exact ⟨3,sI,aG,⟨_,(.refl _),by rw[htk,←hof];rfl⟩,hm2,by omega⟩
 ·have hmn:m=x.args.length:=by simp at cm;omega
  subst hmn
  rw[←hal,qv]
  obtain ⟨rs,hrs⟩:∃rs,jS f l x=rs:=⟨_,rfl⟩
  rw[hrs] at hal ⊢
  have hl0:1≤x.args.length→ra rs 0=dW f l (x0 x):=fun h=>by rw[←hrs];exact IY h
  have hl1:2≤x.args.length→ra rs 1=dW f l (x1 x):=fun h=>by rw[←hrs];exact IZ h
  have hg0:1≤x.args.length→x.args[0]?=some (x0 x):=fun h=>by unfold x0;rw[qq (by omega)];rfl
  have hg1:2≤x.args.length→x.args[1]?=some (x1 x):=fun h=>by unfold x1;rw[qq (by omega)];rfl
  have htwo:x.op=2∨x.op=3∨x.op=5∨x.op=6∨x.op=25∨x.op=26→x.args.length=2:=fun h=>by rw[hI.len];exact rO h
  have hone:x.op=1∨x.op=12∨x.op=15→1≤x.args.length:=fun h=>by rw[hI.len];exact Gu h
  refine yg (yd (t:=16) Z .head)<|y9<|ah<|ay Z<|ay Z<|z6<|zc<|ah<|ae j8 Z jg Z Z<|aI jn Z<|ak j9 Z<|aO Z Z<|z6<|yf (γ:=Int) [1,4,5,6,9,12,13,14,15,16,20] (fun y=>[(19,.int .i64 y)]) (fun y=>[]) (fun y=>y=if 1≤x.args.length then x0 x else -1) ?_ (fun _ _ h=>h) ?_
  ·refine zp Z (fun c=>?_) (fun c=>?_)
   ·have c2:1≤x.args.length:=by omega
    refine aM<|ae j8 Z jg Z Z<|aI jn Z<|za (bD 0 j9 ja Z Z Z (hg0 c2))<|ax jc Z<|ay Z<|z6 ?_
    exact ⟨_,la,aG,aC,by rw[if_pos c2]⟩
   ·refine zd ?_
    exact ⟨_,la,aG,aC,by rw[if_neg (by omega)]⟩
  ·rintro Y1 hY
   refine zc<|ah<|ae j8 Z jg Z Z<|aI jn Z<|ak j9 Z<|aO Z Z<|z6<|yf (γ:=Int) [1,4,5,6,9,12,13,14,15,16,19] (fun y=>[(20,.int .i64 y)]) (fun y=>[]) (fun y=>y=if 2≤x.args.length then x1 x else -1) ?_ (fun _ _ h=>h) ?_
   ·refine zp Z (fun c=>?_) (fun c=>?_)
    ·have c2:2≤x.args.length:=by omega
     refine aM<|ae j8 Z jg Z Z<|aI jn Z<|za (bD 1 j9 ja Z Z Z (hg1 c2))<|ax jc Z<|ay Z<|z6 ?_
     exact ⟨_,la,aG,aC,by rw[if_pos c2]⟩
    ·refine zd ?_
     exact ⟨_,la,aG,aC,by rw[if_neg (by omega)]⟩
   ·rintro Z1 hZ
    refine zc<|yf (γ:=Bool) [1,4,5,6,9,12,13,14,15,16,19,20] (fun u=>[(21,.bool u)]) (fun u=>[]) (fun u=>u=sT (ra rs 0)) ?_ (fun _ _ h=>h) ?_
    ·refine aM<|za (yp (j:=0) Z7 jq Z Z Z (by decide) Z)<|ae jr Z ji Z Z<|ax jp Z<|za (yp (j:=0) Z7 jq Z Z Z (by decide) Z)<|ae jr Z ji Z Z<|ax jp Z<|za (Gv.leq Z Z)<|ai Z<|zm (s:=76) Z (fun c1=>?_) (fun c1=>?_)
     ·refine z8 Z Z c1<|za (yp (j:=0) Z7 jq Z Z Z (by decide) Z)<|z8 Z Z c1<|ae jr Z ji Z Z<|z8 Z Z c1<|ax jp Z<|z8 Z Z c1<|za (qa Z Z)<|ap Z c1 Z<|ai Z<|zm (s:=82) Z (fun c2=>?_) (fun c2=>?_)
      ·refine z8 Z Z c2<|za (yp (j:=0) Z7 jq Z Z Z (by decide) Z)<|z8 Z Z c2<|ae jr Z ji Z Z<|z8 Z Z c2<|ax jp Z<|z8 Z Z c2<|aH Z Z<|ap Z c2 Z<|ac Z<|z6 ?_
       exact ⟨_,ec,aG,aC,by unfold sT lc;simp_all<;>omega⟩
      ·refine z7 Z Z c2<|z7 Z Z c2<|z7 Z Z c2<|z7 Z Z c2<|aq Z c2 Z<|ac Z<|z6 ?_
       exact ⟨_,ec,aG,aC,by unfold sT lc;simp_all<;>omega⟩
     ·refine z7 Z Z c1<|z7 Z Z c1<|z7 Z Z c1<|z7 Z Z c1<|aq Z c1 Z<|ai Z<|z7 Z Z Z<|z7 Z Z Z<|z7 Z Z Z<|z7 Z Z Z<|aq Z Z Z<|ac Z<|z6 ?_
      exact ⟨_,ec,aG,aC,by unfold sT lc;simp_all<;>omega⟩
    ·rintro p hp
     refine zc<|yf (γ:=Bool) [1,4,5,6,9,12,13,14,15,16,19,20,21] (fun u=>[(22,.bool u)]) (fun u=>[]) (fun u=>u=sT (ra rs 1)) ?_ (fun _ _ h=>h) ?_
     ·refine aM<|za (yp (j:=1) Z7 jq Z Z Z (by decide) Z)<|ae jr Z ji Z Z<|ax jp Z<|za (yp (j:=1) Z7 jq Z Z Z (by decide) Z)<|ae jr Z ji Z Z<|ax jp Z<|za (Gv.leq Z Z)<|ai Z<|zm (s:=95) Z (fun c3=>?_) (fun c3=>?_)
      ·refine z8 Z Z c3<|za (yp (j:=1) Z7 jq Z Z Z (by decide) Z)<|z8 Z Z c3<|ae jr Z ji Z Z<|z8 Z Z c3<|ax jp Z<|z8 Z Z c3<|za (qa Z Z)<|ap Z c3 Z<|ai Z<|zm (s:=101) Z (fun c4=>?_) (fun c4=>?_)
       ·refine z8 Z Z c4<|za (yp (j:=1) Z7 jq Z Z Z (by decide) Z)<|z8 Z Z c4<|ae jr Z ji Z Z<|z8 Z Z c4<|ax jp Z<|z8 Z Z c4<|aH Z Z<|ap Z c4 Z<|ac Z<|z6 ?_
        exact ⟨_,sI,aG,aC,by unfold sT lc;simp_all<;>omega⟩
       ·refine z7 Z Z c4<|z7 Z Z c4<|z7 Z Z c4<|z7 Z Z c4<|aq Z c4 Z<|ac Z<|z6 ?_
        exact ⟨_,sI,aG,aC,by unfold sT lc;simp_all<;>omega⟩
      ·refine z7 Z Z c3<|z7 Z Z c3<|z7 Z Z c3<|z7 Z Z c3<|aq Z c3 Z<|ai Z<|z7 Z Z Z<|z7 Z Z Z<|z7 Z Z Z<|z7 Z Z Z<|aq Z Z Z<|ac Z<|z6 ?_
       exact ⟨_,sI,aG,aC,by unfold sT lc;simp_all<;>omega⟩
     ·rintro q hq
      refine zc<|yf (γ:=Bool) [1,4,5,6,9,12,13,14,15,16,19,20,21,22] (fun u=>[(23,.bool u)]) (fun u=>[]) (fun u=>u=(decide ((ra rs 0).1≤(ra rs 0).2)&&decide ((ra rs 1).1≤(ra rs 1).2))) ?_ (fun _ _ h=>h) ?_
      ·refine aM<|za (yp (j:=0) Z7 jq Z Z Z (by decide) Z)<|ae jr Z ji Z Z<|ax jp Z<|za (yp (j:=0) Z7 jq Z Z Z (by decide) Z)<|ae jr Z ji Z Z<|ax jp Z<|za (Gv.leq Z Z)<|ai Z<|zm (s:=114) Z (fun c5=>?_) (fun c5=>?_)
       ·refine z8 Z Z c5<|za (yp (j:=1) Z7 jq Z Z Z (by decide) Z)<|z8 Z Z c5<|ae jr Z ji Z Z<|z8 Z Z c5<|ax jp Z<|z8 Z Z c5<|za (yp (j:=1) Z7 jq Z Z Z (by decide) Z)<|z8 Z Z c5<|ae jr Z ji Z Z<|z8 Z Z c5<|ax jp Z<|z8 Z Z c5<|za (Gv.leq Z Z)<|ap Z c5 Z<|ac Z<|z6 ?_
        exact ⟨_,⟨rfl,rfl,rfl,rfl,rfl,rfl,rfl,rfl,rfl,rfl,rfl,rfl,rfl,rfl,trivial⟩,aG,aC,by simp_all<;>omega⟩
       ·refine z7 Z Z c5<|z7 Z Z c5<|z7 Z Z c5<|z7 Z Z c5<|z7 Z Z c5<|z7 Z Z c5<|z7 Z Z c5<|aq Z c5 Z<|ac Z<|z6 ?_
        exact ⟨_,⟨rfl,rfl,rfl,rfl,rfl,rfl,rfl,rfl,rfl,rfl,rfl,rfl,rfl,rfl,trivial⟩,aG,aC,by simp_all<;>omega⟩
      ·rintro some hso
       have hch:=pe (E:=E) f hf x (by omega) block at_ hb
       obtain ⟨C,hC⟩:∃C,kq f x block at_=C:=⟨_,rfl⟩
       rw[hC] at hch
       refine ah<|ab jm jh Z Z<|aU Z<|ab Ye Z9 Z Z<|aa Z<|aa Z<|ze (hch) Z<|ac Z<|z6<|zc<|zc<|yf (γ:=Bool) [9,12,13,14,15,16,19,20,21,22,23,24] (fun u=>[(136,.bool u)]) (fun u=>[]) (fun u=>u=decide (x.op=2∨x.op=3)) ?_ (fun _ _ h=>h) ?_
       ·refine aM<|ae j8 Z Zq Z Z<|ax Zz Z<|aj Z Z<|ai Z<|zm (s:=132) Z (fun c6=>?_) (fun c6=>?_)
        ·refine z7 Z Z c6<|z7 Z Z c6<|z7 Z Z c6<|ap Z c6 Z<|z6 ?_
         exact ⟨_,ec,aG,aC,by simp_all⟩
        ·refine z8 Z Z c6<|ae j8 Z Zq Z Z<|z8 Z Z c6<|ax Zz Z<|z8 Z Z c6<|aj Z Z<|aq Z c6 Z<|z6 ?_
         exact ⟨_,ec,aG,aC,by simp_all⟩
       ·rintro u hu
        subst hu
        refine yf (γ:=Bool) [9,12,13,14,15,16,19,20,21,22] (fun FB=>[(24,.bool FB)]) (fun FB=>[]) (fun FB=>FB=if x.op=2∨x.op=3 then (C||D8 (x.op - 2).toNat (ra rs 0) (ra rs 1)) else C) ?_ (fun _ _ h=>h) ?_
        ·refine zp Z (fun c2=>?_) (fun c2=>?_)
         ·have h2:=htwo (by omega)
          have ok0:cY (ra rs 0):=by rw[hl0 (by omega)];exact gf hok (bH (hI.args _ (BU (by omega)))).1
          have ok1:cY (ra rs 1):=by rw[hl1 (by omega)];exact gf hok (bH (hI.args _ (uY (by omega)))).1
          have hk:(((x.op - 2).toNat:Nat):Int)=x.op - 2:=by omega
          have hrf:=LX (E:=E) (k:=(x.op - 2).toNat) (by omega) ok0 ok1
          rw[hk] at hrf
          refine aM<|ai Z<|ai Z<|zm (s:=138) Z (fun c7=>?_) (fun c7=>?_)
          ·refine z7 Z Z c7<|z7 Z Z c7<|ap Z c7 Z<|ai Z<|z7 Z Z Z<|z7 Z Z Z<|z7 Z Z Z<|z7 Z Z Z<|z7 Z Z Z<|z7 Z Z Z<|z7 Z Z Z<|z7 Z Z Z<|ap Z Z Z<|ac Z<|z6 ?_
           exact ⟨_,iy,aG,aC,by rw[if_pos c2];unfold D8;simp_all⟩
          ·refine z8 Z Z c7<|ai Z<|z8 Z Z c7<|aF Z<|aq Z c7 Z<|ai Z<|zm (s:=142) Z (fun c8=>?_) (fun c8=>?_)
           ·refine z7 Z Z c8<|z7 Z Z c8<|z7 Z Z c8<|z7 Z Z c8<|z7 Z Z c8<|z7 Z Z c8<|z7 Z Z c8<|z7 Z Z c8<|ap Z c8 Z<|ac Z<|z6 ?_
            exact ⟨_,iy,aG,aC,by rw[if_pos c2];unfold D8;simp_all⟩
           ·refine z8 Z Z c8<|ae j8 Z Zq Z Z<|z8 Z Z c8<|ax Zz Z<|z8 Z Z c8<|za (Gv.sub Z Z (by unfold nN;omega))<|z8 Z Z c8<|za (yp (j:=0) Z7 jq Z Z Z (by decide) Z)<|z8 Z Z c8<|za (Gv.loadAF (l:=[_,_]) Y9 jq Z Z Z)<|z8 Z Z c8<|za (yp (j:=1) Z7 jq Z Z Z (by decide) Z)<|z8 Z Z c8<|za (Gv.loadAF (l:=[_,_]) Y9 jq Z Z Z)<|z8 Z Z c8<|ze (hrf) Z<|aq Z c8 Z<|ac Z<|z6 ?_
            exact ⟨_,iy,aG,aC,by rw[if_pos c2];unfold D8;simp_all⟩
         ·refine zd ?_
          exact ⟨_,iy,aG,aC,by rw[if_neg c2]⟩
        ·rintro FB hFB
         refine zc<|ah<|ae j8 Z Zq Z Z<|ax Zz Z<|z6<|yf (γ:=List dI × List dI) [] (fun g=>[(12,.fro 3 (g.1.map gg)),(13,.fro 3 (g.2.map gg))]) (fun g=>[]) (fun g=>g.1=cT f l true x block at_∧g.2=cT f l false x block at_) ?_ (fun _ _ h=>h) ?_
         ·refine zh<|ah<|aj Z Z<|ac Z<|z6<|zp Z (fun c0=>?_) (fun c0=>?_)
          ·refine zc<|y7 (fun j=>false) (by kernel_rfl) Z (zn (.rest _))<|au 0 Z (cG Z)<|au 1 Z (cG Z)<|au 2 Z (cA j8 Z ji Z Z)<|au 3 Z (du jp Z)<|au 4 Z (zz (cps:=[(0,[_]),(1,[_]),(2,[_])]) (rs:=[_,_,_]) eG Z Z Z)<|au 6 Z (cG Z)<|au 7 Z (cG Z)<|au 8 Z (cA j8 Z ji Z Z)<|au 9 Z (du jp Z)<|au 10 Z (zz (cps:=[(0,[_]),(1,[_]),(2,[_])]) (rs:=[_,_,_]) eG Z Z Z)<|yv (i:=5) (j:=11) Z Z (by kernel_rfl) ?_ ?_
           ·refine y8 (rows:=[[_,_,_]]) dL Z Z Z Z Z<|z6<|au 12 Z (iw Z)<|aV 11 Z<|y8 (rows:=[[_,_,_]]) dL Z Z Z Z Z<|z6<|au 13 Z (iw Z)<|bY<|zg<|qb (x:=.fro _ _) (y:=.fro _ _) Z Z ?_
            rw[I1 c0,I1 c0];rfl
           ·refine y8 (rows:=[[_,_,_]]) dL Z Z Z Z Z<|z6<|aV 5 Z<|y8 (rows:=[[_,_,_]]) dL Z Z Z Z Z<|z6<|au 12 Z (iw Z)<|au 13 Z (iw Z)<|bY<|zg<|qb (x:=.fro _ _) (y:=.fro _ _) Z Z ?_
            rw[I1 c0,I1 c0];rfl
          ·refine zc<|ah<|aj Z Z<|ac Z<|z6<|yf (γ:=Bool) [9,12,13,14,15,16,19,20,21,22,24,153] (fun u=>[(168,.bool u)]) (fun u=>[]) (fun u=>u=decide (x.op=1∨x.op=12∨x.op=15)) ?_ (fun _ _ h=>h) ?_
           ·refine zt Z (fun c9=>?_) (fun c9=>?_)
            ·refine zd ?_
             exact ⟨_,ec,aG,aC,by simp_all⟩
            ·refine ah<|aj Z Z<|ac Z<|z6<|zt Z (fun c10=>?_) (fun c10=>?_)
             ·refine zd ?_
              exact ⟨_,ec,aG,aC,by simp_all⟩
             ·refine aM<|aj Z Z<|ac Z<|z6 ?_
              exact ⟨_,ec,aG,aC,by simp_all⟩
           ·rintro u hu
            subst hu
            refine zp Z (fun c1=>?_) (fun c1=>?_)
            ·have hy0:Y1=x0 x:=by rw[hY,if_pos (hone c1)]
             rw[hy0]
             refine ah<|aa Z<|aa Z<|za (zz (cps:=[(0,[_]),(1,[_]),(2,[_])]) (rs:=[_,_,_]) eG Z Z Z)<|y8 (rows:=[[_,_,_]]) dL Z Z Z Z Z<|aa Z<|aa Z<|za (zz (cps:=[(0,[_]),(1,[_]),(2,[_])]) (rs:=[_,_,_]) eG Z Z Z)<|y8 (rows:=[[_,_,_]]) dL Z Z Z Z Z<|za (iw Z)<|za (iw Z)<|z6<|zg<|qb (x:=.fro _ _) (y:=.fro _ _) Z Z ?_
             rw[Mb c1,Mb c1];rfl
            ·refine ah<|aj Z Z<|ac Z<|z6<|zp Z (fun c16=>?_) (fun c16=>?_)
             ·refine ah<|aa Z<|aa Z<|za (zz (cps:=[(0,[_]),(1,[_]),(2,[_])]) (rs:=[_,_,_]) eG Z Z Z)<|y8 (rows:=[[_,_,_]]) dL Z Z Z Z Z<|aa Z<|aa Z<|za (zz (cps:=[(0,[_]),(1,[_]),(2,[_])]) (rs:=[_,_,_]) eG Z Z Z)<|y8 (rows:=[[_,_,_]]) dL Z Z Z Z Z<|za (iw Z)<|za (iw Z)<|z6<|zg<|qb (x:=.fro _ _) (y:=.fro _ _) Z Z ?_
              rw[JQ c16,JQ c16];rfl
             ·refine ah<|aj Z Z<|ac Z<|z6<|zp Z (fun c2=>?_) (fun c2=>?_)
              ·have h2:=htwo (by omega)
               have r0:=hl0 (by omega)
               have r1:=hl1 (by omega)
               have hy0:Y1=x0 x:=by rw[hY,if_pos (by omega)]
               have hz0:Z1=x1 x:=by rw[hZ,if_pos (by omega)]
               have o0:cY (dW f l (x0 x)):=gf hok (bH (hI.args _ (BU (by omega)))).1
               have o1:cY (dW f l (x1 x)):=gf hok (bH (hI.args _ (uY (by omega)))).1
               have hcd:(gN f l x||kq f x block at_)=FB:=by rw[BT,hFB,if_pos (by omega),hC,r0,r1,Bool.or_comm]
               refine ah<|ai Z<|z6<|zt Z (fun cF=>?_) (fun cF=>?_)
               ·have hT:(gN f l x||kq f x block at_)=true:=hcd.trans cF
                have e1:=Md (a:=at_) (b:=block) c2 hT
                have e2:=Me (a:=at_) (b:=block) c2 hT
                rw[←r0,←r1] at e1 e2
                rw[hy0,hz0]
                have w1:=tU x.dst (x0 x) (ra rs 1) (ra rs 1).2 1
                have w2:=tU x.dst (x0 x) (ra rs 1) (ra rs 1).1 1
                refine dh (t:=12) (k:=3) (T:=126) Z<|fun i12=>dh (t:=13) (k:=3) (T:=126) Z<|fun i13=>zc<|y7 (fun j=>false) (by kernel_rfl) Z (zn (.rest _))<|au 0 Z (Fb Z)<|au 1 Z (cG Z)<|au 2 Z (cG Z)<|au 3 Z (yp (j:=1) Z7 jq Z Z Z (by decide) Z)<|au 4 Z (Gv.loadAF (l:=[_,_]) Y9 jq Z Z Z)<|au 5 Z (yp (j:=1) Z7 jq Z Z Z (by decide) Z)<|au 6 Z (cA jr Z ji Z Z)<|au 7 Z (du jp Z)<|au 9 Z (cG Z)<|au 10 Z (cG Z)<|au 11 Z (yp (j:=0) Z7 jq Z Z Z (by decide) Z)<|au 12 Z (Gv.loadAF (l:=[_,_]) Y9 jq Z Z Z)<|au 13 Z (yp (j:=0) Z7 jq Z Z Z (by decide) Z)<|au 14 Z (cA jr Z ji Z Z)<|au 15 Z (du jp Z)<|aV 8 Z<|zu Z (zn (.r (.l (.rest _)))) (ej i12 [] (by decide) x.dst (x0 x) (ra rs 1) (ra rs 1).2 1 (by rw[r1];exact gI o1 (.inr rfl) (.inl rfl))) ?_
                rintro r201 O201 ⟨j1,rfl,rfl,_⟩
                refine z6<|aV 16 Z<|zu Z (zn (.l (.r (.rest _)))) (ej j1 _ (by omega) x.dst (x1 x) (ra rs 0) (ra rs 0).2 1 (by rw[r0];exact gI o0 (.inr rfl) (.inl rfl))) ?_
                rintro r209 O209 ⟨j2,rfl,rfl,_⟩
                refine z6<|au 17 Z (Ll Z)<|bY<|yg (aK.knowE (t:=12) (by rfl) .head (by rfl))<|y7 (fun j=>false) (by kernel_rfl) Z (zn (.rest _))<|au 0 Z (Fb Z)<|au 1 Z (cG Z)<|au 2 Z (cG Z)<|au 3 Z (yp (j:=1) Z7 jq Z Z Z (by decide) Z)<|au 4 Z (Gv.loadAF (l:=[_,_]) Y9 jq Z Z Z)<|au 5 Z (yp (j:=1) Z7 jq Z Z Z (by decide) Z)<|au 6 Z (cA jr Z ji Z Z)<|au 7 Z (du jp Z)<|au 9 Z (cG Z)<|au 10 Z (cG Z)<|au 11 Z (yp (j:=0) Z7 jq Z Z Z (by decide) Z)<|au 12 Z (Gv.loadAF (l:=[_,_]) Y9 jq Z Z Z)<|au 13 Z (yp (j:=0) Z7 jq Z Z Z (by decide) Z)<|au 14 Z (cA jr Z ji Z Z)<|au 15 Z (du jp Z)<|aV 8 Z<|zu Z (zn (.l (.rest _))) (ej i13 [] (by decide) x.dst (x0 x) (ra rs 1) (ra rs 1).1 1 (by rw[r1];exact gI o1 (.inl rfl) (.inl rfl))) ?_
                rintro r218 O218 ⟨j3,rfl,rfl,_⟩
                refine z6<|aV 16 Z<|zu Z (zn (.l (.rest _))) (ej j3 _ (by omega) x.dst (x1 x) (ra rs 0) (ra rs 0).1 1 (by rw[r0];exact gI o0 (.inl rfl) (.inl rfl))) ?_
                rintro r226 O226 ⟨j4,rfl,rfl,_⟩
                refine zf (aK.knowE (t:=226) (by rfl) .head (by rfl))<|z6<|au 17 Z (iw Z)<|bY ?_
                exact ⟨(_,_),trivial,di,aC,by rw[wS (.inl c2),wS (.inl c2),e1,e2];exact ⟨rfl,rfl⟩⟩
               ·have hT:(gN f l x||kq f x block at_)=false:=hcd.trans cF
                refine yg (qc (t:=12) Z (Ay.nil 3))<|yg (qc (t:=13) Z (Ay.nil 3))<|zd ?_
                exact ⟨([],[]),trivial,di,aC,by rw[wS (.inl c2),wS (.inl c2),I2 hT,I2 hT];exact ⟨rfl,rfl⟩⟩
              ·refine ah<|aj Z Z<|ac Z<|z6<|zp Z (fun c3=>?_) (fun c3=>?_)
               ·have h2:=htwo (by omega)
                have r0:=hl0 (by omega)
                have r1:=hl1 (by omega)
                have hy0:Y1=x0 x:=by rw[hY,if_pos (by omega)]
                have o1:cY (dW f l (x1 x)):=gf hok (bH (hI.args _ (uY (by omega)))).1
                have hcd:(gN f l x||kq f x block at_)=FB:=by rw[BT,hFB,if_pos (by omega),hC,r0,r1,Bool.or_comm]
                refine ah<|ai Z<|z6<|zt Z (fun cF=>?_) (fun cF=>?_)
                ·have hT:(gN f l x||kq f x block at_)=true:=hcd.trans cF
                 have e1:=Mf (a:=at_) (b:=block) c3 hT
                 have e2:=Mg (a:=at_) (b:=block) c3 hT
                 rw[←r1] at e1 e2
                 rw[hy0]
                 refine dh (t:=12) (k:=3) (T:=126) Z<|fun i12=>dh (t:=13) (k:=3) (T:=126) Z<|fun i13=>ah<|bw Z<|aa Z<|aa Z<|za (yp (j:=1) Z7 jq Z Z Z (by decide) Z)<|za (Gv.loadAF (l:=[_,_]) Y9 jq Z Z Z)<|za (yp (j:=1) Z7 jq Z Z Z (by decide) Z)<|ae jr Z ji Z Z<|ax jp Z<|zu Z (zn (.r (.l (.rest _)))) (ej i12 [] (by decide) x.dst (x0 x) (ra rs 1) (ra rs 1).1 (-1) (by rw[r1];exact gI o1 (.inl rfl) (.inr rfl))) ?_
                 rintro r238 O238 ⟨j1,rfl,rfl,_⟩
                 refine bM Z<|z6<|yg (aK.knowE (t:=12) (by rfl) .head (by rfl))<|aM<|bw Z<|aa Z<|aa Z<|za (yp (j:=1) Z7 jq Z Z Z (by decide) Z)<|za (Gv.loadAF (l:=[_,_]) Y9 jq Z Z Z)<|za (yp (j:=1) Z7 jq Z Z Z (by decide) Z)<|ae jr Z ji Z Z<|ax jp Z<|zu Z (zn (.l (.rest _))) (ej i13 [] (by decide) x.dst (x0 x) (ra rs 1) (ra rs 1).2 (-1) (by rw[r1];exact gI o1 (.inr rfl) (.inr rfl))) ?_
                 rintro r247 O247 ⟨j3,rfl,rfl,_⟩
                 refine bM Z<|zf (aK.knowE (t:=13) (by rfl) .head (by rfl))<|z6 ?_
                 exact ⟨(_,_),trivial,di,aC,by rw[wS (.inr c3),wS (.inr c3),e1,e2];exact ⟨rfl,rfl⟩⟩
                ·have hT:(gN f l x||kq f x block at_)=false:=hcd.trans cF
                 refine yg (qc (t:=12) Z (Ay.nil 3))<|yg (qc (t:=13) Z (Ay.nil 3))<|zd ?_
                 exact ⟨([],[]),trivial,di,aC,by rw[wS (.inr c3),wS (.inr c3),I2 hT,I2 hT];exact ⟨rfl,rfl⟩⟩
               ·refine ah<|aj Z Z<|ac Z<|z6<|zp Z (fun c5=>?_) (fun c5=>?_)
                ·have h2:=htwo (by omega)
                 have r0:=hl0 (by omega)
                 have r1:=hl1 (by omega)
                 have hy0:Y1=x0 x:=by rw[hY,if_pos (by omega)]
                 have hp0:li f l (x0 x)=p:=by rw[pD,←r0];exact hp.symm
                 have hq0:li f l (x1 x)=q:=by rw[pD,←r1];exact hq.symm
                 have hre:∀up,gD f l up x=if (p&&q)=true then[if up=true then (x0 x,x.dst,0) else (n0 f,x.dst,0)] else[]:=fun up=>by
                  unfold gD qP
                  rw[if_pos c5,hp0,hq0,show decide (x.op=6)=false from w8 (by omega),Bool.false_and]
                  exact w5 _
                 refine ah<|ai Z<|ai Z<|zm (s:=251) Z (fun cp=>?_) (fun cp=>?_)
                 ·refine z8 Z Z cp<|ai Z<|ap Z cp Z<|z6<|zt Z (fun cq=>?_) (fun cq=>?_)
                  ·rw[hy0]
                   have hre1:∀up,gD f l up x=[if up=true then (x0 x,x.dst,0) else (n0 f,x.dst,0)]:=fun up=>by rw[hre,if_pos (by rw[show p=true from cp,show q=true from cq];rfl)]
                   refine ah<|aa Z<|aa Z<|za (zz (cps:=[(0,[_]),(1,[_]),(2,[_])]) (rs:=[_,_,_]) eG Z Z Z)<|y8 (rows:=[[_,_,_]]) dL Z Z Z Z Z<|aa Z<|aa Z<|za (zz (cps:=[(0,[_]),(1,[_]),(2,[_])]) (rs:=[_,_,_]) eG Z Z Z)<|y8 (rows:=[[_,_,_]]) dL Z Z Z Z Z<|za (iw Z)<|za (iw Z)<|z6<|zg<|qb (x:=.fro _ _) (y:=.fro _ _) Z Z ?_
                   rw[sU (.inl c5),sU (.inl c5),hre1,hre1];rfl
                  ·refine yg (qc (t:=12) Z (Ay.nil 3))<|yg (qc (t:=13) Z (Ay.nil 3))<|zd ?_
                   exact ⟨([],[]),trivial,di,aC,by have hre0:∀up,gD f l up x=[]:=(fun up=>by rw[hre,if_neg (by rw[show q=false from cq];simp)]);rw[sU (.inl c5),sU (.inl c5),hre0,hre0];exact ⟨rfl,rfl⟩⟩
                 ·refine zf (qc (t:=12) Z (Ay.nil 3))<|zf (qc (t:=13) Z (Ay.nil 3))<|z7 Z Z cp<|aq Z cp Z<|z6<|yj Z Z<|zd ?_
                  exact ⟨([],[]),trivial,di,aC,by have hre0:∀up,gD f l up x=[]:=(fun up=>by rw[hre,if_neg (by rw[show p=false from cp];simp)]);rw[sU (.inl c5),sU (.inl c5),hre0,hre0];exact ⟨rfl,rfl⟩⟩
                ·refine ah<|aj Z Z<|ac Z<|z6<|zp Z (fun c6=>?_) (fun c6=>?_)
                 ·have h2:=htwo (by omega)
                  have r0:=hl0 (by omega)
                  have r1:=hl1 (by omega)
                  have hy0:Y1=x0 x:=by rw[hY,if_pos (by omega)]
                  have hz0:Z1=x1 x:=by rw[hZ,if_pos (by omega)]
                  have hp0:li f l (x0 x)=p:=by rw[pD,←r0];exact hp.symm
                  have hq0:li f l (x1 x)=q:=by rw[pD,←r1];exact hq.symm
                  obtain ⟨U1,hU1⟩:∃U1,(if p=true then[(x0 x,x.dst,(0:Int))] else[])=U1:=⟨_,rfl⟩
                  obtain ⟨D1,hD1⟩:∃D1,(if p=true then[(n0 f,x.dst,(0:Int))] else[])=D1:=⟨_,rfl⟩
                  have hUl:U1.length≤1:=by rw[←hU1];split<;>simp
                  have hreU:gD f l true x=U1++iz q (x1 x,x.dst,-1):=by
                   unfold gD qP
                   rw[if_neg c5,hp0,hq0,show decide (x.op=6)=true from w7 c6,←hU1,Bool.and_true,Bool.true_and]
                   rfl
                  have hreD:gD f l false x=D1:=by
                   unfold gD qP
                   rw[if_neg c5,hp0,hq0,←hD1,Bool.and_false,Bool.and_false]
                   exact w5 _
                  rw[hy0,hz0]
                  refine dh (t:=13) (k:=3) (T:=126) Z<|fun i13=>dh (t:=12) (k:=3) (T:=126) Z<|fun i12=>zc<|ah<|ai Z<|z6<|yf (γ:=Nat × Nat) [14,20,22] (fun g=>[(12,.own g.1 U1.length),(13,.own g.2 D1.length)]) (fun g=>[(g.1,.grow 3 126 (eC U1)),(g.2,.grow 3 126 (eC D1))]) (fun g=>True) ?_ (fun _ _ h=>h) ?_
                  ·refine zt Z (fun cp=>?_) (fun cp=>?_)
                   ·rw[if_pos cp] at hU1 hD1
                    refine aM<|bw Z<|aa Z<|aa Z<|za (zz (cps:=[(0,[_]),(1,[_]),(2,[_])]) (rs:=[_,_,_]) eG Z Z Z)<|y8 (rows:=[[_,_,_]]) dL Z Z Z Z Z<|yn (k:=3) Zu Xb Z Z Z Z Z (fun _=>.head) (by simp) (by decide) Z (by show (_+_)*24≤_;simp<;>omega) (by simp<;>omega)<|fun i270=>bw Z<|aa Z<|aa Z<|za (zz (cps:=[(0,[_]),(1,[_]),(2,[_])]) (rs:=[_,_,_]) eG Z Z Z)<|y8 (rows:=[[_,_,_]]) dL Z Z Z Z Z<|yn (k:=3) Zu Xb Z Z Z Z Z (fun _=>.t1) (by simp) (by decide) Z (by show (_+_)*24≤_;simp<;>omega) (by simp<;>omega)<|fun i276=>bM Z<|bM Z<|z6 ?_
                    exact ⟨(i270,i276),dC,⟨by rw[←hU1];rfl,by rw[←hD1];rfl,trivial⟩,⟨_,(.refl _),(by rw[←hU1,←hD1];rfl)⟩,trivial⟩
                   ·rw[if_neg (by rw[show p=false from cp];decide)] at hU1 hD1
                    refine zd ?_
                    exact ⟨(i12,i13),dC,⟨by rw[←hU1];rfl,by rw[←hD1];rfl,trivial⟩,⟨_,(.refl _),(by rw[←hU1,←hD1];rfl)⟩,trivial⟩
                  ·rintro ⟨j1,j2⟩ _
                   refine ah<|ai Z<|z6<|zt Z (fun cq=>?_) (fun cq=>?_)
                   ·refine aM<|bw Z<|aa Z<|aa Z<|za (zz (cps:=[(0,[_]),(1,[_]),(2,[_])]) (rs:=[_,_,_]) eG Z Z Z)<|y8 (rows:=[[_,_,_]]) dL Z Z Z Z Z<|yn (k:=3) Zu Xb Z Z Z Z Z (fun _=>.head) (by rw[qN]) (by decide) Z (by show (_+1)*24≤_;omega) (by show _+1≤_;omega)<|fun i283=>bM Z<|zf (aK.eq (show _=([(i283,.grow 3 126 (eC (U1++[(x1 x,x.dst,-1)]))),(j2,.grow 3 126 (eC D1))]:OL) from by rw[←uC];rfl))<|zf (aK.knowE (t:=12) (by rfl) .head (by rw[qw];rfl))<|zf (aK.knowE (t:=13) (by rfl) .head (by rfl))<|z6 ?_
                    exact ⟨(_,_),trivial,di,aC,by rw[sU (.inr c6),sU (.inr c6),hreU,hreD,show q=true from cq];exact ⟨rfl,rfl⟩⟩
                   ·refine yg (aK.knowE (t:=12) (by rfl) .head (by rfl))<|yg (aK.knowE (t:=13) (by rfl) .head (by rfl))<|zd ?_
                    exact ⟨(_,_),trivial,di,aC,by rw[sU (.inr c6),sU (.inr c6),hreU,hreD,show q=false from cq];exact ⟨(w5 _).symm,rfl⟩⟩
                 ·refine ah<|aj Z Z<|ac Z<|z6<|zp Z (fun c25=>?_) (fun c25=>?_)
                  ·have h2:=htwo (by omega)
                   have hy0:Y1=x0 x:=by rw[hY,if_pos (by omega)]
                   have hz0:Z1=x1 x:=by rw[hZ,if_pos (by omega)]
                   rw[hy0,hz0]
                   refine ah<|aa Z<|aa Z<|za (zz (cps:=[(0,[_]),(1,[_]),(2,[_])]) (rs:=[_,_,_]) eG Z Z Z)<|az.buildSliceO (cps:=[(0,[_,_,_])]) (rs:=[_,_,_]) dL Z Z Z Z Z<|fun i289=>aa Z<|aa Z<|za (zz (cps:=[(0,[_]),(1,[_]),(2,[_])]) (rs:=[_,_,_]) eG Z Z Z)<|az.buildSliceO (cps:=[(0,[_,_,_])]) (rs:=[_,_,_]) dL Z Z Z Z Z<|fun i293=>bM Z<|bM Z<|z6<|ah<|ae j8 Z ji Z Z<|ax jp Z<|z6<|zh<|ah<|aj Z Z<|ac Z<|z6<|zp Z (fun nm0=>?_) (fun nm0=>?_)
                   ·refine aM<|bw Z<|aa Z<|aa Z<|za (zz (cps:=[(0,[_]),(1,[_]),(2,[_])]) (rs:=[_,_,_]) eG Z Z Z)<|y8 (rows:=[[_,_,_]]) dL Z Z Z Z Z<|yn (k:=3) Zu Xb Z Z Z Z Z (fun _=>.t1) (by simp) (by decide) Z (by show (_+_)*24≤_;simp<;>omega) (by simp<;>omega)<|fun i303=>bM Z<|zf (aK.eq (show _=([(i293,.grow 3 126 (eC [(x0 x,x.dst,0)])),(i303,.grow 3 126 (eC [(x0 x,x.dst,0),(x1 x,x.dst,-1)]))]:OL) from Z))<|zf (aK.knowE (t:=13) (by rfl) .head (by rfl))<|zf (aK.knowE (t:=12) (by rfl) .head (by rfl))<|z6 ?_
                    exact ⟨(_,_),trivial,di,aC,by rw[kR c25,kR c25];unfold Bs;simp[nm0]⟩
                   ·refine ah<|aj Z Z<|ac Z<|z6<|zp Z (fun nm1=>?_) (fun nm1=>?_)
                    ·refine aM<|bw Z<|aa Z<|aa Z<|za (zz (cps:=[(0,[_]),(1,[_]),(2,[_])]) (rs:=[_,_,_]) eG Z Z Z)<|y8 (rows:=[[_,_,_]]) dL Z Z Z Z Z<|yn (k:=3) Zu Xb Z Z Z Z Z (fun _=>.t1) (by simp) (by decide) Z (by show (_+_)*24≤_;simp<;>omega) (by simp<;>omega)<|fun i311=>bM Z<|zf (aK.eq (show _=([(i293,.grow 3 126 (eC [(x0 x,x.dst,0)])),(i311,.grow 3 126 (eC [(x0 x,x.dst,0),(x1 x,x.dst,0)]))]:OL) from Z))<|zf (aK.knowE (t:=13) (by rfl) .head (by rfl))<|zf (aK.knowE (t:=12) (by rfl) .head (by rfl))<|z6 ?_
                     exact ⟨(_,_),trivial,di,aC,by rw[kR c25,kR c25];unfold Bs;simp[nm0,nm1]⟩
                    ·refine ah<|aj Z Z<|ac Z<|z6<|zp Z (fun Lj=>?_) (fun Lj=>?_)
                     ·refine aM<|bw Z<|aa Z<|aa Z<|za (zz (cps:=[(0,[_]),(1,[_]),(2,[_])]) (rs:=[_,_,_]) eG Z Z Z)<|y8 (rows:=[[_,_,_]]) dL Z Z Z Z Z<|yn (k:=3) Zu Xb Z Z Z Z Z (fun _=>.t1) (by simp) (by decide) Z (by show (_+_)*24≤_;simp<;>omega) (by simp<;>omega)<|fun i319=>bw Z<|aa Z<|aa Z<|za (zz (cps:=[(0,[_]),(1,[_]),(2,[_])]) (rs:=[_,_,_]) eG Z Z Z)<|y8 (rows:=[[_,_,_]]) dL Z Z Z Z Z<|yn (k:=3) Zu Xb Z Z Z Z Z (fun _=>.head) (by simp) (by decide) Z (by show (_+_)*24≤_;simp<;>omega) (by simp<;>omega)<|fun i325=>bM Z<|bM Z<|zf (aK.eq (show _=([(i325,.grow 3 126 (eC [(x0 x,x.dst,0),(x1 x,x.dst,0)])),(i319,.grow 3 126 (eC [(x0 x,x.dst,0),(x1 x,x.dst,0)]))]:OL) from Z))<|zf (aK.knowE (t:=13) (by rfl) .head (by rfl))<|zf (aK.knowE (t:=12) (by rfl) .head (by rfl))<|z6 ?_
                      exact ⟨(_,_),trivial,di,aC,by rw[kR c25,kR c25];unfold Bs;simp[nm0,nm1,Lj]⟩
                     ·refine ah<|aj Z Z<|ac Z<|z6<|zp Z (fun nm3=>?_) (fun nm3=>?_)
                      ·refine aM<|bw Z<|aa Z<|aa Z<|za (zz (cps:=[(0,[_]),(1,[_]),(2,[_])]) (rs:=[_,_,_]) eG Z Z Z)<|y8 (rows:=[[_,_,_]]) dL Z Z Z Z Z<|yn (k:=3) Zu Xb Z Z Z Z Z (fun _=>.head) (by simp) (by decide) Z (by show (_+_)*24≤_;simp<;>omega) (by simp<;>omega)<|fun i333=>bM Z<|zf (aK.eq (show _=([(i333,.grow 3 126 (eC [(x0 x,x.dst,0),(x1 x,x.dst,0)])),(i289,.grow 3 126 (eC [(x0 x,x.dst,0)]))]:OL) from Z))<|zf (aK.knowE (t:=13) (by rfl) .head (by rfl))<|zf (aK.knowE (t:=12) (by rfl) .head (by rfl))<|z6 ?_
                       exact ⟨(_,_),trivial,di,aC,by rw[kR c25,kR c25];unfold Bs;simp[nm0,nm1,Lj,nm3]⟩
                      ·refine ah<|aj Z Z<|ac Z<|z6<|zp Z (fun nm4=>?_) (fun nm4=>?_)
                       ·refine aM<|bw Z<|aa Z<|aa Z<|za (zz (cps:=[(0,[_]),(1,[_]),(2,[_])]) (rs:=[_,_,_]) eG Z Z Z)<|y8 (rows:=[[_,_,_]]) dL Z Z Z Z Z<|yn (k:=3) Zu Xb Z Z Z Z Z (fun _=>.head) (by simp) (by decide) Z (by show (_+_)*24≤_;simp<;>omega) (by simp<;>omega)<|fun i341=>bM Z<|zf (aK.eq (show _=([(i341,.grow 3 126 (eC [(x0 x,x.dst,0),(x1 x,x.dst,1)])),(i289,.grow 3 126 (eC [(x0 x,x.dst,0)]))]:OL) from Z))<|zf (aK.knowE (t:=13) (by rfl) .head (by rfl))<|zf (aK.knowE (t:=12) (by rfl) .head (by rfl))<|z6 ?_
                        exact ⟨(_,_),trivial,di,aC,by rw[kR c25,kR c25];unfold Bs;simp[nm0,nm1,Lj,nm3,nm4]⟩
                       ·refine yg (aK.eq (show _=([(i293,.grow 3 126 (eC [(x0 x,x.dst,0)])),(i289,.grow 3 126 (eC [(x0 x,x.dst,0)]))]:OL) from Z))<|yg (aK.knowE (t:=13) (by rfl) .head (by rfl))<|yg (aK.knowE (t:=12) (by rfl) .head (by rfl))<|zd ?_
                        exact ⟨(_,_),trivial,di,aC,by rw[kR c25,kR c25];unfold Bs;simp[nm0,nm1,Lj,nm3,nm4]⟩
                  ·refine ah<|aj Z Z<|ac Z<|z6<|zp Z (fun c26=>?_) (fun c26=>?_)
                   ·have h2:=htwo (by omega)
                    have hy0:Y1=x0 x:=by rw[hY,if_pos (by omega)]
                    have hz0:Z1=x1 x:=by rw[hZ,if_pos (by omega)]
                    rw[hy0,hz0]
                    refine ah<|aa Z<|aa Z<|za (zz (cps:=[(0,[_]),(1,[_]),(2,[_])]) (rs:=[_,_,_]) eG Z Z Z)<|aa Z<|aa Z<|za (zz (cps:=[(0,[_]),(1,[_]),(2,[_])]) (rs:=[_,_,_]) eG Z Z Z)<|y8 (rows:=[[_,_,_],[_,_,_]]) Gx Z Z Z Z Z<|aa Z<|aa Z<|za (zz (cps:=[(0,[_]),(1,[_]),(2,[_])]) (rs:=[_,_,_]) eG Z Z Z)<|aa Z<|aa Z<|za (zz (cps:=[(0,[_]),(1,[_]),(2,[_])]) (rs:=[_,_,_]) eG Z Z Z)<|y8 (rows:=[[_,_,_],[_,_,_]]) Gx Z Z Z Z Z<|za (iw Z)<|za (iw Z)<|z6<|zg<|qb (x:=.fro _ _) (y:=.fro _ _) Z Z ?_
                    rw[JR c26,JR c26];rfl
                   ·refine yg (qc (t:=12) Z (Ay.nil 3))<|yg (qc (t:=13) Z (Ay.nil 3))<|zd ?_
                    exact ⟨([],[]),trivial,di,aC,by rw[Mc c0 c1 c2 c3 c5 c6 c16 c25 c26,Mc c0 c1 c2 c3 c5 c6 c16 c25 c26];exact ⟨rfl,rfl⟩⟩
         ·rintro ⟨U1,D⟩ ⟨hU,hD⟩
          refine ah<|aU Z<|aU Z<|za (iw Z)<|za (iw Z)<|z6<|zg<|qb (x:=.fro _ _) (y:=.fro _ _) Z Z ?_
          exact Mh hU.symm hD.symm
end Go.Proofs.YtbanfokidalbaaaGreatDoor
