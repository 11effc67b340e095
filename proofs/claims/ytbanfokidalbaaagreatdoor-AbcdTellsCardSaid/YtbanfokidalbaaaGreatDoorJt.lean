/- Bounds by rounds: what the program's rule tells of a node. Of programs that are little. -/
import Derived.Test.YtbanfokidalbaaaGreatDoorJr
import Derived.Test.YtbanfokidalbaaaGreatDoorJm
import Derived.Test.YtbanfokidalbaaaGreatDoorJs
import Derived.Test.YtbanfokidalbaaaGreatDoorJo
import Derived.Test.YtbanfokidalbaaaGreatDoorJe
set_option linter.unusedVariables false
set_option linter.unusedSimpArgs false
set_option linter.unusedSectionVars false
namespace Go.Proofs.YtbanfokidalbaaaGreatDoor
section
open Go.Proofs.Tryz
open Go.Proofs Go.Lib Go.Shelf Go.RowKit
variable {E:World}
set_option maxRecDepth 20000
structure AG (f:ad) (e:dI):Prop where
 to0:0≤e.2.1
 to1:e.2.1<f.vars.length
 from0:0≤e.1
 from1:e.1≤f.vars.length
 tty:oV f e.2.1≠1
 fty:e.1<f.vars.length→oV f e.1≠1
 noPhi:¬(0≤(aB f e.2.1).1∧(aB f e.2.1).2<0)
 ne:e.1≠e.2.1
theorem tV {c:Bool} {e d:dI} (h:e∈iz c d):e=d:=by
 unfold iz at h
 split at h
 ·simpa using h
 ·cases h
theorem iI {f:ad} {l:List be} {up:Bool} {v:Int} {o:Bool} {to from_ s:Int} {e:dI} (h:e∈qO f l up v o to from_ s):e.1=from_∧e.2.1=to:=by
 rw[tV h];exact ⟨rfl,rfl⟩
def gX (op:Int):Prop:=op=1∨op=2∨op=3∨op=5∨op=6∨op=12∨op=15∨op=25∨op=26
def jY (op:Int):Prop:=op=2∨op=3∨op=5∨op=6∨op=25∨op=26
theorem tW {f:ad} {l:List be} {up:Bool} {x:aN} {blk at_:Int} {e:dI} (h:e∈cT f l up x blk at_) :
  e.2.1=x.dst∧(e.1=n0 f∨(e.1=x0 x∧gX x.op)∨(e.1=x1 x∧jY x.op)):=by
 unfold cT at h
 unfold gX jY
 by_cases c0:x.op=0
 ·rw[if_pos c0] at h;simp at h;subst h;exact ⟨rfl,.inl rfl⟩
 rw[if_neg c0] at h
 by_cases c1:x.op=1∨x.op=12∨x.op=15
 ·rw[if_pos c1] at h;simp at h;subst h;exact ⟨rfl,.inr (.inl ⟨rfl,by omega⟩)⟩
 rw[if_neg c1] at h
 by_cases c2:x.op=2∨x.op=3
 ·rw[if_pos c2] at h
  unfold kW at h
  split at h
  ·split at h
   ·have:=iI h;exact ⟨this.2,.inr (.inl ⟨this.1,by omega⟩)⟩
   ·rcases List.mem_append.1 h with h|h
    ·have:=iI h;exact ⟨this.2,.inr (.inl ⟨this.1,by omega⟩)⟩
    ·have:=iI h;exact ⟨this.2,.inr (.inr ⟨this.1,by omega⟩)⟩
  ·cases h
 rw[if_neg c2] at h
 by_cases c5:x.op=5∨x.op=6
 ·rw[if_pos c5] at h
  unfold gD at h
  rcases List.mem_append.1 h with h|h
  ·split at h
   ·split at h
    ·simp at h;subst h;exact ⟨rfl,.inr (.inl ⟨rfl,by omega⟩)⟩
    ·simp at h;subst h;exact ⟨rfl,.inl rfl⟩
   ·cases h
  ·rw[tV h];exact ⟨rfl,.inr (.inr ⟨rfl,by omega⟩)⟩
 rw[if_neg c5] at h
 by_cases c16:x.op=16
 ·rw[if_pos c16] at h;simp at h;subst h;exact ⟨rfl,.inl rfl⟩
 rw[if_neg c16] at h
 by_cases c25:x.op=25
 ·rw[if_pos c25] at h
  unfold Bs at h
  rcases List.mem_cons.1 h with h|h
  ·subst h;exact ⟨rfl,.inr (.inl ⟨rfl,by omega⟩)⟩
  ·split at h
   ·simp at h;subst h;exact ⟨rfl,.inr (.inr ⟨rfl,by omega⟩)⟩
   ·split at h
    ·simp at h;subst h;exact ⟨rfl,.inr (.inr ⟨rfl,by omega⟩)⟩
    ·split at h
     ·simp at h;subst h;exact ⟨rfl,.inr (.inr ⟨rfl,by omega⟩)⟩
     ·cases h
 rw[if_neg c25] at h
 by_cases c26:x.op=26
 ·rw[if_pos c26] at h
  rcases List.mem_cons.1 h with h|h
  ·subst h;exact ⟨rfl,.inr (.inl ⟨rfl,by omega⟩)⟩
  ·split at h
   ·simp at h;subst h;exact ⟨rfl,.inr (.inr ⟨rfl,by omega⟩)⟩
   ·simp at h;subst h;exact ⟨rfl,.inl rfl⟩
 rw[if_neg c26] at h
 cases h
theorem oJ {op:Int} (h:gX op):1≤(bq op).length:=by unfold gX at h;rcases h with rfl|rfl|rfl|rfl|rfl|rfl|rfl|rfl|rfl<;>decide
theorem AH {op:Int} (h:gX op) (h1:op≠1):∀t∈bq op,t≠1:=by unfold gX at h;rcases h with rfl|rfl|rfl|rfl|rfl|rfl|rfl|rfl|rfl<;>first|(exact absurd rfl h1)|decide
theorem AJ {x:aN} (h:1≤x.args.length):x0 x∈x.args:=by unfold x0;rw[qq (by omega)];exact qu _
theorem AK {x:aN} (h:2≤x.args.length):x1 x∈x.args:=by unfold x1;rw[qq (by omega)];exact qu _
structure BV (f:ad) (i k:Nat) (x:aN):Prop where
 F:tJ f x
 typed:iC f x=true
 made:0≤x.dst→aB f x.dst=((i:Int),(k:Int))
 ahead:∀v∈x.args,ir f (aB f v) i k
theorem Gy {f:ad} (hF:f6 f) (h:(aR f&&bG f)=true) {i k:Nat} {b:bc} {x:aN} (hb:f.blocks[i]?=some b) (hx:b.insts[k]?=some x):BV f i k x:=by
 have hmem:=w3 hb
 have hxm:=w3 hx
 have hI:=fk ((hF.shaped.2.2.2.2.2 b hmem).2.1 x hxm)
 have hty:=(jW h).1
 have hsi:=(tq (bT hty)).1 (jW h).2
 refine ⟨hI,?_,fun h0=>?_,fun v hv=>?_⟩
 ·unfold aR at hty
  rw[w9] at hty
  have h1:=List.all_eq_true.1 hty.2 b hmem
  unfold kA at h1
  simp only[w9] at h1
  exact List.all_eq_true.1 h1.1.2 x hxm
 ·have hm:((i:Int),(k:Int))∈bm f x.dst:=fB.2 ⟨i,b,hb,ib.2 (.inr ⟨k,x,hx,rfl,rfl⟩)⟩
  have h1:x.dst<f.vars.length:=by
   rcases hI.dst with ⟨_,h⟩|⟨_,_,h⟩
   ·omega
   ·exact (bH h).2
  have ho:=(hF.once x.dst.toNat (by omega)).1
  rw[wa h0] at ho
  exact na ho hm
 ·have hi:=(List.getElem?_eq_some_iff.1 hb)
  obtain ⟨hi,rfl⟩:=hi
  obtain ⟨hk,rfl⟩:=List.getElem?_eq_some_iff.1 hx
  exact (hsi.2.2.2 i hi).2.1 k hk v hv
theorem KN {f:ad} {i k:Nat} {x:aN} (h:BV f i k x) (h0:0≤x.dst) {v:Int} (hv:v∈x.args):v≠x.dst:=fun e=>by
 have:=h.ahead v hv
 rw[e,h.made h0] at this
 unfold ir at this
 dsimp only at this
 omega
theorem KO {f:ad} {i k:Nat} {x:aN} (h:BV f i k x) (ho:gX x.op) (hd:oV f x.dst≠1) {v:Int} (hv:v∈x.args) (hv0:x.op=1→v=x0 x):oV f v≠1:=by
 have ht:=h.typed
 unfold iC at ht
 by_cases c:x.op=1
 ·rw[if_pos c,wc] at ht
  have e:x.args.headD 0=x0 x:=by unfold x0;cases x.args<;>rfl
  rw[hv0 c,←e]
  intro e2
  exact hd (show bJ f x.dst=1 from ht.trans e2)
 ·rw[if_neg c,w9,wc] at ht
  have:bJ f v∈bq x.op:=by rw[←ht.1];exact List.mem_map_of_mem hv
  exact AH ho c _ this
theorem I3 {f:ad} {l:List be} {up:Bool} {i k:Nat} {x:aN} (h:BV f i k x) {e:dI} (he:e∈fK f l up x i k):AG f e:=by
 unfold fK at he
 split at he
 ·rename_i hc
  obtain ⟨h0,hd⟩:=hc
  have hdr:x.dst<f.vars.length:=by
   rcases h.F.dst with ⟨_,h⟩|⟨_,_,h⟩
   ·omega
   ·exact (bH h).2
  have hm:=h.made h0
  have key:e.2.1=x.dst∧(e.1=n0 f∨(∃v∈x.args,e.1=v∧gX x.op∧(x.op=1→v=x0 x))):=by
   rcases List.mem_append.1 he with he|he
   ·obtain ⟨h1,h2|⟨h2,h3⟩|⟨h2,h3⟩⟩:=tW he
    ·exact ⟨h1,.inl h2⟩
    ·exact ⟨h1,.inr ⟨x0 x,AJ (by rw[h.F.len];exact oJ h3),h2,h3,fun _=>rfl⟩⟩
    ·have hl:=rO h3
     exact ⟨h1,.inr ⟨x1 x,AK (by rw[h.F.len,hl];exact Nat.le_refl 2),h2,by unfold gX;unfold jY at h3;omega,fun c=>by unfold jY at h3;omega⟩⟩
   ·unfold sK at he
    have:=iI he
    exact ⟨this.2,.inl this.1⟩
  obtain ⟨h1,h2⟩:=key
  have hto:(0:Int)≤e.2.1∧e.2.1<f.vars.length:=by rw[h1];exact ⟨h0,hdr⟩
  refine ⟨hto.1,hto.2,?_,?_,by rw[h1];exact hd,?_,by rw[h1,hm];dsimp only;omega,?_⟩
  ·rcases h2 with h2|⟨v,hv,h2,_⟩
   ·rw[h2];unfold n0;omega
   ·rw[h2];exact (bH (h.F.args v hv)).1
  ·rcases h2 with h2|⟨v,hv,h2,_⟩
   ·rw[h2];exact Int.le_refl _
   ·rw[h2];have:=(bH (h.F.args v hv)).2;omega
  ·intro hl
   rcases h2 with h2|⟨v,hv,h2,h3,h4⟩
   ·rw[h2] at hl;unfold n0 at hl;omega
   ·rw[h2];exact KO h h3 hd hv h4
  ·rcases h2 with h2|⟨v,hv,h2,_⟩
   ·rw[h2,h1];unfold n0;omega
   ·rw[h2,h1];exact KN h h0 hv
 ·cases he
theorem wT {f:ad} {l:List be} {up:Bool} {i:Nat} {xs:List aN} {e:dI}:e∈ee f l up i xs↔∃(k:Nat) (x:aN),xs[k]?=some x∧e∈fK f l up x i k:=by
 unfold ee
 rw[List.mem_flatMap]
 constructor
 ·rintro ⟨⟨x,k⟩,h1,h2⟩;exact ⟨k,x,List.mem_zipIdx_iff_getElem?.1 h1,h2⟩
 ·rintro ⟨k,x,h1,h2⟩;exact ⟨(x,k),List.mem_zipIdx_iff_getElem?.2 h1,h2⟩
theorem tX {f:ad} {l:List be} {up:Bool} {e:dI}:e∈bS f l up f.blocks.length↔∃(i:Nat) (b:bc),f.blocks[i]?=some b∧e∈ee f l up i b.insts:=by
 unfold bS
 rw[qv,List.mem_flatMap]
 constructor
 ·rintro ⟨⟨b,i⟩,h1,h2⟩;exact ⟨i,b,List.mem_zipIdx_iff_getElem?.1 h1,h2⟩
 ·rintro ⟨i,b,h1,h2⟩;exact ⟨(b,i),List.mem_zipIdx_iff_getElem?.2 h1,h2⟩
theorem nz {f:ad} (hF:f6 f) (h:(aR f&&bG f)=true) (l:List be) (up:Bool):∀e∈bX f l up,AG f e:=fun e he=>by
 rcases List.mem_append.1 he with he|he
 ·unfold df at he
  obtain ⟨k,hk,he⟩:=List.mem_flatMap.1 he
  rw[List.mem_range] at hk
  unfold oZ at he
  split at he
  ·rename_i hc
   unfold sK at he
   obtain ⟨h1,h2⟩:=iI he
   unfold n0 at h1
   refine ⟨by omega,by omega,by omega,by omega,by rw[h2];exact hc.2,fun hl=>by omega,by rw[h2];omega,by omega⟩
  ·cases he
 ·obtain ⟨i,b,hb,he⟩:=tX.1 he
  obtain ⟨k,x,hx,he⟩:=wT.1 he
  exact I3 (Gy hF h hb hx) he
def JS (op:Int):Prop:=op=12∨op=15∨op=25∨op=26
instance (op:Int):Decidable (JS op):=by unfold JS;infer_instance
theorem lU {f:ad} (hf:small f) (l:List be) (up:Bool):(bX f l up).length≤80000000:=by
 have hn:=hf.2.2.1
 have a:=ic f l up f.vars.length
 have b:=nY f l up (m:=1000) (fun b hb=>by have:=(hf.2.2.2.2 b hb).2.2.1;omega) f.blocks.length (Nat.le_refl _)
 have e:=hf.1
 unfold bX
 rw[qw]
 have:f.blocks.length*(3*1000)≤1000*3000:=Nat.mul_le_mul (by omega) (by omega)
 omega
end
section
open Go.Proofs.Tryz
open Go.Proofs Go.Lib Go.Shelf Go.RowKit
variable {E:World}
set_option maxRecDepth 20000
theorem Gz (es:List dI):((es.map gg).flatten).all AV.cell=true:=by
 rw[List.all_eq_true]
 intro x hx
 obtain ⟨r,hr,hx⟩:=List.mem_flatten.1 hx
 obtain ⟨e,_,rfl⟩:=List.mem_map.1 hr
 simp only[gg,List.mem_cons,List.not_mem_nil,or_false] at hx
 rcases hx with rfl|rfl|rfl<;>rfl
theorem GA (a b:List dI):eC (a++b)=eC a++(b.map gg).flatten:=by rw[pC,pC,List.map_append,List.flatten_append]
theorem GB (f:ad) (l:List be) (up:Bool):bS f l up 0=[]:=by simp[bS]
theorem Mi {f:ad} {l:List be} {up:Bool} {i:Nat} {V:List dI}:AV.own i V.length=AV.own i (V++bS f l up 0).length:=by rw[GB,w5]
theorem BW (f:ad) (l:List be) (up:Bool) (i:Nat) (b:List aN):ee f l up i (b.take 0)=[]:=by simp[ee]
set_option maxHeartbeats 8000000 in
theorem wU (f:ad) (hF:f6 f) (hE:bF f) (l:List be) (hol:∀r∈l,cY r) (hll:l.length=f.vars.length):aJ prog E 25 [.agg (bL f),.fro 2 (l.map bg)] (.tup [.fro 3 ((bX f l true).map gg),.fro 3 ((bX f l false).map gg)]):=by
 have hf:=hF.small
 have hS:=hF.shaped
 have hvn:=hf.1
 have hn:=hf.2.2.1
 have hok:∀u:Int,0≤u→cY (lv l u):=fun u _=>Gn hol u
 have hend:∀(up:Bool) (v:Int),0≤v→dz (dW f l v) (ff f l up v false)=true→aP (1*ff f l up v false):=fun up v hv=>gI (gf hok hv) (by unfold ff;cases up;exact .inl rfl;exact .inr rfl) (.inl rfl)
 refine zo func25 Z (by decide) Z<|ah<|yb (cs:=_) Z Z Z<|bV Z<|bV Z<|z6<|ah<|ab jm jh Z Z<|ze (l9 f hE hn) Z<|za (iw Z)<|z6<|ah<|ae je Z Zg Z Z<|aI Zp Z<|ak js Z<|ay Z<|z6<|zc<|ah<|ae je Z Zg Z Z<|aI Zp Z<|ak js Z<|aa Z<|z6<|dh (t:=5) (k:=3) (T:=126) Z<|fun i5=>dh (t:=4) (k:=3) (T:=126) Z<|fun i4=>zh<|ya (γ:=Nat × Nat × Nat) [1,2,6,7,26,27] (fun g=>[(28,.int .i64 g.1),(4,.own g.2.1 (df f l true g.1).length),(5,.own g.2.2 (df f l false g.1).length)]) (fun g=>[(g.2.1,.grow 3 126 (eC (df f l true g.1))),(g.2.2,.grow 3 126 (eC (df f l false g.1)))]) (fun g=>g.1≤f.vars.length) (fun g=>f.vars.length - g.1) (0,i4,i5) dC aC (qt _) ?_
 rintro ⟨k,ju,jd⟩ hk
 try dsimp only at *
 refine ah<|aw Z Z<|z6<|zc<|zp Z (fun ck=>?_) (fun ck=>?_)
 ·have hk2:k<f.vars.length:=by simp at ck;omega
  have hvu:=ic f l true k
  have hvd:=ic f l false k
  obtain ⟨y,hy,hyt,hy0,hy2⟩:=uW hS (rP hk2)
  refine zd<|zc<|zh<|ah<|aa Z<|za (bD k js Zx Z Z Z hy)<|ab isAgg40 Zx Z Z<|zy (cs:=[.str ⟨#[]⟩,.int .i64 0]) zeroValue40 Z Z<|fun i9=>ay Z<|zq Zx Z Z Z Z Z Z .head Z<|zf (yd (t:=9) Z .head)<|z6<|ah<|ab jm jh Z Z<|aa Z<|ze (mK f hf k) Z<|za (m6 Z)<|za (mq Z Z)<|za (mq Z Z)<|ay Z<|ay Z<|z6<|zc<|yf (γ:=Bool) [1,2,4,5,6,7,8,9,26,27,28] (fun u=>[(45,.bool u)]) (fun u=>[(ju,.grow 3 126 (eC (df f l true k))),(jd,.grow 3 126 (eC (df f l false k)))]) (fun u=>u=decide ((aB f k).1<0∧oV f k≠1)) ?_ (fun _ _ h=>h) ?_
  ·refine aM<|aa Z<|aw Z Z<|ai Z<|zm (s:=41) Z (fun c1=>?_) (fun c1=>?_)
   ·refine z8 Z Z c1<|ae Zd Z Yj Z Z<|z8 Z Z c1<|ax Yv Z<|z8 Z Z c1<|aH Z Z<|ap Z c1 Z<|z6 ?_
    exact ⟨_,la,aG,aC,by clear hend;simp_all<;>omega⟩
   ·refine z7 Z Z c1<|z7 Z Z c1<|z7 Z Z c1<|aq Z c1 Z<|z6 ?_
    exact ⟨_,la,aG,aC,by clear hend;simp_all<;>omega⟩
  ·rintro u hu
   subst hu
   refine zp Z (fun cm=>?_) (fun cm=>?_)
   ·have eu:df f l true (k+1)=fG (df f l true k) k (n0 f) (dW f l k) (dW f l k).2 1:=by rw[gh,oZ,if_pos cm];rfl
    have ed:df f l false (k+1)=fG (df f l false k) k (n0 f) (dW f l k) (dW f l k).1 1:=by rw[gh,oZ,if_pos cm];rfl
    have hms:=lO (E:=E) (lv l k) (de y.ty)
    rw[show fA (lv l k) (de y.ty)=dW f l k by unfold dW;rw[←hyt]] at hms
    refine zc<|yf (γ:=Nat) [1,2,4,5,6,7,8,26,27,28] (fun z=>[(12,.po z 0)]) (fun z=>[(z,.cells 91 (bg (dW f l k))),(ju,.grow 3 126 (eC (df f l true k))),(jd,.grow 3 126 (eC (df f l false k)))]) (fun z=>True) ?_ (fun _ _ h=>h) ?_
    ·refine y7 (fun j=>false) (by kernel_rfl) Z (zn (.rest _))<|au 0 Z (kl Z)<|au 1 Z (cG Z)<|au 2 Z (bD k X3 jq Z Z Z (rL (by omega)))<|au 3 Z (yk Y9 jq Z Z)<|au 4 Z (cA Zd Z Yj Z Z)<|au 5 Z (du Yv Z)<|yv (i:=6) (j:=8) Z Z (by kernel_rfl) ?_ ?_
     ·refine ze (gU (t:=y.ty) ⟨hy0,hy2⟩) Z<|z6<|yv (i:=7) (j:=8) Z Z (by kernel_rfl) ?_ ?_
      ·refine ze (hms) Z<|z6<|aV 8 Z<|zy (cs:=[.int .i64 0,.int .i64 0]) Y5 Z Z<|fun i12=>z6<|aV 9 Z<|zq jq Z Z Z Z Z Z .head Z<|z6<|bY ?_
       exact ⟨i12,iy,aG,aC,trivial⟩
      ·refine zy (cs:=[.int .i64 0,.int .i64 0]) Y5 Z Z<|fun i12=>z6<|aV 7 Z<|ze (hms) Z<|z6<|aV 9 Z<|zq jq Z Z Z Z Z Z .head Z<|z6<|bY ?_
       exact ⟨i12,iy,aG,aC,trivial⟩
     ·refine zy (cs:=[.int .i64 0,.int .i64 0]) Y5 Z Z<|fun i12=>z6<|aV 6 Z<|ze (gU (t:=y.ty) ⟨hy0,hy2⟩) Z<|z6<|aV 7 Z<|ze (hms) Z<|z6<|aV 9 Z<|zq jq Z Z Z Z Z Z .head Z<|z6<|bY ?_
      exact ⟨i12,iy,aG,aC,trivial⟩
    ·rintro z _
     refine yg (yd (t:=12) Z .head)<|y7 (fun j=>false) (by kernel_rfl) Z (zn (.rest _))<|au 0 Z (Fb Z)<|au 1 Z (cG Z)<|au 2 Z (cG Z)<|au 3 Z (yk Y9 jq Z Z)<|au 4 Z (cA jr Z ji Z Z)<|au 5 Z (du jp Z)<|au 7 Z (Fb Z)<|au 8 Z (cG Z)<|au 9 Z (cG Z)<|au 10 Z (yk Y9 jq Z Z)<|au 11 Z (cA jr Z ji Z Z)<|au 12 Z (du jp Z)<|aV 6 Z<|zu Z (zn (.l (.r (.rest _)))) (ej ju (df f l true k) (by omega) k (n0 f) (dW f l k) (dW f l k).2 1 (hend true k (by omega))) ?_
     rintro r60 O60 ⟨j1,rfl,rfl,_⟩
     refine z6<|aV 13 Z<|zu Z (zn (.r (.l (.rest _)))) (ej jd (df f l false k) (by omega) k (n0 f) (dW f l k) (dW f l k).1 1 (hend false k (by omega))) ?_
     rintro r67 O67 ⟨j2,rfl,rfl,_⟩
     refine z6<|au 14 Z (Ll Z)<|au 15 Z (Ll Z)<|bY<|yg (zi (zj .t1))<|aM<|aA Z Z<|aa Z<|z6 ?_
     exact ⟨(k+1,j1,j2),pt,⟨rfl,(by rw[eu]<;>rfl),(by rw[ed]<;>rfl),trivial⟩,⟨_,(.refl _),(by rw[eu,ed]<;>rfl)⟩,hk2,by dsimp only;omega⟩
   ·have eu:∀up,df f l up (k+1)=df f l up k:=fun up=>by rw[gh,oZ,if_neg cm,w5]
    refine zd<|aM<|aA Z Z<|aa Z<|z6 ?_
    exact ⟨(k+1,ju,jd),pt,⟨rfl,(by rw[eu]<;>rfl),(by rw[eu]<;>rfl),trivial⟩,⟨_,(.refl _),by rw[eu,eu]⟩,hk2,by dsimp only;omega⟩
 ·have hkn:k=f.vars.length:=by simp at ck;omega
  subst hkn
  refine y9<|zc<|ah<|ae je Z Ze Z Z<|aI Zl Z<|ak jk Z<|aa Z<|z6 ?_
  obtain ⟨VU,hVU⟩:∃V,df f l true f.vars.length=V:=⟨_,rfl⟩
  obtain ⟨VD,hVD⟩:∃V,df f l false f.vars.length=V:=⟨_,rfl⟩
  have hbU:∀{i j:Nat} (hi:i<f.blocks.length),j≤f.blocks[i].insts.length→(VU++(bS f l true i++ee f l true i (f.blocks[i].insts.take j))).length≤70000000:=fun hi hj=>by rw[←hVU];exact og hf l true hi hj
  have hbD:∀{i j:Nat} (hi:i<f.blocks.length),j≤f.blocks[i].insts.length→(VD++(bS f l false i++ee f l false i (f.blocks[i].insts.take j))).length≤70000000:=fun hi hj=>by rw[←hVD];exact og hf l false hi hj
  rw[hVU,hVD]
  refine zh<|ya (γ:=Nat × Nat × Nat) [1,2,6,7,70,71] (fun g=>[(72,.int .i64 g.1),(4,.own g.2.1 (VU++bS f l true g.1).length),(5,.own g.2.2 (VD++bS f l false g.1).length)]) (fun g=>[(g.2.1,.grow 3 126 (eC (VU++bS f l true g.1))),(g.2.2,.grow 3 126 (eC (VD++bS f l false g.1)))]) (fun g=>g.1≤f.blocks.length) (fun g=>f.blocks.length - g.1) (0,ju,jd) ⟨Z,Mi,Mi,trivial⟩ ⟨_,(.refl _),by rw[GB,GB,w5,w5]⟩ (qt _) ?_
  rintro ⟨i,ju,jd⟩ hi
  try dsimp only at *
  refine ah<|aw Z Z<|z6<|zc<|zp Z (fun ci=>?_) (fun ci=>?_)
  ·have hi2:i<f.blocks.length:=by simp at ci;omega
   obtain ⟨b,hbi⟩:∃b,f.blocks[i]=b:=⟨_,rfl⟩
   have hget:f.blocks[i]?=some b:=by rw[qq hi2,hbi]
   have hmem:b∈f.blocks:=hbi▸qu hi2
   obtain ⟨hb0,hb1,hb2,hb3,hb4⟩:=hf.2.2.2.2 b hmem
   obtain ⟨hPh,hIn,hTm⟩:=hS.2.2.2.2.2 b hmem
   have hbU2:∀j,j≤b.insts.length→(VU++(bS f l true i++ee f l true i (b.insts.take j))).length≤70000000:=fun j hj=>by have:=hbU hi2 (j:=j) (by rw[hbi];exact hj);rwa [hbi] at this
   have hbD2:∀j,j≤b.insts.length→(VD++(bS f l false i++ee f l false i (b.insts.take j))).length≤70000000:=fun j hj=>by have:=hbD hi2 (j:=j) (by rw[hbi];exact hj);rwa [hbi] at this
   refine zd<|zc<|zh<|ah<|aa Z<|za (bD i jk jv Z Z Z hget)<|ab Yk jv Z Z<|zy (cs:=[.str ⟨#[]⟩,.raw (.slice none 0 0),.raw (.slice none 0 0),.int .i64 0,.int .i64 0,.int .i64 0,.int .i64 0]) Zn Z Z<|fun i14=>ay Z<|zq jv Z Z Z Z Z Z .head Z<|zf (yd (t:=14) Z .head)<|z6<|ah<|ae jl Z Y8 Z Z<|aI Yi Z<|ak jx Z<|aa Z<|z6<|zh<|ya (γ:=Nat × Nat × Nat) [1,2,6,7,13,70,71,72,78,79] (fun g=>[(80,.int .i64 g.1),(4,.own g.2.1 (VU++(bS f l true i++ee f l true i (b.insts.take g.1))).length),(5,.own g.2.2 (VD++(bS f l false i++ee f l false i (b.insts.take g.1))).length)]) (fun g=>[(g.2.1,.grow 3 126 (eC (VU++(bS f l true i++ee f l true i (b.insts.take g.1))))),(g.2.2,.grow 3 126 (eC (VD++(bS f l false i++ee f l false i (b.insts.take g.1)))))]) (fun g=>g.1≤b.insts.length) (fun g=>b.insts.length - g.1) (0,ju,jd) ⟨Z,(by rw[BW,w5]<;>rfl),(by rw[BW,w5]<;>rfl),trivial⟩ ⟨_,(.refl _),by rw[BW,BW,w5,w5]⟩ (qt _) ?_
   rintro ⟨j,ju,jd⟩ hj
   try dsimp only at *
   refine ah<|aw Z Z<|z6<|zc<|zp Z (fun cj=>?_) (fun cj=>?_)
   ·have hj2:j<b.insts.length:=by simp at cj;omega
    obtain ⟨z,hz⟩:∃z,b.insts[j]=z:=⟨_,rfl⟩
    have hI:=fk (hIn z (hz▸qu hj2))
    have hleU:=hbU2 j (by omega)
    have hleD:=hbD2 j (by omega)
    have hsn:∀(V:List dI) (up:Bool),V++(bS f l up i++ee f l up i (b.insts.take (j+1)))=V++(bS f l up i++ee f l up i (b.insts.take j))++fK f l up z i j:=fun V up=>by rw[nW f l up i hj2,hz];simp
    have hsU:=hsn VU true
    have hsD:=hsn VD false
    obtain ⟨eu,heu⟩:∃e,VU++(bS f l true i++ee f l true i (b.insts.take j))=e:=⟨_,rfl⟩
    obtain ⟨ed,hed⟩:∃e,VD++(bS f l false i++ee f l false i (b.insts.take j))=e:=⟨_,rfl⟩
    rw[heu] at hleU hsU
    rw[hed] at hleD hsD
    rw[heu,hed]
    have hdst:0≤z.dst→z.dst.toNat<f.vars.length∧bz f z.dst=true:=fun h0=>by
     rcases hI.dst with ⟨_,h⟩|⟨_,_,h⟩
     ·omega
     ·have:=bH h;exact ⟨by omega,h⟩
    refine zd<|zc<|zh<|ah<|aa Z<|za (bD j jx Z9 Z Z Z (by rw[qq hj2,hz])) ?_
    refine ab Ye Z9 Z Z<|zy (cs:=[.int .i64 0,.int .i64 0,.raw (.slice none 0 0),.int .i64 0]) Yf Z Z<|fun i16=>ay Z<|zq Z9 Z Z Z Z Z Z .head Z<|zf (yd (t:=16) Z .head)<|z6<|zc<|zc<|yf (γ:=Bool) [1,2,4,5,6,7,13,15,16,70,71,72,78,79,80] (fun u=>[(97,.bool u)]) (fun u=>[(ju,.grow 3 126 (eC (eu))),(jd,.grow 3 126 (eC (ed)))]) (fun u=>u=!decide (0≤z.dst∧oV f z.dst≠1)) ?_ (fun _ _ h=>h) ?_
    ·refine aM<|ae j8 Z ja Z Z<|ax jc Z<|aw Z Z<|ai Z<|zm (s:=88) Z (fun cd=>?_) (fun cd=>?_)
     ·have hd0:z.dst<0:=wb cd
      refine z7 Z Z cd<|z7 Z Z cd<|z7 Z Z cd<|z7 Z Z cd<|z7 Z Z cd<|z7 Z Z cd<|z7 Z Z cd<|z7 Z Z cd<|ap Z cd Z<|z6 ?_
      exact ⟨_,⟨rfl,rfl,rfl,rfl,rfl,rfl,rfl,rfl,rfl,rfl,rfl,rfl,rfl,rfl,rfl,trivial⟩,aG,aC,by rw[w8 (fun h=>by omega)];rfl⟩
     ·have hd0:¬z.dst<0:=of_decide_eq_false cd
      have hdl:=(hdst (by omega)).1
      have hty:oV f z.dst=f.vars[z.dst.toNat].ty:=by have:=lT (f:=f) hdl;rwa [wa (by omega)] at this
      refine z8 Z Z cd<|ae je Z Zg Z Z<|z8 Z Z cd<|aI Zp Z<|z8 Z Z cd<|ae j8 Z ja Z Z<|z8 Z Z cd<|ax jc Z<|z8 Z Z cd<|za (bD z.dst.toNat js Zx Z Z (by omega) (qq hdl))<|z8 Z Z cd<|ae Zd Z Yj Z Z<|z8 Z Z cd<|ax Yv Z<|z8 Z Z cd<|aj Z Z<|aq Z cd Z<|z6 ?_
      exact ⟨_,⟨rfl,rfl,rfl,rfl,rfl,rfl,rfl,rfl,rfl,rfl,rfl,rfl,rfl,rfl,rfl,trivial⟩,aG,aC,by rw[hty,qz];simp;omega⟩
    ·rintro u hu
     subst hu
     refine zt Z (fun cc=>?_) (fun cc=>?_)
     ·have hc0:¬(0≤z.dst∧oV f z.dst≠1):=eB cc
      have hst:∀up,fK f l up z i j=[]:=fun up=>by unfold fK;rw[if_neg hc0]
      refine y9<|aM<|aA Z Z<|aa Z<|z6 ?_
      exact ⟨(j+1,ju,jd),iy,⟨rfl,(by rw[hsU,hst,w5]<;>rfl),(by rw[hsD,hst,w5]<;>rfl),trivial⟩,⟨_,(.refl _),by rw[hsU,hsD,hst,hst,w5,w5]⟩,hj2,by dsimp only;omega⟩
     ·have hc0:0≤z.dst∧oV f z.dst≠1:=eF cc
      obtain ⟨hdl,hdv⟩:=hdst hc0.1
      obtain ⟨y,hy,hyt,hy0,hy2⟩:=uW hS hdv
      have hilU:=lL f l true z i j
      have hilD:=lL f l false z i j
      obtain ⟨IU,hIU⟩:∃I,cT f l true z i j=I:=⟨_,rfl⟩
      obtain ⟨ID,hID⟩:∃I,cT f l false z i j=I:=⟨_,rfl⟩
      have hOf:=AF (E:=E) f hf hS hE l hll hok z hI i j hi2
      rw[hIU,hID] at hOf
      rw[hIU] at hilU
      rw[hID] at hilD
      have hlU:(eu++IU).length≤80000000:=by rw[qw];omega
      have hlD:(ed++ID).length≤80000000:=by rw[qw];omega
      have fu:VU++(bS f l true i++ee f l true i (b.insts.take (j+1)))=fG (eu++IU) z.dst (n0 f) (dW f l z.dst) (dW f l z.dst).2 1:=by rw[hsU];unfold fK;rw[if_pos hc0,hIU,←qs];rfl
      have fd:VD++(bS f l false i++ee f l false i (b.insts.take (j+1)))=fG (ed++ID) z.dst (n0 f) (dW f l z.dst) (dW f l z.dst).1 1:=by rw[hsD];unfold fK;rw[if_pos hc0,hID,←qs];rfl
      refine zd<|ah<|ab jm jh Z Z<|aU Z<|aU Z<|ab Ye Z9 Z Z<|aa Z<|aa Z<|ze (hOf) Z<|za (m6 Z)<|za (yy (v:=.fro _ _) Z Z)<|za (yy (v:=.fro _ _) Z Z)<|za (iw Z)<|za (iw Z)<|z6<|zc<|yf (γ:=Nat × Nat) [1,2,6,7,13,16,70,71,72,78,79,80] (fun g=>[(4,.own g.1 (eu++IU).length),(5,.own g.2 (ed++ID).length)]) (fun g=>[(g.1,.grow 3 126 (eC (eu++IU))),(g.2,.grow 3 126 (eC (ed++ID)))]) (fun g=>True) ?_ (fun _ _ h=>h) ?_
      ·refine aM<|bw Z<|aU Z<|yn (k:=3) Zu Xb Z Z Z Z Z (fun _=>.head) (by rw[qN]) (by decide) (Gz _) (by rw[qx];show (_+_)*24≤_;omega) (by rw[qx];omega)<|fun i110=>bw Z<|aU Z<|yn (k:=3) Zu Xb Z Z Z Z Z (fun _=>.t1) (by rw[qN]) (by decide) (Gz _) (by rw[qx];show (_+_)*24≤_;omega) (by rw[qx];omega)<|fun i113=>bM Z<|bM Z<|z6 ?_
       exact ⟨(i110,i113),ec,⟨congrArg (AV.own i110) (show eu.length+(IU.map gg).length=(eu++IU).length by rw[qw,qx]),congrArg (AV.own i113) (show ed.length+(ID.map gg).length=(ed++ID).length by rw[qw,qx]),trivial⟩,⟨_,(.refl _),(by rw[GA,GA]<;>rfl)⟩,trivial⟩
      ·rintro ⟨ju,jd⟩ _
       have hms:=lO (E:=E) (lv l z.dst) (de y.ty)
       rw[show fA (lv l z.dst) (de y.ty)=dW f l z.dst by unfold dW;rw[←hyt]] at hms
       refine zc<|yf (γ:=Nat) [1,2,4,5,6,7,13,16,70,71,72,78,79,80] (fun q=>[(19,.po q 0)]) (fun q=>[(q,.cells 91 (bg (dW f l z.dst))),(ju,.grow 3 126 (eC (eu++IU))),(jd,.grow 3 126 (eC (ed++ID)))]) (fun q=>True) ?_ (fun _ _ h=>h) ?_
       ·refine y7 (fun j=>false) (by kernel_rfl) Z (zn (.rest _))<|au 0 Z (kl Z)<|au 1 Z (cA j8 Z ja Z Z)<|au 2 Z (du jc Z)<|au 3 Z (bD z.dst.toNat X3 jq Z Z (by omega) (by have:=rL (l:=l) (k:=z.dst.toNat) (by omega);rwa [wa hc0.1] at this))<|au 4 Z (yk Y9 jq Z Z)<|au 5 Z (cA je Z Zg Z Z)<|au 6 Z (iS Zp Z)<|au 7 Z (cA j8 Z ja Z Z)<|au 8 Z (du jc Z)<|au 9 Z (bD z.dst.toNat js Zx Z Z (by omega) hy)<|au 10 Z (cA Zd Z Yj Z Z)<|au 11 Z (du Yv Z)<|yv (i:=12) (j:=14) Z Z (by kernel_rfl) ?_ ?_
        ·refine ze (gU (t:=y.ty) ⟨hy0,hy2⟩) Z<|z6<|yv (i:=13) (j:=14) Z Z (by kernel_rfl) ?_ ?_
         ·refine ze (hms) Z<|z6<|aV 14 Z<|zy (cs:=[.int .i64 0,.int .i64 0]) Y5 Z Z<|fun i19=>z6<|aV 15 Z<|zq jq Z Z Z Z Z Z .head Z<|z6<|bY ?_
          exact ⟨i19,⟨rfl,rfl,rfl,rfl,rfl,rfl,rfl,rfl,rfl,rfl,rfl,rfl,rfl,rfl,trivial⟩,aG,aC,trivial⟩
         ·refine zy (cs:=[.int .i64 0,.int .i64 0]) Y5 Z Z<|fun i19=>z6<|aV 13 Z<|ze (hms) Z<|z6<|aV 15 Z<|zq jq Z Z Z Z Z Z .head Z<|z6<|bY ?_
          exact ⟨i19,⟨rfl,rfl,rfl,rfl,rfl,rfl,rfl,rfl,rfl,rfl,rfl,rfl,rfl,rfl,trivial⟩,aG,aC,trivial⟩
        ·refine zy (cs:=[.int .i64 0,.int .i64 0]) Y5 Z Z<|fun i19=>z6<|aV 12 Z<|ze (gU (t:=y.ty) ⟨hy0,hy2⟩) Z<|z6<|aV 13 Z<|ze (hms) Z<|z6<|aV 15 Z<|zq jq Z Z Z Z Z Z .head Z<|z6<|bY ?_
         exact ⟨i19,⟨rfl,rfl,rfl,rfl,rfl,rfl,rfl,rfl,rfl,rfl,rfl,rfl,rfl,rfl,trivial⟩,aG,aC,trivial⟩
       ·rintro q _
        refine yg (yd (t:=19) Z .head)<|y7 (fun j=>false) (by kernel_rfl) Z (zn (.rest _))<|au 0 Z (Fb Z)<|au 1 Z (cA j8 Z ja Z Z)<|au 2 Z (du jc Z)<|au 3 Z (cG Z)<|au 4 Z (yk Y9 jq Z Z)<|au 5 Z (cA jr Z ji Z Z)<|au 6 Z (du jp Z)<|au 8 Z (Fb Z)<|au 9 Z (cA j8 Z ja Z Z)<|au 10 Z (du jc Z)<|au 11 Z (cG Z)<|au 12 Z (yk Y9 jq Z Z)<|au 13 Z (cA jr Z ji Z Z)<|au 14 Z (du jp Z)<|aV 7 Z<|zu Z (zn (.l (.r (.rest _)))) (ej ju (eu++IU) (by omega) z.dst (n0 f) (dW f l z.dst) (dW f l z.dst).2 1 (hend true z.dst hc0.1)) ?_
        rintro r135 O135 ⟨j1,rfl,rfl,_⟩
        refine z6<|aV 15 Z<|zu Z (zn (.r (.l (.rest _)))) (ej jd (ed++ID) (by omega) z.dst (n0 f) (dW f l z.dst) (dW f l z.dst).1 1 (hend false z.dst hc0.1)) ?_
        rintro r143 O143 ⟨j2,rfl,rfl,_⟩
        refine z6<|au 16 Z (Ll Z)<|au 17 Z (Ll Z)<|bY<|yg (zi (zj .t1))<|aM<|aA Z Z<|aa Z<|z6 ?_
        exact ⟨(j+1,j1,j2),iy,⟨rfl,(by rw[fu]<;>rfl),(by rw[fd]<;>rfl),trivial⟩,⟨_,(.refl _),(by rw[fu,fd]<;>rfl)⟩,hj2,by dsimp only;omega⟩
   ·have hjn:j=b.insts.length:=by simp at cj;omega
    subst hjn
    have eb:∀up,bS f l up i++ee f l up i b.insts=bS f l up (i+1):=fun up=>by rw[my l up hi2,hbi]
    rw[qv,eb,eb]
    refine y9<|aM<|aA Z Z<|aa Z<|z6 ?_
    exact ⟨(i+1,ju,jd),pt,dC,aC,hi2,by dsimp only;omega⟩
  ·have hin:i=f.blocks.length:=by simp at ci;omega
   subst hin
   have eU:VU++bS f l true f.blocks.length=bX f l true:=by rw[←hVU];rfl
   have eD:VD++bS f l false f.blocks.length=bX f l false:=by rw[←hVD];rfl
   rw[eU,eD]
   refine y9<|ah<|bw Z<|bw Z<|bM Z<|bM Z<|z6<|yg (aK.knowE (t:=4) (by rfl) .head (by rfl))<|yg (aK.knowE (t:=5) (by rfl) .head (by rfl))<|zg<|qb (x:=.fro _ _) (y:=.fro _ _) Z Z ?_
   rfl
end
section
open Go.Proofs.Tryz
open Go.Proofs Go.Lib Go.Shelf Go.RowKit
variable {E:World}
set_option maxRecDepth 20000
end
section
open Go.Proofs.Tryz
open Go.Proofs Go.Lib Go.Shelf Go.RowKit
variable {E:World}
set_option maxRecDepth 20000
end
section
open Go.Proofs.Tryz
open Go.Proofs Go.Lib Go.Shelf Go.RowKit
variable {E:World}
set_option maxRecDepth 20000
theorem tY {c:Bool} {e d:dI} (h:e∈iz c d):c=true∧e=d:=by
 unfold iz at h
 split at h
 ·rename_i c0;exact ⟨c0,by simpa using h⟩
 ·cases h
theorem lu {f:ad} {l:List be} {up:Bool} {v:Int} {o:Bool} {to from_ s:Int} {e:dI} (hv:cY (dW f l v)) (hs:s=1∨s=-1) (h:e∈qO f l up v o to from_ s):aP e.2.2:=by
 obtain ⟨h1,rfl⟩:=tY h
 exact gI hv (by unfold ff;split;exact .inr rfl;exact .inl rfl) hs h1
theorem AL:aP 0∧aP 1∧aP (-1):=by decide
theorem GC {f:ad} {l:List be} {up:Bool} {x:aN} {b a:Int} {e:dI} (hok:∀u:Int,0≤u→cY (lv l u)) (h0:∀v∈x.args,0≤v) (hl:jY x.op→2≤x.args.length) (hn:aP x.num) (h:e∈cT f l up x b a):aP e.2.2:=by
 have k0:=AL.1
 have k1:=AL.2.1
 have k2:=AL.2.2
 unfold cT at h
 split at h
 ·rw[List.mem_singleton.1 h];exact hn
 split at h
 ·rw[List.mem_singleton.1 h];exact k0
 split at h
 ·rename_i c2
  have hl2:=hl (by unfold jY;omega)
  have o0:cY (dW f l (x0 x)):=gf hok (h0 _ (AJ (by omega)))
  have o1:cY (dW f l (x1 x)):=gf hok (h0 _ (AK hl2))
  unfold kW at h
  split at h
  ·split at h
   ·exact lu o1 (.inr rfl) h
   ·rcases List.mem_append.1 h with h|h
    ·exact lu o1 (.inl rfl) h
    ·exact lu o0 (.inl rfl) h
  ·cases h
 split at h
 ·unfold gD at h
  rcases List.mem_append.1 h with h|h
  ·split at h
   ·rw[List.mem_singleton.1 h];split<;>exact k0
   ·cases h
  ·rw[(tY h).2];exact k2
 split at h
 ·rw[List.mem_singleton.1 h];exact k0
 split at h
 ·unfold Bs at h
  rcases List.mem_cons.1 h with h|h
  ·rw[h];exact k0
  ·split at h
   ·rw[List.mem_singleton.1 h];exact k2
   ·split at h
    ·rw[List.mem_singleton.1 h];exact k0
    ·split at h
     ·rw[List.mem_singleton.1 h];exact k1
     ·cases h
 split at h
 ·rcases List.mem_cons.1 h with h|h
  ·rw[h];exact k0
  ·rw[List.mem_singleton.1 h];split
   ·exact k2
   ·exact k0
 ·cases h
theorem tZ {f:ad} (hS:bx f) (hN:∀b∈f.blocks,∀x∈b.insts,aP x.num) {l:List be} (hol:∀r∈l,cY r) {up:Bool} {e:dI} (h:e∈bX f l up):aP e.2.2:=by
 have hok:∀u:Int,0≤u→cY (lv l u):=fun u _=>Gn hol u
 unfold bX at h
 rcases List.mem_append.1 h with h|h
 ·unfold df at h
  obtain ⟨v,hv,h⟩:=List.mem_flatMap.1 h
  unfold oZ at h
  split at h
  ·exact lu (gf hok (by omega)) (.inl rfl) h
  ·cases h
 ·unfold bS at h
  rw[qv] at h
  obtain ⟨⟨b,i⟩,hb,h⟩:=List.mem_flatMap.1 h
  unfold ee at h
  obtain ⟨⟨x,k⟩,hx,h⟩:=List.mem_flatMap.1 h
  have hbm:b∈f.blocks:=w3 (List.mem_zipIdx_iff_getElem?.1 hb)
  have hxm:x∈b.insts:=w3 (List.mem_zipIdx_iff_getElem?.1 hx)
  have hI:=fk ((hS.2.2.2.2.2 b hbm).2.1 x hxm)
  unfold fK at h
  split at h
  ·rename_i c
   rcases List.mem_append.1 h with h|h
   ·exact GC hok (fun v hv=>(bH (hI.args v hv)).1) (fun ho=>by rw[hI.len,rO ho];exact Nat.le_refl 2) (hN b hbm x hxm) h
   ·exact lu (gf hok c.1) (.inl rfl) h
  ·cases h
end
section
open Go.Proofs.Tryz
open Go.Proofs Go.Lib Go.Shelf Go.RowKit
variable {E:World}
set_option maxRecDepth 20000
theorem GD {l:List be} {n:Nat} (hl:l.length=n) {v:Int} (h0:0≤v) (h1:v<n):l[v.toNat]?=some (lv l v):=by
 have:=rL (l:=l) (k:=v.toNat) (by omega)
 rwa [wa h0] at this
theorem wW {a:Int} (h0:0≤a) (h1:a≤64):IntKind.i64.wrap (0 - a)=-a:=by rw[aQ (by unfold aP;omega)];omega
def lw (f:ad) (s v:Int):Bool:=decide (s<f.vars.length)&&qS f s v
def GE (f:ad) (s:Int):List (Int × AV):=if s<f.vars.length then (if 0≤(aB f s).1 then gE f (aB f s).1 (dS f f.blocks.length) else[]) else[]
def Nw (f:ad) (l:List be) (s:Int) (d:List EH):Prop:=(aR f&&bG f)=true∧l.length=f.vars.length∧d.length=f.vars.length+1∧0≤s∧s≤f.vars.length∧(s<f.vars.length→oV f s=2)
instance (f:ad) (l:List be) (s:Int) (d:List EH):Decidable (Nw f l s d):=by unfold Nw;infer_instance
def Nx (f:ad) (l:List be) (d:List EH):Prop:=(aR f&&bG f)=true∧l.length=f.vars.length∧d.length=f.vars.length+1
instance (f:ad) (l:List be) (d:List EH):Decidable (Nx f l d):=by unfold Nx;infer_instance
theorem wY {f:ad} (hS:bx f) {v:Int} (h:v=f.vars.length):bm f v=[]:=by
 refine List.eq_nil_iff_forall_not_mem.2 fun m hm=>?_
 obtain ⟨i,b,hb,hm⟩:=fB.1 hm
 have hbm:=w3 hb
 obtain ⟨hPh,hIn,_⟩:=hS.2.2.2.2.2 b hbm
 rcases ib.1 hm with ⟨p,hp,hd,_⟩|⟨k,x,hx,hd,_⟩
 ·have:=bH (hPh p hp).1;omega
 ·have hI:=fk (hIn x (w3 hx))
  rcases hI.dst with ⟨_,h2⟩|⟨_,_,h2⟩
  ·omega
  ·have:=bH h2;omega
theorem BX {f:ad} (hF:f6 f) (h:(aR f&&bG f)=true) (l:List be) (up:Bool):∀e∈bX f l up,0≤e.2.1∧e.2.1≤f.vars.length:=fun e he=>by
 have h1:=nz hF h l up e he
 exact ⟨h1.to0,by have:=h1.to1;omega⟩
theorem GG {f:ad} (hF:f6 f) {s:Int}:∀(v:Nat) p,fL f v=some p→(ag v (GE f s)).getD (.int .i64 0)=.int .i64 (if lw f s v=true then 1 else 0):=fun v p hp=>by
 obtain ⟨i,b,hb,hpm,hd,_,_⟩:=jB hp
 have hv:v<f.vars.length:=by
  have:=bH ((hF.shaped.2.2.2.2.2 b (w3 hb)).1 p hpm).1
  omega
 unfold GE lw
 by_cases c:s<f.vars.length
 ·rw[if_pos c,w7 c,Bool.true_and,Ic (p:=p)]
  by_cases c2:0≤(aB f s).1
  ·rw[if_pos c2,w7 c2,Bool.true_and]
   exact Fy (hF.once v hv).1 hp
  ·rw[if_neg c2,w8 c2,Bool.false_and];rfl
 ·rw[if_neg c,w8 c,Bool.false_and];rfl
theorem uZ (l:List be) (s:Int) (h:¬(fA (lv l s) (de 2)).2<(fA (lv l s) (de 2)).1):0≤(fA (lv l s) (de 2)).1∧(fA (lv l s) (de 2)).1≤64:=by
 have h1:=(Fk (a:=lv l s) (b:=de 2)).2
 rw[show de 2=(0,64) from rfl] at h h1 ⊢
 rcases h1 with h1|h1
 ·exact absurd h1 h
 ·dsimp only at h1;omega
end
section
open Go.Proofs.Tryz
open Go.Proofs Go.Lib Go.Shelf Go.RowKit
variable {E:World}
set_option maxRecDepth 20000
def JT (up:Bool):Int:=if up=true then 1 else -1
end
section
open Go.Proofs.Tryz
open Go.Proofs Go.Lib Go.Shelf Go.RowKit
variable {E:World}
set_option maxRecDepth 20000
theorem D9 {f:ad} {s:Int} (h1:0≤(aB f s).1):(aB f s).1<f.blocks.length:=by
 obtain ⟨k,c,hc,hcase⟩:=fC h1
 have hk:=(List.getElem?_eq_some_iff.1 hc).1
 rcases hcase with ⟨_,_,_,e⟩|⟨_,_,_,_,e⟩
 ·rw[e];dsimp only;omega
 ·rw[e];dsimp only;omega
end
section
open Go.Proofs.Tryz
open Go.Proofs Go.Lib Go.Shelf Go.RowKit
variable {E:World}
set_option maxRecDepth 20000
theorem GH {f:ad} {v:Int} (h0:0≤(aB f v).1) (h1:(aB f v).2<0):∃p,fL f v=some p:=by
 obtain ⟨i,b,hb,⟨p,hp,hd,e⟩|⟨k,x,_,_,e⟩⟩:=fC h0
 ·have:fL f v=b.phis.find? fun q=>decide (q.dst=v):=by
   unfold fL
   rw[if_pos ⟨h0,h1⟩,e]
   show (f.blocks[((i:Int)).toNat]?).bind _=_
   rw[show ((i:Int)).toNat=i from rfl,hb];rfl
  cases h:b.phis.find? fun q=>decide (q.dst=v) with
  |none=>exact absurd hd (by simpa using List.find?_eq_none.1 h p hp)
  |some q=>exact ⟨q,by rw[this,h]⟩
 ·rw[e] at h1;dsimp only at h1;omega
end
section
open Go.Proofs.Tryz
open Go.Proofs Go.Lib Go.Shelf Go.RowKit
variable {E:World}
set_option maxRecDepth 20000
theorem I4 {f:ad} (hF:f6 f):FA f:=by
 rintro ⟨v,p⟩ hq
 obtain ⟨b,hb,hc⟩:=nV.1 hq
 obtain ⟨i,hi⟩:=List.mem_iff_getElem?.1 hb
 obtain ⟨hPh,hIn,_⟩:=hF.shaped.2.2.2.2.2 b hb
 dsimp only
 rcases hc with ⟨rfl,q,hqb,rfl⟩|⟨rfl,h0,x,hx,rfl⟩
 ·obtain ⟨h0,h1⟩:=bH (hPh q hqb).1
  have hm:((i:Int),(-1:Int))∈bm f q.dst:=fB.2 ⟨i,b,hi,ib.2 (.inl ⟨q,hqb,rfl,rfl⟩)⟩
  have ho:=(hF.once q.dst.toNat (by omega)).1
  rw[wa h0] at ho
  rw[na ho hm]
  exact ⟨h0,h1,by dsimp only;omega,by simp⟩
 ·have h1:x.dst<f.vars.length:=by
   rcases (fk (hIn x hx)).dst with ⟨_,h⟩|⟨_,_,h⟩
   ·omega
   ·exact (bH h).2
  obtain ⟨k,hk⟩:=List.mem_iff_getElem?.1 hx
  have hm:((i:Int),(k:Int))∈bm f x.dst:=fB.2 ⟨i,b,hi,ib.2 (.inr ⟨k,x,hk,rfl,rfl⟩)⟩
  have ho:=(hF.once x.dst.toNat (by omega)).1
  rw[wa h0] at ho
  rw[na ho hm]
  exact ⟨h0,h1,by dsimp only;omega,by dsimp only;constructor;(intro h;cases h);(intro h;omega)⟩
end
section
open Go.Proofs.Tryz
open Go.Proofs Go.Lib Go.Shelf Go.RowKit
variable {E:World}
set_option maxRecDepth 20000
def sV (f:ad) (l:List be) (s:Int):List dI:=if (jU l s).1=true then[(s,(f.vars.length:Int),(jU l s).2)] else[]
def AM (f:ad) (l:List be) (up:Bool) (s v:Int):List dI:=if v=f.vars.length∧s<f.vars.length then sV f l s else fD (bX f l up) v
def eJ (f:ad) (l:List be) (up:Bool) (s:Int):Sd:=⟨up,s,f.vars.length,AM f l up s,fL f,lw f s⟩
theorem GI {f:ad} (hF:f6 f) {v:Int} (h:v=f.vars.length):fL f v=none:=by
 cases hp:fL f v with
 |none=>rfl
 |some p=>
  obtain ⟨i,b,hb,hpm,hd,_,_⟩:=jB hp
  have:=bH ((hF.shaped.2.2.2.2.2 b (w3 hb)).1 p hpm).1
  omega
theorem BZ (l:List be) (s:Int):-64≤(jU l s).2∧(jU l s).2≤0:=by
 unfold jU
 split
 ·decide
 ·rename_i h
  have:=uZ l s h
  dsimp only
  omega
theorem GJ {f:ad} (hF:f6 f) {l:List be} {up:Bool} {s:Int} (hs:s<f.vars.length) {A:List b7} (hA:iU (eJ f l up s) A):bW (eJ f l up s) A f.vars.length=if (jU l s).1=true then (1,(jU l s).2) else (2,0):=by
 have hn:=BZ l s
 have h1:dF A s=(1,0):=hA.src
 unfold bW
 rw[show (eJ f l up s).ph f.vars.length=none from GI hF rfl]
 show jJ up A (2,0) (AM f l up s f.vars.length)=_
 unfold AM
 rw[if_pos ⟨rfl,hs⟩]
 unfold sV
 by_cases c:(jU l s).1=true
 ·rw[if_pos c,if_pos c]
  have h2:gF up (1,0) (jU l s).2=(1,(jU l s).2):=by
   unfold gF
   have h3:dk 0 ((1,0):b7).2 (jU l s).2:=show aP (0+(jU l s).2) from (by unfold aP;omega)
   rw[if_pos rfl,if_pos h3]
   show ((1:Int),0+(jU l s).2)=_
   rw[Int.zero_add]
  show (if bU up (2,0) (gF up (dF A s) (jU l s).2)=true then gF up (dF A s) (jU l s).2 else (2,0))=_
  rw[h1,h2,if_pos (FG (show (1:Int)<2 by decide))]
 ·rw[if_neg c,if_neg c];rfl
theorem Ea {f:ad} (hF:f6 f) (h:(aR f&&bG f)=true) (l:List be) (up:Bool) {e:dI} (he:e∈bX f l up) :
  e.1=f.vars.length∨∃(i k:Nat),aB f e.2.1=((i:Int),(k:Int))∧ir f (aB f e.1) i k:=by
 rcases List.mem_append.1 he with he|he
 ·unfold df at he
  obtain ⟨k,hk,he⟩:=List.mem_flatMap.1 he
  unfold oZ at he
  split at he
  ·unfold sK at he
   exact .inl (iI he).1
  ·cases he
 ·obtain ⟨i,b,hb,he⟩:=tX.1 he
  obtain ⟨k,x,hx,he⟩:=wT.1 he
  have hI:=Gy hF h hb hx
  unfold fK at he
  split at he
  ·rename_i hc
   rcases List.mem_append.1 he with he|he
   ·obtain ⟨h1,h2|⟨h2,h3⟩|⟨h2,h3⟩⟩:=tW he
    ·exact .inl h2
    ·exact .inr ⟨i,k,by rw[h1];exact hI.made hc.1,by rw[h2];exact hI.ahead _ (AJ (by rw[hI.F.len];exact oJ h3))⟩
    ·exact .inr ⟨i,k,by rw[h1];exact hI.made hc.1,by rw[h2];exact hI.ahead _ (AK (by rw[hI.F.len,rO h3];exact Nat.le_refl 2))⟩
   ·unfold sK at he
    exact .inl (iI he).1
  ·cases he
theorem GK {f:ad} (hE:bF f) {M:Nat} (hM:∀b∈f.blocks,b.insts.length≤M) {v a:Int} {i k:Nat} (hv:aB f v=((i:Int),(k:Int))) (ha:ir f (aB f a) i k) (h1:0≤(aB f a).1) (h2:¬(aB f a).2<0):tC f M a<tC f M v:=by
 obtain ⟨i',b',g1,⟨_,_,_,g4⟩|⟨k',x',g2,_,g4⟩⟩:=fC h1
 ·rw[g4] at h2;exact absurd (show (-1:Int)<0 by decide) h2
 ·unfold tC
  rw[hv]
  rw[g4] at ha ⊢
  unfold ir at ha
  dsimp only at ha ⊢
  rw[show ((k:Int).toNat)=k from rfl,show ((k':Int).toNat)=k' from rfl]
  rcases ha with ha|⟨ha,ha2⟩|⟨_,ha,ha2⟩
  ·omega
  ·rw[ha];omega
  ·have hl:=FD hE ha ha2
   have hk':k'<M:=by
    have:=hM b' (w3 g1)
    have:=(List.getElem?_eq_some_iff.1 g2).1
    omega
   have:((gi (b5 (ao f) f.blocks.length) (i':Int)).toNat+1)*M≤(gi (b5 (ao f) f.blocks.length) (i:Int)).toNat*M:=Nat.mul_le_mul_right _ (by omega)
   rw[Nat.add_mul,Nat.one_mul] at this
   omega
def nA (f:ad) (M:Nat) (v:Int):Nat:=if v=f.vars.length then 0 else if (aB f v).1<0 then 1 else tC f M v+2
theorem KP {f:ad} (hF:f6 f) (h:(aR f&&bG f)=true) {l:List be} {up:Bool} {s:Int} (hs:0≤s∧s≤f.vars.length) {M:Nat} (hM:∀b∈f.blocks,b.insts.length≤M):FI (eJ f l up s) (nA f M):=fun v h0 h1 hvs hp e he=>by
 have hE:=bT (jW h).1
 have hp:fL f v=none:=hp
 have hvs:v≠s:=hvs
 have h1:v≤f.vars.length:=h1
 have he:e∈AM f l up s v:=he
 show 0≤e.1∧e.1≤f.vars.length∧(e.1=s∨(fL f e.1).isSome=true∨nA f M e.1<nA f M v)
 unfold AM at he
 split at he
 ·rename_i c
  unfold sV at he
  split at he
  ·rw[List.mem_singleton.1 he];exact ⟨hs.1,hs.2,.inl rfl⟩
  ·cases he
 ·have hem:=(List.mem_filter.1 he).1
  have het:e.2.1=v:=by simpa using (List.mem_filter.1 he).2
  have ho:=nz hF h l up e hem
  refine ⟨ho.from0,ho.from1,?_⟩
  have hvl:=ho.to1
  rw[het] at hvl
  have hvn:¬v=f.vars.length:=by omega
  rcases Ea hF h l up hem with hn|⟨i,k,hm,ha⟩
  ·right;right
   unfold nA
   rw[if_pos hn,if_neg hvn]
   split<;>omega
  ·rw[het] at hm
   by_cases cn:e.1=f.vars.length
   ·right;right
    unfold nA
    rw[if_pos cn,if_neg hvn]
    split<;>omega
   ·by_cases ca:(aB f e.1).1<0
    ·right;right
     unfold nA
     rw[if_neg cn,if_pos ca,if_neg hvn,if_neg (by rw[hm];dsimp only;omega)]
     omega
    ·by_cases cp:(aB f e.1).2<0
     ·right;left
      obtain ⟨p,hp⟩:=GH (f:=f) (v:=e.1) (by omega) cp
      rw[hp];rfl
     ·right;right
      have:=GK hE hM hm ha (by omega) cp
      unfold nA
      rw[if_neg cn,if_neg ca,if_neg hvn,if_neg (by rw[hm];dsimp only;omega)]
      omega
theorem GL {f:ad} {v:Int} (h0:0≤v) (h:0≤(aB f v).1):v∈Fz f:=by
 obtain ⟨i,b,hb,⟨p,hp,hd,_⟩|⟨k,x,hx,hd,_⟩⟩:=fC h
 ·exact List.mem_map.2 ⟨(v,true),nV.2 ⟨b,w3 hb,.inl ⟨rfl,p,hp,hd⟩⟩,rfl⟩
 ·exact List.mem_map.2 ⟨(v,false),nV.2 ⟨b,w3 hb,.inr ⟨rfl,h0,x,w3 hx,hd⟩⟩,rfl⟩
theorem rR {f:ad} (hF:f6 f) (h:(aR f&&bG f)=true) (l:List be) (up:Bool) {s:Int} (hs:0≤s∧s≤f.vars.length):∃K,oE (eJ f l up s) K∧K≤4611686018427387904:=by
 have hf:=hF.small
 have hE:=bT (jW h).1
 have hsi:=(tq hE).1 (jW h).2
 have hM:∀b∈f.blocks,b.insts.length≤1000:=fun b hb=>(hf.2.2.2.2 b hb).2.2.1
 obtain ⟨K,h1,h2⟩:=Io (S:=eJ f l up s) (rank:=nA f 1000) (R:=1001002) hs.1 hs.2 (fun v hv=>by
  unfold nA
  split
  ·omega
  ·split
   ·omega
   ·rename_i c
    have:=Id hE (I4 hF) hM hsi.2.1 (GL (by omega) (show 0≤(aB f (v:Int)).1 by omega))
    have:=hf.2.2.1
    omega) (KP hF h hs hM)
 refine ⟨K,h1,?_⟩
 have h2:K≤3+3*(f.vars.length+1)*(1001002+2)+(1001002+1):=h2
 have h3:=hf.1
 have h4:3*(f.vars.length+1)*(1001002+2)≤3003*1001004:=Nat.mul_le_mul (by omega) (by omega)
 omega
def kS (f:ad) (l:List be) (up:Bool) (s:Int):List (List dI):=(List.range (f.vars.length+1)).map fun (v:Nat)=>AM f l up s v
theorem oh (f:ad) (l:List be) (up:Bool) (s:Int):(kS f l up s).length=f.vars.length+1:=by simp[kS]
theorem ua {f:ad} {l:List be} {up:Bool} {s:Int} {v:Nat} (h:v≤f.vars.length):(kS f l up s)[v]?=some (AM f l up s v):=by unfold kS;rw[qy,List.getElem?_range (by omega)];rfl
theorem wZ {f:ad} {l:List be} {up:Bool} {s:Int} (h:¬s<f.vars.length):kS f l up s=fM (bX f l up) (f.vars.length+1):=by
 unfold kS fM
 refine List.map_congr_left fun v _=>?_
 unfold AM
 rw[if_neg (fun c=>h c.2)]
theorem KQ {f:ad} (hF:f6 f) (h:(aR f&&bG f)=true) (l:List be) (up:Bool):fD (bX f l up) f.vars.length=[]:=by
 refine List.filter_eq_nil_iff.2 fun e he=>?_
 have:=(nz hF h l up e he).to1
 simp;omega
theorem ub {f:ad} {l:List be} {up:Bool} {s:Int} (h:s<f.vars.length):(fM (bX f l up) (f.vars.length+1)).set f.vars.length (sV f l s)=kS f l up s:=by
 refine List.ext_getElem? fun k=>?_
 by_cases hk:k≤f.vars.length
 ·rw[ua hk]
  unfold AM
  by_cases c:k=f.vars.length
  ·subst c
   rw[List.getElem?_set_self (by rw[eT];omega),if_pos ⟨rfl,h⟩]
  ·rw[List.getElem?_set_ne (fun e=>c e.symm),gj (by omega),if_neg (fun e=>c (by omega))]
 ·rw[List.getElem?_eq_none (by rw[List.length_set,eT];omega),List.getElem?_eq_none (by rw[oh];omega)]
theorem Eb {f:ad} (hF:f6 f) (h:(aR f&&bG f)=true) {l:List be} {up:Bool} {s:Int} (hs:s<f.vars.length) (hl:(jU l s).1=false):fM (bX f l up) (f.vars.length+1)=kS f l up s:=by
 rw[←ub hs]
 refine List.ext_getElem? fun k=>?_
 by_cases c:k=f.vars.length
 ·subst c
  rw[List.getElem?_set_self (by rw[eT];omega),gj (by omega),KQ hF h]
  unfold sV;rw[hl];rfl
 ·rw[List.getElem?_set_ne (fun e=>c e.symm)]
structure Lr (S:Sd) (rows:List (List dI)) (P Sh:List (Int × AV)):Prop where
 s0:0≤S.s
 s1:S.s≤S.n
 nl:S.n≤1000
 row:∀v:Nat,v≤S.n→rows[v]?=some (S.inE v)
 rlen:rows.length=S.n+1
 edge:∀v:Nat,v≤S.n→∀e∈S.inE v,0≤e.1∧e.1≤S.n∧aP e.2.2
 elen:∀v:Nat,v≤S.n→(S.inE v).length≤80000000
 phi:∀v:Nat,v≤S.n→ag v P=(S.ph v).map fun p=>.agg (dg p)
 args:∀(v:Nat) p,S.ph v=some p→(∀a∈p.args,0≤a∧a≤S.n)∧p.args.length≤1000
 shut:∀(v:Nat) p,S.ph v=some p→(ag v Sh).getD (.int .i64 0)=.int .i64 (if S.shut v=true then 1 else 0)
theorem Mj {f:ad} (hF:f6 f) (h:(aR f&&bG f)=true) (hN:∀b∈f.blocks,∀x∈b.insts,aP x.num) {l:List be} (hol:∀r∈l,cY r) (up:Bool) {s:Int} (hs:0≤s∧s≤f.vars.length):Lr (eJ f l up s) (kS f l up s) (iA (dS f f.blocks.length)) (GE f s) where
 s0:=hs.1
 s1:=hs.2
 nl:=hF.small.1
 row:=fun v hv=>ua hv
 rlen:=oh f l up s
 edge:=fun v hv e he=>by
  have he:e∈AM f l up s v:=he
  show 0≤e.1∧e.1≤f.vars.length∧aP e.2.2
  unfold AM at he
  split at he
  ·unfold sV at he
   split at he
   ·have:=BZ l s
    rw[List.mem_singleton.1 he];exact ⟨hs.1,hs.2,by unfold aP;dsimp only;omega⟩
   ·cases he
  ·have hem:=(List.mem_filter.1 he).1
   have ho:=nz hF h l up e hem
   exact ⟨ho.from0,ho.from1,tZ hF.shaped hN hol hem⟩
 elen:=fun v hv=>by
  show (AM f l up s v).length≤80000000
  unfold AM
  split
  ·unfold sV;split<;>simp
  ·exact Nat.le_trans (tA _ _) (lU hF.small l up)
 phi:=fun v hv=>by
  refine Fx ?_
  rcases (by have:v≤f.vars.length:=hv;omega:v<f.vars.length∨v=f.vars.length) with h|h
  ·exact (hF.once v h).1
  ·rw[wY hF.shaped (by omega)];exact qt _
 args:=fun v p hp=>by
  obtain ⟨i,b,hb,hpm,_,_,_⟩:=jB hp
  have hmem:=w3 hb
  refine ⟨fun a ha=>?_,((hF.small.2.2.2.2 b hmem).2.2.2.1 p hpm).1⟩
  have:=bH (List.all_eq_true.1 ((hF.shaped.2.2.2.2.2 b hmem).1 p hpm).2.2.2.1 a ha)
  show 0≤a∧a≤(f.vars.length:Int)
  omega
 shut:=GG hF
end
section
open Go.Proofs.Tryz
open Go.Proofs Go.Lib Go.Shelf Go.RowKit
theorem rS:el prog 115 #[(0,1),(1,1)] [.int .i64 0,.int .i64 0]:=⟨_,_,Zj,Yo,fun w=>by kernel_rfl,rfl⟩
variable {E:World}
set_option maxRecDepth 20000
def ol (up:Bool) (s:Int) (I:AV) (bp bs:Nat) (A:AV):List AV:=[.bool up,.int .i64 s,I,nc bp,nc bs,A]
def EI (i:Nat) (T:TypeId) (A:List b7) (bp bs:Nat) (P Sh:List (Int × AV)):OL:=[(i,.grow 2 T (lC A)),(0,bj bp P),(0,bj bs Sh)]
def JU (S:Sd) (rows:List (List dI)) (bp bs i:Nat):AV:=.pf (ol S.up S.s (ma rows) bp bs (.own i (S.n+1)))
theorem AN {up:Bool} {a b:b7} (h:a.1=b.1):bU up a b=(decide (a.1=1)&&kX up a.2 b.2):=if_pos h
theorem KR {up:Bool} {a b:b7} (h:¬a.1=b.1):bU up a b=decide (b.1<a.1):=if_neg h
theorem om (up:Bool) (s:Int) (I:AV) (bp bs:Nat) (D:AV) (a b:b7):aJ prog E 81 [.pf (ol up s I bp bs D),.agg (bg a),.agg (bg b)] (.bool (bU up a b)):=by
 unfold ol
 refine zo func81 Z (by decide) Z<|ah<|yb (cs:=_) Z Z Z<|yb (cs:=_) Z Z Z<|ac Z<|z6<|zc<|zh<|ah<|ae Zj Z X6 Z Z<|ax Xe Z<|ae Zj Z X6 Z Z<|ax Xe Z<|aH Z Z<|ac Z<|z6<|zt Z (fun c1=>?_) (fun c1=>?_)
 ·have h1:=eB c1
  refine ah<|ae Zj Z X6 Z Z<|ax Xe Z<|ae Zj Z X6 Z Z<|ax Xe Z<|aO Z Z<|ac Z<|z6<|zg<|zk (x:=.bool _) Z ?_
  exact jb (KR h1).symm
 ·have h1:=eF c1
  refine ah<|ae Zj Z X6 Z Z<|ax Xe Z<|aH Z Z<|ac Z<|z6<|zt Z (fun c2=>?_) (fun c2=>?_)
  ·have h2:=eB c2
   refine ah<|ac Z<|z6<|zg<|zk (x:=.bool _) Z ?_
   exact jb (by rw[AN h1,w8 h2];rfl)
  ·have h2:=eF c2
   refine ah<|za (gS Z)<|za (yr Z)<|ae Z6 Z Z5 Z Z<|za (yo (c:=.bool _) Zm Z)<|ac Z<|z6<|zt Z (fun c3=>?_) (fun c3=>?_)
   ·have c3:up=true:=c3
    refine ah<|ae Zj Z ji Z Z<|ax jp Z<|ae Zj Z ji Z Z<|ax jp Z<|aO Z Z<|ac Z<|z6<|zg<|zk (x:=.bool _) Z ?_
    exact jb (by rw[AN h1,w7 h2,c3];rfl)
   ·have c3:up=false:=c3
    refine zd<|ah<|ae Zj Z ji Z Z<|ax jp Z<|ae Zj Z ji Z Z<|ax jp Z<|aw Z Z<|ac Z<|z6<|zg<|zk (x:=.bool _) Z ?_
    exact jb (by rw[AN h1,w7 h2,c3];rfl)
theorem I5 {a n:Int} (h:¬dk 0 a n) (ha:aP a) (hn:aP n):kM 0 a n=if 0<n then lc else mO:=by
 rw[LO]
 have h:¬aP (a+n):=h
 unfold aP at h ha hn
 (repeat' split)<;>omega
theorem Ec (up:Bool) (s:Int) (I:AV) (bp bs:Nat) (D:AV) (a:b7) (n:Int) (ha:aP a.2) (hn:aP n):aJ prog E 124 [.pf (ol up s I bp bs D),.agg (bg a),.int .i64 n] (.agg (bg (gF up a n))):=by
 have hs:=Nr (E:=E) ha hn
 unfold ol
 refine zo func124 Z (by decide) Z<|ah<|yb (cs:=_) Z Z Z<|zy (cs:=[.int .i64 0,.int .i64 0]) Yo Z Z<|fun i6=>z6<|zc<|ah<|ae Zj Z X6 Z Z<|ax Xe Z<|aH Z Z<|z6<|zt Z (fun c=>?_) (fun c=>?_)
 ·refine ah<|ab Y3 jy Z Z<|zq jy Z Z Z Z Z Z .head Z<|z6<|zg<|yw Z ⟨_,.head⟩ Y3 jy Z ?_
  unfold gF;rw[if_neg (eB c)];rfl
 ·have h1:=eF c
  have h0:gF up a n=if dk 0 a.2 n then (1,a.2+n) else if decide (0<n)=up then (2,0) else (1,if 0<n then lc else mO):=if_pos h1
  rw[h0]
  refine zd<|ah<|ae Zj Z ji Z Z<|ax jp Z<|aa Z<|ze (Kw ha hn) Z<|za (m6 Z)<|za (mq Z Z)<|za (sH Z Z)<|ay Z<|ac Z<|z6<|zc<|zh<|ah<|ai Z<|ac Z<|z6<|zp Z (fun c2=>?_) (fun c2=>?_)
  ·refine ah<|aa Z<|za (zz (cps:=[(0,[_]),(1,[_])]) (rs:=[_,_]) rS Z Z Z)<|zq jy Z Z Z Z Z Z .head Z<|z6<|zg<|yw Z ⟨_,.head⟩ Y3 jy Z ?_
   rw[if_pos c2,show IntKind.i64.wrap (a.2+n)=a.2+n from aQ c2];rfl
  ·rw[if_neg c2] at hs ⊢
   refine ah<|aa Z<|aO Z Z<|za (gS Z)<|za (yr Z)<|ae Z6 Z Z5 Z Z<|za (yo (c:=.bool _) Zm Z)<|za (Gv.eqlB Zv Z Z)<|ac Z<|z6<|zt Z (fun c3=>?_) (fun c3=>?_)
   ·have h3:decide (0<n)=up:=by simpa using c3
    refine ah<|za (zz (cps:=[(0,[_])]) (rs:=[_,.int .i64 0]) rS Z Z Z)<|zq jy Z Z Z Z Z Z .head Z<|z6<|zg<|yw Z ⟨_,.head⟩ Y3 jy Z ?_
    rw[if_pos h3];rfl
   ·have h3:¬decide (0<n)=up:=by simpa using c3
    refine zd<|ah<|ae Zj Z ji Z Z<|ax jp Z<|aa Z<|ze (hs) Z<|za (zz (cps:=[(0,[_]),(1,[_])]) (rs:=[_,_]) rS Z Z Z)<|zq jy Z Z Z Z Z Z .head Z<|z6<|zg<|yw Z ⟨_,.head⟩ Y3 jy Z ?_
    rw[if_neg h3,←I5 c2 ha hn];rfl
theorem uc {up:Bool} {A:List b7} {b:b7} {args:List Int} {k:Nat} (h:k<args.length):nh up A b (args.take (k+1))=if bU up (dF A args[k]) (nh up A b (args.take k))=true then dF A args[k] else nh up A b (args.take k):=by
 unfold nh
 rw[qr h,List.foldl_append];rfl
theorem Ed {up:Bool} {A:List b7} {b:b7} {es:List dI} {k:Nat} (h:k<es.length):jJ up A b (es.take (k+1))=if bU up (jJ up A b (es.take k)) (gF up (dF A es[k].1) es[k].2.2)=true then gF up (dF A es[k].1) es[k].2.2 else jJ up A b (es.take k):=by
 unfold jJ
 rw[qr h,List.foldl_append];rfl
set_option maxHeartbeats 8000000 in
theorem rT (S:Sd) (rows:List (List dI)) (P Sh:List (Int × AV)) (hW:Lr S rows P Sh) (A:List b7) (hA:iU S A) (bp bs i:Nat) (T:TypeId) (v:Nat) (hv:v≤S.n) :
  ba prog E 80 [JU S rows bp bs i,.int .i64 v] (EI i T A bp bs P Sh) fun y O=>y=.agg (bg (bW S A v))∧O=EI i T A bp bs P Sh:=by
 have hn:=hW.nl
 have hlen:=hA.len
 have hP:=hW.phi v hv
 have hout:=fun a b=>om (E:=E) S.up S.s (ma rows) bp bs (.own i (S.n+1)) a b
 have hsum:=fun a n=>Ec (E:=E) S.up S.s (ma rows) bp bs (.own i (S.n+1)) a n
 refine ba.now2 ?_
 unfold EI JU
 unfold ol at hout hsum ⊢
 refine zo func80 Z (by decide) Z<|ah<|zy (cs:=[.int .i64 0,.int .i64 0]) Yo Z Z<|fun i4=>z6<|yg (zi (zj .t1))<|zc<|zc<|yf (γ:=List AV) [0,1,4] (fun w=>[(5,.pf w),(6,.bool (S.ph v).isSome)]) (fun w=>[(i,.grow 2 T (lC A)),(i4,.cells 115 (bg (0,0))),(0,bj bp P),(0,bj bs Sh)]) (fun w=>∀p,S.ph v=some p→w=dg p) ?_ (fun _ _ h=>h) ?_
 ·rcases hph:S.ph v with _|p
  ·rw[hph] at hP
   refine aM<|za (gS Z)<|za (yr Z)<|ae Z6 Z sizeOf74 Z Z<|za (yo (c:=.raw _) isAgg74 Z)<|aa Z<|za (Gv.lookupA (zx:=.agg [.int .i64 0,.raw (.slice none 0 0),.raw (.slice none 0 0)]) hP underlying74 Y0 Zb (fun I=>⟨_,Z,dx I [.int .i64 0,.slice none 0 0,.slice none 0 0]⟩) Z Z ⟨_,.t2⟩)<|za (m6 Z)<|za (yy (v:=.agg _) Z Z)<|za (sH Z Z)<|zy (cs:=[.int .i64 0,.raw (.slice none 0 0),.raw (.slice none 0 0)]) Zb Z Z<|fun i5=>zq jz Z Z Z Z Z Z .head Z<|zf (yd (t:=5) Z .head)<|ac Z<|z6 ?_
   exact ⟨_,dC,di,aC,fun p h=>by cases h⟩
  ·rw[hph] at hP
   refine aM<|za (gS Z)<|za (yr Z)<|ae Z6 Z sizeOf74 Z Z<|za (yo (c:=.raw _) isAgg74 Z)<|aa Z<|za (Gv.lookupA (zx:=.agg [.int .i64 0,.raw (.slice none 0 0),.raw (.slice none 0 0)]) hP underlying74 Y0 Zb (fun I=>⟨_,Z,dx I [.int .i64 0,.slice none 0 0,.slice none 0 0]⟩) Z Z ⟨_,.t2⟩)<|za (m6 Z)<|za (yy (v:=.agg _) Z Z)<|za (sH Z Z)<|zy (cs:=[.int .i64 0,.raw (.slice none 0 0),.raw (.slice none 0 0)]) Zb Z Z<|fun i5=>zq jz Z Z Z Z Z Z .head Z<|zf (yd (t:=5) Z .head)<|ac Z<|z6 ?_
   exact ⟨_,dC,di,aC,fun p h=>by cases h;rfl⟩
 ·rintro w hw
  refine ah<|ai Z<|z6<|zt Z (fun c3=>?_) (fun c3=>?_)
  ·obtain ⟨p,hp⟩:=Option.isSome_iff_exists.1 (show (S.ph v).isSome=true from c3)
   rw[hw p hp]
   obtain ⟨hpa,hpl⟩:=hW.args v p hp
   have hSh:=hW.shut v p hp
   obtain ⟨sh,hsh⟩:∃sh,S.shut v=sh:=⟨_,rfl⟩
   rw[hsh] at hSh
   have hrule:bW S A v=nh S.up A (if sh=true then (2,0) else (0,0)) p.args:=by unfold bW;rw[hp,hsh]
   refine ah<|za (zz (cps:=[]) (rs:=[.int .i64 0,.int .i64 0]) rS Z Z Z)<|zy (cs:=[.int .i64 0,.int .i64 0]) Yo Z Z<|fun i7=>zq jy Z Z Z Z Z Z .head Z<|z6<|zc<|ah<|za (gS Z)<|za (yr Z)<|ae Z6 Z sizeOf75 Z Z<|za (yo (c:=.raw _) isAgg75 Z)<|aa Z<|za (Gv.lookup1A (zx:=.int .i64 0) hSh underlying75 Y0 X2 (fun _=>Z) Z Z ⟨_,.t4⟩)<|aO Z Z<|z6<|yf (γ:=b7) [0,4,5,7] (fun z=>[]) (fun z=>[(i7,.cells 115 (bg z)),(i,.grow 2 T (lC A)),(i4,.cells 115 (bg (0,0))),(0,bj bp P),(0,bj bs Sh)]) (fun z=>z=if sh=true then (2,0) else (0,0)) ?_ (fun _ _ h=>h) ?_
   ·refine zp Z (fun c=>?_) (fun c=>?_)
    ·refine aM<|za (zr Zj Z X6 (by decide) Z Z)<|qg (l:=[_]) (new:=[_,_]) X6 Z Z Z Z Z Z .head Z Z<|z6 ?_
     exact ⟨(2,0),e7,trivial,aC,by cases sh;exact absurd c (by decide);rfl⟩
    ·refine zd ?_
     exact ⟨(0,0),e7,trivial,aC,by cases sh;rfl;exact absurd (show (0:Int)<1 by decide) c⟩
   ·rintro z hz
    rw[←hz] at hrule
    refine zc<|ah<|ae jt Z jg Z Z<|aI jn Z<|ak j9 Z<|aa Z<|z6<|zh<|ya (γ:=Nat × b7) [0,4,7,34,35] (fun g=>[(36,.int .i64 g.1)]) (fun g=>[(i7,.cells 115 (bg g.2)),(i,.grow 2 T (lC A)),(i4,.cells 115 (bg (0,0))),(0,bj bp P),(0,bj bs Sh)]) (fun g=>g.1≤p.args.length∧g.2=nh S.up A z (p.args.take g.1)) (fun g=>p.args.length - g.1) (0,z) aG aC (⟨qt _,Z⟩) ?_
    rintro ⟨k,b⟩ ⟨hk,hb⟩
    try dsimp only at *
    refine ah<|aw Z Z<|z6<|zc<|zp Z (fun ck=>?_) (fun ck=>?_)
    ·have hk2:k<p.args.length:=by simp at ck;omega
     obtain ⟨a,ha⟩:∃a,p.args[k]=a:=⟨_,rfl⟩
     have hpa:=hpa a (ha▸qu hk2)
     have hga:=jC (A:=A) (v:=a) hpa.1 (by omega)
     have hsn:=uc (up:=S.up) (A:=A) (b:=z) hk2
     rw[←hb,ha] at hsn
     refine zd<|zc<|zh<|ah<|za (bD k j9 ja Z Z Z (by rw[qq hk2,ha])) ?_
     refine ax jc Z<|ay Z<|z6<|zc<|yf (γ:=Bool) [0,4,7,9,34,35,36] (fun u=>[(49,.bool u)]) (fun u=>[(i7,.cells 115 (bg b)),(i,.grow 2 T (lC A)),(i4,.cells 115 (bg (0,0))),(0,bj bp P),(0,bj bs Sh)]) (fun u=>u=bU S.up (dF A a) b) ?_ (fun _ _ h=>h) ?_
     ·refine y7 (fun j=>false) (by kernel_rfl) Z (zn (.r (.r (.rest _))))<|au 0 Z (gS Z)<|au 1 Z (gS Z)<|au 2 Z (yr Z)<|au 3 Z (cA Z6 Z X0 Z Z)<|au 4 Z (yo (c:=.own _ _) Xc Z)<|au 5 Z (cG Z)<|au 6 Z (qk (j:=a.toNat) Y2 jy Z Z (by omega) ⟨_,.t1⟩ hlen (by omega))<|au 7 Z (Gv.loadR (j:=a.toNat) Y3 jy Z ⟨_,.t1⟩ hga)<|au 8 Z (q8 Y3 jy Z ⟨_,.head⟩ Z)<|aV 9 Z<|ze (hout (dF A a) b) Z<|z6<|bY ?_
      exact ⟨_,km,aG,aC,rfl⟩
     ·rintro u hu
      subst hu
      refine zt Z (fun cc=>?_) (fun cc=>?_)
      ·rw[if_pos cc] at hsn
       refine aM<|za (gS Z)<|za (yr Z)<|ae Z6 Z X0 Z Z<|za (yo (c:=.own _ _) Xc Z)<|aa Z<|za (qk (j:=a.toNat) Y2 jy Z Z (by omega) ⟨_,.t1⟩ hlen (by omega))<|za (Gv.loadR (j:=a.toNat) Y3 jy Z ⟨_,.t1⟩ hga)<|zq jy Z Z Z Z Z Z .head Z<|z6<|aM<|aA Z Z<|aa Z<|z6 ?_
       exact ⟨(k+1,dF A a),iT,aG,aC,⟨hk2,hsn.symm⟩,by dsimp only;omega⟩
      ·rw[if_neg (by rw[cc];decide)] at hsn
       refine zd<|aM<|aA Z Z<|aa Z<|z6 ?_
       exact ⟨(k+1,b),iT,aG,aC,⟨hk2,hsn.symm⟩,by dsimp only;omega⟩
    ·have hkn:k=p.args.length:=by simp at ck;omega
     rw[hkn,qv,←hrule] at hb
     refine y9<|ah<|za (q8 Y3 jy Z ⟨_,.head⟩ Z)<|zq jy Z Z Z Z Z Z .t2 Z<|z6<|yg (qi .head)<|yg (zi (zj .t1))<|zg<|yw Z ⟨_,.head⟩ Y3 jy Z ?_
     exact ⟨congrArg (fun x:b7=>AV.agg (bg x)) hb,.d1⟩
  ·have hno:S.ph v=none:=by cases h:S.ph v;rfl;(rw[h] at c3;cases c3)
   have hrule:bW S A v=jJ S.up A (2,0) (S.inE v):=by unfold bW;rw[hno]
   obtain ⟨es,hes⟩:∃es,S.inE v=es:=⟨_,rfl⟩
   have hrow:=hW.row v hv
   have hed:=hW.edge v hv
   have hel:=hW.elen v hv
   rw[hes] at hrule hrow hed hel
   refine zd<|ah<|za (zz (cps:=[(0,[_])]) (rs:=[_,.int .i64 0]) rS Z Z Z)<|zy (cs:=[.int .i64 0,.int .i64 0]) Yo Z Z<|fun i10=>zq jy Z Z Z Z Z Z .head Z<|z6<|zc<|ah<|za (gS Z)<|za (yr Z)<|ae Z6 Z sizeOf73 Z Z<|aI isAgg73 Z<|aa Z<|za (bD v X9 X8 Z Z Z hrow)<|aI isAgg66 Z<|ak X4 Z<|aa Z<|z6<|yg (zi (zj .t1))<|zh<|ya (γ:=Nat × b7) [0,4,10,66,67] (fun g=>[(68,.int .i64 g.1)]) (fun g=>[(i,.grow 2 T (lC A)),(i10,.cells 115 (bg g.2)),(i4,.cells 115 (bg (0,0))),(0,bj bp P),(0,bj bs Sh)]) (fun g=>g.1≤es.length∧g.2=jJ S.up A (2,0) (es.take g.1)) (fun g=>es.length - g.1) (0,(2,0)) aG aC (⟨qt _,Z⟩) ?_
   rintro ⟨k,b⟩ ⟨hk,hb⟩
   try dsimp only at *
   refine ah<|aw Z Z<|z6<|zc<|zp Z (fun ck=>?_) (fun ck=>?_)
   ·have hk2:k<es.length:=by simp at ck;omega
    obtain ⟨e,he⟩:∃e,es[k]=e:=⟨_,rfl⟩
    have hee:=hed e (he▸qu hk2)
    have hga:=jC (A:=A) (v:=e.1) hee.1 (by omega)
    have hnum:=(Dt hA e.1).2.2
    have hsn:=Ed (up:=S.up) (A:=A) (b:=(2,0)) hk2
    rw[←hb,he] at hsn
    obtain ⟨m,hm⟩:∃m,gF S.up (dF A e.1) e.2.2=m:=⟨_,rfl⟩
    have hsm:=hsum (dF A e.1) e.2.2 hnum hee.2.2
    rw[hm] at hsn hsm
    refine zd<|zc<|zh<|ah<|za (bD k X4 sizeOf72 Z Z Z (by rw[qq hk2,he])) ?_
    refine ab isAgg72 sizeOf72 Z Z<|zy (cs:=[.int .i64 0,.int .i64 0,.int .i64 0]) zeroValue72 Z Z<|fun i12=>zq sizeOf72 Z Z Z Z Z Z .head Z<|zf (yd (t:=12) Z .head)<|z6<|zc<|yf (γ:=Nat) [0,4,10,66,67,68] (fun z=>[(13,.po z 0)]) (fun z=>[(i,.grow 2 T (lC A)),(z,.cells 115 (bg m)),(i10,.cells 115 (bg b)),(i4,.cells 115 (bg (0,0))),(0,bj bp P),(0,bj bs Sh)]) (fun z=>True) ?_ (fun _ _ h=>h) ?_
    ·refine y7 (fun j=>false) (by kernel_rfl) Z (zn (.r (.rest _)))<|au 0 Z (gS Z)<|au 1 Z (gS Z)<|au 2 Z (yr Z)<|au 3 Z (cA Z6 Z X0 Z Z)<|au 4 Z (yo (c:=.own _ _) Xc Z)<|au 5 Z (cA underlying72 Z ja Z Z)<|au 6 Z (du jc Z)<|au 7 Z (qk (j:=e.1.toNat) Y2 jy Z Z (by omega) ⟨_,.head⟩ hlen (by omega))<|au 8 Z (Gv.loadR (j:=e.1.toNat) Y3 jy Z ⟨_,.head⟩ hga)<|au 9 Z (cA underlying72 Z ji Z Z)<|au 10 Z (du jp Z)<|yv (i:=11) (j:=12) Z Z (by kernel_rfl) ?_ ?_
     ·refine ze (hsm) Z<|z6<|aV 12 Z<|zy (cs:=[.int .i64 0,.int .i64 0]) Yo Z Z<|fun i13=>z6<|aV 13 Z<|zq jy Z Z Z Z Z Z .head Z<|z6<|bY ?_
      exact ⟨i13,pt,aG,aC,trivial⟩
     ·refine zy (cs:=[.int .i64 0,.int .i64 0]) Yo Z Z<|fun i13=>z6<|aV 11 Z<|ze (hsm) Z<|z6<|aV 13 Z<|zq jy Z Z Z Z Z Z .head Z<|z6<|bY ?_
      exact ⟨i13,pt,aG,aC,trivial⟩
    ·rintro z _
     refine yg (yd (t:=13) Z .t1)<|ah<|za (gS Z)<|za (q8 Y3 jy Z ⟨_,.t1⟩ Z)<|ab Y3 jy Z Z<|ze (hout b m) Z<|z6<|zt Z (fun cc=>?_) (fun cc=>?_)
     ·rw[if_pos cc] at hsn
      refine aM<|ab Y3 jy Z Z<|zq jy Z Z Z Z Z Z .t1 Z<|z6<|aM<|aA Z Z<|aa Z<|z6 ?_
      exact ⟨(k+1,m),iT,aG,aC,⟨hk2,hsn.symm⟩,by dsimp only;omega⟩
     ·rw[if_neg (by rw[cc];decide)] at hsn
      refine zd<|aM<|aA Z Z<|aa Z<|z6 ?_
      exact ⟨(k+1,b),iT,aG,aC,⟨hk2,hsn.symm⟩,by dsimp only;omega⟩
   ·have hkn:k=es.length:=by simp at ck;omega
    rw[hkn,qv,←hrule] at hb
    refine y9<|ah<|za (q8 Y3 jy Z ⟨_,.t1⟩ Z)<|zq jy Z Z Z Z Z Z .t2 Z<|z6<|yg (qi .t1)<|yg (zi (zj .t1))<|zg<|yw Z ⟨_,.head⟩ Y3 jy Z ?_
    exact ⟨congrArg (fun x:b7=>AV.agg (bg x)) hb,.d1⟩
end
end Go.Proofs.YtbanfokidalbaaaGreatDoor
