/- Cells that are owned, lent for a call that only reads. No conditions. -/
import Derived.Test.YtbanfokidalbaaaGreatDoorJe
import Derived.Test.YtbanfokidalbaaaGreatDoorJf
import Derived.Test.YtbanfokidalbaaaGreatDoorJd
import Derived.Test.YtbanfokidalbaaaGreatDoorJn
import Derived.Test.YtbanfokidalbaaaGreatDoorJl
import Derived.Test.YtbanfokidalbaaaGreatDoorJh
import Derived.Test.YtbanfokidalbaaaGreatDoorJk
set_option linter.unusedVariables false
set_option linter.unusedSimpArgs false
set_option linter.unusedSectionVars false
namespace Go.Proofs.YtbanfokidalbaaaGreatDoor
section
open Go.Proofs.Tryz
open Go.Proofs
theorem L6:el prog 193 #[(0,2),(2,1)] [.int .i64 0,.int .i64 0,.bool false]:=⟨_,_,underlying193,zeroValue193,fun w=>by kernel_rfl,rfl⟩
theorem JP:mY prog 229 1 [.int .i64 0,.int .i64 0]:=⟨_,_,_,underlying229,zeroValue229,ji,rfl⟩
variable {E:World}
set_option maxRecDepth 20000
theorem Np {x y:Int} (hx:aP x) (hy:aP y):aJ prog E 144 [.int .i64 x,.int .i64 y] (.tup [.int .i64 (IntKind.i64.wrap (x*y)),.bool (decide (dk 2 x y))]):=by
 rw[←Ng]
 refine zo func144 Z (by decide) Z<|ah<|ay Z<|ac Z<|z6<|ah<|aa Z<|ze (LV hx) Z<|aa Z<|ze (LV hy) Z<|ze (Ac _ _ (FS hx) (FS hy)) Z<|za (m6 Z)<|za (mq Z Z)<|za (mq Z Z)<|ay Z<|ay Z<|z6<|ah<|ay Z<|z6<|zc<|ah<|aa Z<|aw Z Z<|aa Z<|aw Z Z<|za (Gv.neqB Zv Z Z)<|z6<|yf (γ:=Int) [0,1,6,7] (fun m=>[(8,.int .u64 m)]) (fun m=>[]) (fun m=>m=if (!(decide (x<0) == decide (y<0)))=true then 9223372036854775808 else 9223372036854775807) ?_ (fun _ _ h=>h) ?_
 ·refine zt Z (fun c1=>?_) (fun c1=>?_)
  ·refine aM<|aa Z<|za (Gv.addW Z Z)<|ay Z<|z6 ?_
   exact ⟨_,e7,aG,aC,by simp_all<;>first|rfl|decide⟩
  ·refine zd ?_
   exact ⟨_,e7,aG,aC,by simp_all<;>first|rfl|decide⟩
 ·rintro m hm
  subst hm
  refine ah<|aa Z<|aa Z<|za (Gv.mulW Z Z)<|aa Z<|aj Z Z<|ai Z<|zm (s:=29) Z (fun c2=>?_) (fun c2=>?_)
  ·refine z8 Z Z c2<|aa Z<|z8 Z Z c2<|aa Z<|z8 Z Z c2<|za (Gv.leq Z Z)<|ap Z c2 Z<|ay Z<|ac Z<|z6<|zg<|qb (x:=.int _ _) (y:=.bool _) Z Z ?_
   simp_all
  ·refine z7 Z Z c2<|z7 Z Z c2<|z7 Z Z c2<|aq Z c2 Z<|ay Z<|ac Z<|z6<|zg<|qb (x:=.int _ _) (y:=.bool _) Z Z ?_
   simp_all
theorem rI (i:Nat) (h:be × Bool) (n:Int) (fits:Bool) (e:Int):ba prog E 141 [.po i 0,.int .i64 n,.bool fits,.int .i64 e] [(i,.cells 193 (Dw h))] fun r O=>r=.tup []∧O=[(i,.cells 193 (Dw (o7 h n fits e)))]:=by
 refine zo func141 Z (by decide) Z<|zc<|ah<|ai Z<|aF Z<|z6<|yf (γ:=Int × Bool) [0] (fun g=>[(1,.int .i64 g.1)]) (fun g=>[(i,.cells 193 (Dw (h.1,g.2)))]) (fun g=>g.1=(if fits then n else e)∧g.2=(h.2||!fits)) ?_ (fun _ _ h=>h) ?_
 ·refine zt Z (fun c=>?_) (fun c=>?_)
  ·refine aM<|aY Z<|aa Z<|za (yc Z)<|za (zr underlying193 Z Z5 (by decide) Z Z)<|qg (l:=[_]) (new:=[_,_,_]) Z5 Z Z Z Z Z Z .head Z Z<|ay Z<|z6 ?_
   exact ⟨(e,true),aG,aG,aC,by simp_all⟩
  ·refine zd ?_
   exact ⟨(n,h.2),aG,aG,aC,by simp_all⟩
 ·rintro ⟨m,w⟩ ⟨h1,h2⟩
  dsimp only at h1 h2
  subst h1 h2
  refine y7 (fun j=>Nat.beq j 10) (by kernel_rfl) Z (zn (.r (.rest _)))<|au 0 Z (l2 Z)<|au 1 Z (l2 Z)<|au 2 Z (yc Z)<|au 3 Z (zr underlying193 Z Z3 (by decide) Z Z)<|au 4 Z (Gv.loadAC (l:=[_,_]) Zt Z3 Z ⟨_,.head⟩ Z Z)<|au 5 Z (cG Z)<|aV 6 Z<|ze (NC _) Z<|z6<|aV 7 Z<|ze (LT _ _) Z<|z6<|bK.takeK (i:=8) Z (by kernel_rfl) (by kernel_rfl) (by kernel_rfl) (by kernel_rfl) (yc Z)<|au 9 Z (zr underlying193 Z Z3 (by decide) Z Z)<|yx<|q1 (i:=10) Z (by kernel_rfl) (by kernel_rfl)<|qg (l:=[_,_]) (new:=[_,_,_]) Z3 Z Z Z Z Z Z .head Z Z<|z6<|yz (by kernel_rfl)<|ym ?_
  exact ⟨rfl,rfl⟩
set_option maxHeartbeats 4000000 in
theorem Gk (op:Int) (k:Nat) (hk:k≤2) (hop:op=2+(k:Int)) {a b:be} (ha:cY a) (hb:cY b):aJ prog E 102 [.int .i64 op,.agg (bg a),.agg (bg b)] (.agg (Dw (BB k a b))):=by
 obtain ⟨st,hst⟩:∃st,LS (tv k) (fun x y=>decide (dk k x y)) (kM k) (Bn,false) a b=st:=⟨_,rfl⟩
 have hstep:∀(i j:Nat),j<2→st (2*i+(j+1))=o7 (st (2*i+j)) (tv k (gG a i) (gG b j)) (decide (dk k (gG a i) (gG b j))) (kM k (gG a i) (gG b j)):=fun i j hj=>by rw[←hst];exact FQ i hj
 have h4:st 4=BB k a b:=by rw[←hst];rfl
 have h0:st 0=(Bn,false):=by rw[←hst];rfl
 refine zo func102 Z (by decide) Z<|ah<|yb (cs:=_) Z Z Z<|yb (cs:=_) Z Z Z<|zy (cs:=[.int .i64 0,.int .i64 0,.bool false]) zeroValue193 Z Z<|fun i6=>z6<|ah<|ze (FT) Z<|za (zz (cps:=[(0,[_,_])]) (rs:=[_,_,.bool false]) L6 Z Z Z)<|zy (cs:=[.int .i64 0,.int .i64 0,.bool false]) zeroValue193 Z Z<|fun i7=>zq sizeOf193 Z Z Z Z Z Z .head Z<|z6<|zc<|ah<|ae Zf Z ji Z Z<|ax jp Z<|ae Zf Z ji Z Z<|ax jp Z<|za (Gv.buildA (cps:=[(0,[_]),(1,[_])]) (rs:=[_,_]) JP Z Z Z)<|aa Z<|z6<|zh<|ya (γ:=Nat) [0,5,6,7,24] (fun i=>[(25,.int .i64 i)]) (fun i=>[(i7,.cells 193 (Dw (st (2*i)))),(i6,.cells 193 [.int .i64 0,.int .i64 0,.bool false])]) (fun i=>i≤2) (fun i=>2 - i) 0 aG ⟨_,(.refl _),by rw[h0];rfl⟩ ((by omega)) ?_
 rintro i hi
 refine ah<|aw Z Z<|z6<|zc<|zp Z (fun ci=>?_) (fun ci=>?_)
 ·have hi2:i<2:=by omega
  have hx:=FP ha i
  refine zd<|zc<|zh<|ah<|za (Gv.index1 (n:=2) (j:=i) (cs:=[.int .i64 a.1,.int .i64 a.2]) (v:=.int .i64 (gG a i)) underlying229 jp ji Z Z Z hi2 (BC hi2))<|ay Z<|z6<|ah<|ae Zf Z ji Z Z<|ax jp Z<|ae Zf Z ji Z Z<|ax jp Z<|za (Gv.buildA (cps:=[(0,[_]),(1,[_])]) (rs:=[_,_]) JP Z Z Z)<|aa Z<|z6<|zh<|ya (γ:=Nat) [0,5,6,7,9,24,25,32] (fun j=>[(33,.int .i64 j)]) (fun j=>[(i7,.cells 193 (Dw (st (2*i+j)))),(i6,.cells 193 [.int .i64 0,.int .i64 0,.bool false])]) (fun j=>j≤2) (fun j=>2 - j) 0 aG aC ((by omega)) ?_
  rintro j hj
  refine ah<|aw Z Z<|z6<|zc<|zp Z (fun cj=>?_) (fun cj=>?_)
  ·have hj2:j<2:=by omega
   have hy:=FP hb j
   have hs:=hstep i j hj2
   refine zd<|zc<|zh<|ah<|za (Gv.index1 (n:=2) (j:=j) (cs:=[.int .i64 b.1,.int .i64 b.2]) (v:=.int .i64 (gG b j)) underlying229 jp ji Z Z Z hj2 (BC hj2))<|ay Z<|z6<|ah<|aa Z<|z6<|zh<|ah<|aj Z Z<|ac Z<|z6<|zp Z (fun c2=>?_) (fun c2=>?_)
   ·have hk0:k=0:=by omega
    subst hk0
    refine ah<|aa Z<|aa Z<|ze (Kw hx hy) Z<|za (m6 Z)<|za (mq Z Z)<|za (sH Z Z)<|ay Z<|ac Z<|z6<|aM<|aa Z<|ai Z<|aa Z<|aw Z Z<|ze (FV _) Z<|zu Z (zn (.l (.r (.rest _)))) (rI i7 _ _ _ _) ?_
    rintro r50 O50 ⟨rfl,rfl⟩
    refine z6<|aM<|aA Z Z<|aa Z<|z6 ?_
    exact ⟨j+1,vP,aG,⟨_,(.refl _),by rw[hs,qZ Ip (Kt _ (gG b j))];rfl⟩,hj2,by omega⟩
   ·refine ah<|aj Z Z<|ac Z<|z6<|zp Z (fun c3=>?_) (fun c3=>?_)
    ·have hk0:k=1:=by omega
     subst hk0
     refine ah<|aa Z<|aa Z<|ze (Ni hx hy) Z<|za (m6 Z)<|za (mq Z Z)<|za (sH Z Z)<|ay Z<|ac Z<|z6<|aM<|aa Z<|ai Z<|aa Z<|aw Z Z<|ze (FV _) Z<|zu Z (zn (.l (.r (.rest _)))) (rI i7 _ _ _ _) ?_
     rintro r64 O64 ⟨rfl,rfl⟩
     refine z6<|aM<|aA Z Z<|aa Z<|z6 ?_
     exact ⟨j+1,vP,aG,⟨_,(.refl _),by rw[hs,qZ Iq (Ku _ (gG b j))];rfl⟩,hj2,by omega⟩
    ·refine ah<|aj Z Z<|ac Z<|z6<|zp Z (fun c4=>?_) (fun c4=>?_)
     ·have hk0:k=2:=by omega
      subst hk0
      refine ah<|aa Z<|aa Z<|ze (Np hx hy) Z<|za (m6 Z)<|za (mq Z Z)<|za (sH Z Z)<|ay Z<|ac Z<|z6<|aM<|aa Z<|ai Z<|aa Z<|aw Z Z<|aa Z<|aw Z Z<|za (Gv.neqB Zv Z Z)<|ze (FV _) Z<|zu Z (zn (.l (.r (.rest _)))) (rI i7 _ _ _ _) ?_
      rintro r81 O81 ⟨rfl,rfl⟩
      refine z6<|aM<|aA Z Z<|aa Z<|z6 ?_
      exact ⟨j+1,vP,aG,⟨_,(.refl _),by rw[hs,qZ FR (Kv _ (gG b j))];rfl⟩,hj2,by omega⟩
     ·exfalso;omega
  ·have hj2:j=2:=by omega
   subst hj2
   refine y9<|aM<|aA Z Z<|aa Z<|z6 ?_
   exact ⟨i+1,iT,aG,⟨_,(.refl _),by rw[show 2*(i+1)=2*i+2 by omega]⟩,hi2,by omega⟩
 ·have hi2:i=2:=by omega
  subst hi2
  refine y9<|ah<|za (q8 isAgg193 sizeOf193 Z ⟨_,.head⟩ Z)<|zq sizeOf193 Z Z Z Z Z Z .t1 Z<|z6<|zg<|yw Z ⟨_,.t1⟩ isAgg193 sizeOf193 Z ?_
  rw[←h4];try rfl
end
section
open Go.Proofs.Tryz
open Go.Proofs
variable {E:World}
set_option maxRecDepth 20000
theorem L7 (op:Int) (k:Nat) (hk:k≤2) (hop:op=2+(k:Int)) {a b:be} (ha:cY a) (hb:cY b):aJ prog E 64 [.int .i64 op,.agg (bg a),.agg (bg b)] (.bool (decide (a.2<a.1∨b.2<b.1∨jA k a b))):=by
 have hcp:=FO k a b
 refine zo func64 Z (by decide) Z<|ah<|yb (cs:=_) Z Z Z<|yb (cs:=_) Z Z Z<|ac Z<|z6<|zc<|zc<|yf (γ:=Bool) [0,4,5] (fun u=>[(12,.bool u)]) (fun u=>[]) (fun u=>u=false) ?_ (fun _ _ h=>h) ?_
 ·refine aM<|aa Z<|za (qa Z Z)<|ai Z<|zm (s:=9) Z (fun c=>?_) (fun c=>?_)
  ·exfalso;simp at c;omega
  ·refine z7 Z Z c<|z7 Z Z c<|aq Z c Z<|z6 ?_
   exact ⟨_,dC,aG,aC,rfl⟩
 ·rintro u hu
  subst hu
  refine yj Z Z<|zd<|ah<|aa Z<|ze (LU _) Z<|ai Z<|zm (s:=18) Z (fun c1=>?_) (fun c1=>?_)
  ·refine z8 Z Z c1<|ab Zt Z3 Z Z<|z8 Z Z c1<|ze (n8 _) Z<|z8 Z Z c1<|ai Z<|zm (s:=21) Z (fun c2=>?_) (fun c2=>?_)
   ·refine z7 Z Z c2<|z7 Z Z c2<|z8 Z Z c1<|ap Z c2 Z<|z8 Z Z c1<|ai Z<|z7 Z Z Z<|z7 Z Z Z<|z7 Z Z Z<|z7 Z Z Z<|z7 Z Z Z<|z7 Z Z Z<|z8 Z Z c1<|ap Z Z Z<|ap Z c1 Z<|ac Z<|z6<|zg<|zk (x:=.bool _) Z ?_
    exact jb (by simp_all)
   ·refine z8 Z Z c2<|ab Zt Z3 Z Z<|z8 Z Z c2<|ze (n8 _) Z<|z8 Z Z c1<|aq Z c2 Z<|z8 Z Z c1<|ai Z<|zm (s:=25) Z (fun c3=>?_) (fun c3=>?_)
    ·refine z7 Z Z c3<|z7 Z Z c3<|z7 Z Z c3<|z7 Z Z c3<|z7 Z Z c3<|z7 Z Z c3<|z8 Z Z c1<|ap Z c3 Z<|ap Z c1 Z<|ac Z<|z6<|zg<|zk (x:=.bool _) Z ?_
     exact jb (by simp_all)
    ·refine z8 Z Z c3<|aa Z<|z8 Z Z c3<|ab Zt Z3 Z Z<|z8 Z Z c3<|ab Zt Z3 Z Z<|z8 Z Z c3<|ze (Gk op k hk hop ha hb) Z<|z8 Z Z c3<|za (Gv.field1 (v:=.bool _) underlying193 Z Zm Z Z)<|z8 Z Z c3<|aF Z<|z8 Z Z c1<|aq Z c3 Z<|ap Z c1 Z<|ac Z<|z6<|zg<|zk (x:=.bool _) Z ?_
     exact jb (by have h2:¬a.2<a.1:=(by simpa using c2);have h3:¬b.2<b.1:=(by simpa using c3);simp[h2,h3,hcp])
  ·exfalso;simp at c1;omega
end
section
open Go.Proofs.Tryz
open Go.Proofs Go.Lib Go.Shelf Go.RowKit
variable {E:World}
set_option maxRecDepth 20000
end
section
open Go.Proofs.Tryz
open Go.Proofs Go.Lib Go.Shelf Go.RowKit
variable {E:World}
set_option maxRecDepth 20000
theorem uV {l:List be} {a:Int} (h:a.toNat<l.length):l[a.toNat]?=some (lv l a):=by unfold lv;rw[qq h];rfl
theorem bH {f:ad} {v:Int} (h:bz f v=true):0≤v∧v<f.vars.length:=by simpa [bz] using h
theorem uW {f:ad} (hS:bx f) {a:Int} (h:bz f a=true):∃x,f.vars[a.toNat]?=some x∧x.ty=oV f a∧0≤x.ty∧x.ty≤2:=by
 obtain ⟨h0,h1⟩:=bH h
 have hl:a.toNat<f.vars.length:=by omega
 have h2:=hS.2.2.1 _ hl
 refine ⟨f.vars[a.toNat],qq hl,?_,h2.2.1,h2.2.2.1⟩
 unfold oV;rw[qq hl];rfl
theorem DZ {f:ad} {l:List be} {x:aN} {m:Nat} (h:m<x.args.length):(jS f l x).take (m+1)=(jS f l x).take m++[dW f l x.args[m]]:=by
 unfold jS
 rw[qr (by rw[qx];exact h),List.getElem_map]
theorem Left.d1 {x:Nat × bQ} {O:OL}:Left (x::O) O:=⟨_,.drop (.refl _),rfl⟩
end
section
open Go.Proofs.Tryz
open Go.Proofs Go.Lib Go.Shelf Go.RowKit
variable {E:World}
set_option maxRecDepth 20000
def L8 (i:Nat) (HL:bQ) (x:AV):AV→OL→Prop:=fun y O=>y=x∧O=[(i,HL)]
def c3 (rs:List be):List AV:=bg (ra rs 0)++bg (ra rs 1)++bg (ra rs 2)
end
section
open Go.Proofs.Tryz
open Go.Proofs Go.Lib Go.Shelf Go.RowKit
variable {E:World}
set_option maxRecDepth 20000
structure f6 (f:ad):Prop where
 small:small f
 shaped:bx f
 once:vL f
 bool:∀b∈f.blocks,∀x∈b.insts,x.op=10∨x.op=11→∀v∈x.args,oV f v=1
end
section
open Go.Proofs.Tryz
open Go.Proofs Go.Lib Go.Shelf Go.RowKit
set_option maxRecDepth 20000
variable {E:World}
theorem nu {α:Type} (g:α→Nat):∀(l:List α) (k:Nat),((l.take k).map g).sum≤(l.map g).sum
 |[],k=>by simp
 |x::l,0=>by simp
 |x::l,k+1=>by
  have:=nu g l k
  simp only[List.take_succ_cons,List.map_cons,List.sum_cons];omega
theorem IR (l:List cS) (k:Nat):wP (l.take k)≤wP l:=nu _ l k
theorem IV (l:List aN) (k:Nat):wX (l.take k)≤wX l:=nu _ l k
theorem od {f:ad} (h:oa f) {k:Nat} (hk:k<f.blocks.length):wV f.vars+Ae (f.blocks.take k)+wB f.blocks[k]≤4000:=by
 have h1:=h.2.2.2.2.2 (fun e=>by rw[e] at hk;exact absurd hk (Nat.not_lt_zero _))
 have h2:Ae (f.blocks.take (k+1))≤Ae f.blocks:=nu _ f.blocks (k+1)
 rw[wq hk] at h2
 omega
set_option maxHeartbeats 8000000 in
theorem wN (f:ad) (hf:tH f):ba prog E 5 [.agg (bL f)] [] (fun x _=>∃b:Bool,x=.bool b∧(b=true↔oa f)):=by
 obtain ⟨hf1,hf2,hf3,hf4⟩:=hf
 have hl1:=hf1.lt
 have hl3:=hf3.lt
 refine zo func5 Z (by decide) Z<|ah<|yb (cs:=_) Z Z Z<|ac Z<|z6<|zc<|zc<|yf (γ:=Unit) [1] (fun u=>[(27,.bool (DE f))]) (fun u=>[]) (fun u=>True) ?_ (fun _ _ h=>h) ?_
 ·refine aM<|ae je Z Zg Z Z<|aI Zp Z<|ak js Z<|aO Z Z<|ai Z<|zm (s:=16) Z (fun c1=>?_) (fun c1=>?_)
  ·refine z7 Z Z c1<|z7 Z Z c1<|z7 Z Z c1<|z7 Z Z c1<|ap Z c1 Z<|ai Z<|z7 Z Z Z<|z7 Z Z Z<|z7 Z Z Z<|z7 Z Z Z<|ap Z Z Z<|z6 ?_
   exact ⟨(),aG,⟨jb (by simp_all[DE]<;>grind),trivial⟩,aC,trivial⟩
  ·refine z8 Z Z c1<|ae je Z Ze Z Z<|z8 Z Z c1<|aI Zl Z<|z8 Z Z c1<|ak jk Z<|z8 Z Z c1<|aO Z Z<|aq Z c1 Z<|ai Z<|zm (s:=22) Z (fun c2=>?_) (fun c2=>?_)
   ·refine z7 Z Z c2<|z7 Z Z c2<|z7 Z Z c2<|z7 Z Z c2<|ap Z c2 Z<|z6 ?_
    exact ⟨(),aG,⟨jb (by simp_all[DE]<;>grind),trivial⟩,aC,trivial⟩
   ·refine z8 Z Z c2<|ae je Z jg Z Z<|z8 Z Z c2<|aI jn Z<|z8 Z Z c2<|ak j9 Z<|z8 Z Z c2<|aO Z Z<|aq Z c2 Z<|z6 ?_
    exact ⟨(),aG,⟨jb (by simp_all[DE]<;>grind),trivial⟩,aC,trivial⟩
 ·rintro _ _
  refine zt Z (fun c1=>?_) (fun c1=>?_)
  ·refine ah<|ac Z<|z6<|zg<|zk (x:=.bool _) Z ?_
   exact ⟨_,rfl,fun h=>(by cases h),fun hl=>absurd hl (fun hl=>by have h1:=hl.1;have h2:=hl.2.1;have h3:=hl.2.2.1;unfold DE at c1;simp at c1;omega)⟩
  ·have hsz:f.vars.length≤100∧f.blocks.length≤40∧f.params.length≤20:=by unfold DE at c1;simp at c1;omega
   refine zd<|ah<|ay Z<|z6<|zc<|ah<|ae je Z Zg Z Z<|aI Zp Z<|ak js Z<|aa Z<|z6<|zh<|ya (γ:=Nat) [1,29,30] (fun k=>[(31,.int .i64 k),(3,.int .i64 (wV (f.vars.take k)))]) (fun k=>[]) (fun k=>k≤f.vars.length∧wV (f.vars.take k)≤400*k∧∀v∈f.vars.take k,v.name.size≤400) (fun k=>f.vars.length - k) 0 di aC (⟨qt _,Nat.le_refl _,by simp⟩) ?_
   rintro k ⟨hk,hw,hv⟩
   refine ah<|aw Z Z<|z6<|zc<|zp Z (fun ck=>?_) (fun ck=>?_)
   ·have hk1:k<f.vars.length:=by omega
    have hs:=Iy hk1
    refine zd<|zc<|zh<|ah<|za (q9 js Zx Z Z Z (qq (by omega)))<|ab isAgg40 Zx Z Z<|zy (cs:=[.str ⟨#[]⟩,.int .i64 0]) zeroValue40 Z Z<|fun i5=>zq Zx Z Z Z Z Z Z .head Z<|z6<|zc<|ah<|za (zr Zd Z Y6 (by decide) Z Z)<|za (zw (c:=.str _) Ym Z ⟨_,.head⟩ Z)<|za (Gv.lenT Zw Z)<|aO Z Z<|z6<|zp Z (fun cn=>?_) (fun cn=>?_)
    ·refine ah<|ac Z<|z6<|zg<|zk (x:=.bool _) Z ?_
     exact ⟨_,rfl,fun h=>(by cases h),fun hl=>absurd hl (fun hl=>by have h1:=hl.2.2.2.1 _ (qu hk1);omega)⟩
    ·refine zd<|aM<|aa Z<|za (zr Zd Z Y6 (by decide) Z Z)<|za (zw (c:=.str _) Ym Z ⟨_,.head⟩ Z)<|za (Gv.lenT Zw Z)<|aA Z Z<|ay Z<|z6<|aM<|aA Z Z<|aa Z<|z6 ?_
     exact ⟨k+1,dC,⟨rfl,congrArg (AV.int .i64) (by rw[hs];omega),trivial⟩,⟨_,(.drop (.refl _)),rfl⟩,⟨hk1,by omega,eN hk1 hv (by omega)⟩,by omega⟩
   ·obtain rfl:k=f.vars.length:=by omega
    rw[qv] at hw hv
    rw[qv]
    refine y9<|zc<|ah<|ae je Z Ze Z Z<|aI Zl Z<|ak jk Z<|aa Z<|z6<|zh<|ya (γ:=Nat) [46,47] (fun k=>[(48,.int .i64 k),(3,.int .i64 (wV f.vars+Ae (f.blocks.take k):Nat))]) (fun k=>[]) (fun k=>k≤f.blocks.length∧(0<k→wV f.vars+Ae (f.blocks.take k)≤4000)∧Ae (f.blocks.take k)≤4000∧∀b∈f.blocks.take k,BG b) (fun k=>f.blocks.length - k) 0 di aC (⟨qt _,by omega,by simp[Ae],by simp⟩) ?_
    rintro k ⟨hk,hw2,hw3,hb⟩
    refine ah<|aw Z Z<|z6<|zc<|zp Z (fun ck=>?_) (fun ck=>?_)
    ·have hk1:k<f.blocks.length:=by omega
     obtain ⟨hb1,hb2,hb3,hb4⟩:=hf4 _ (qu hk1)
     have hs:=wq hk1
     refine zd<|zc<|zh<|ah<|za (q9 jk jv Z Z Z (qq (by omega)))<|ab Yk jv Z Z<|zy (cs:=[.str ⟨#[]⟩,.raw (.slice none 0 0),.raw (.slice none 0 0),.int .i64 0,.int .i64 0,.int .i64 0,.int .i64 0]) Zn Z Z<|fun i7=>zq jv Z Z Z Z Z Z .head Z<|z6<|zc<|zc<|yf (γ:=Unit) [3,7,46,47,48] (fun u=>[(67,.bool (DF f.blocks[k]))]) (fun u=>[(i7,.cells 52 (d7 f.blocks[k]))]) (fun u=>True) ?_ (fun _ _ h=>h) ?_
     ·refine aM<|za (zr jl Z Y6 (by decide) Z Z)<|za (zw (c:=.str _) Ym Z ⟨_,.head⟩ Z)<|za (Gv.lenT Zw Z)<|aO Z Z<|ai Z<|zm (s:=56) Z (fun c3=>?_) (fun c3=>?_)
      ·refine z7 Z Z c3<|z7 Z Z c3<|z7 Z Z c3<|z7 Z Z c3<|ap Z c3 Z<|ai Z<|z7 Z Z Z<|z7 Z Z Z<|z7 Z Z Z<|z7 Z Z Z<|ap Z Z Z<|z6 ?_
       exact ⟨(),iT,⟨jb (by simp_all[DF]<;>grind),trivial⟩,aC,trivial⟩
      ·refine z8 Z Z c3<|za (zr jl Z Yh (by decide) Z Z)<|z8 Z Z c3<|za (zw (c:=.fro _ _) Yt Z ⟨_,.head⟩ Z)<|z8 Z Z c3<|ak Z2 Z<|z8 Z Z c3<|aO Z Z<|aq Z c3 Z<|ai Z<|zm (s:=62) Z (fun c4=>?_) (fun c4=>?_)
       ·refine z7 Z Z c4<|z7 Z Z c4<|z7 Z Z c4<|z7 Z Z c4<|ap Z c4 Z<|z6 ?_
        exact ⟨(),iT,⟨jb (by simp_all[DF]<;>grind),trivial⟩,aC,trivial⟩
       ·refine z8 Z Z c4<|za (zr jl Z Y8 (by decide) Z Z)<|z8 Z Z c4<|za (zw (c:=.fro _ _) Yi Z ⟨_,.head⟩ Z)<|z8 Z Z c4<|ak jx Z<|z8 Z Z c4<|aO Z Z<|aq Z c4 Z<|z6 ?_
        exact ⟨(),iT,⟨jb (by simp_all[DF]<;>grind),trivial⟩,aC,trivial⟩
     ·rintro _ _
      refine zt Z (fun c2=>?_) (fun c2=>?_)
      ·refine ah<|ac Z<|z6<|zg<|zk (x:=.bool _) Z ?_
       exact ⟨_,rfl,fun h=>(by cases h),fun hl=>absurd hl (fun hl=>by obtain ⟨h1,h2,h3,_⟩:=hl.2.2.2.2.1 _ (qu hk1);unfold DF at c2;simp at c2;omega)⟩
      ·have hsb:f.blocks[k].name.size≤400∧f.blocks[k].phis.length≤400∧f.blocks[k].insts.length≤400:=by unfold DF at c2;simp at c2;omega
       refine zd<|ah<|aa Z<|za (zr jl Z Y6 (by decide) Z Z)<|za (zw (c:=.str _) Ym Z ⟨_,.head⟩ Z)<|za (Gv.lenT Zw Z)<|za (zr jl Z Yh (by decide) Z Z)<|za (zw (c:=.fro _ _) Yt Z ⟨_,.head⟩ Z)<|ak Z2 Z<|za (zr jl Z Y8 (by decide) Z Z)<|za (zw (c:=.fro _ _) Yi Z ⟨_,.head⟩ Z)<|ak jx Z<|aA Z Z<|za (Gv.mul Z Z (by unfold nN;omega))<|aA Z Z<|aA Z Z<|ay Z<|z6<|zc<|ah<|za (zr jl Z Yh (by decide) Z Z)<|za (zw (c:=.fro _ _) Yt Z ⟨_,.head⟩ Z)<|ak Z2 Z<|aa Z<|z6<|zh<|ya (γ:=Nat) [7,46,47,48,83,84] (fun m=>[(85,.int .i64 m),(3,.int .i64 (wV f.vars+Ae (f.blocks.take k)+(f.blocks[k].name.size+10*(f.blocks[k].phis.length+f.blocks[k].insts.length))+wP (f.blocks[k].phis.take m):Nat))]) (fun m=>[(i7,.cells 52 (d7 f.blocks[k]))]) (fun m=>m≤f.blocks[k].phis.length∧wP (f.blocks[k].phis.take m)≤800*m∧∀p∈f.blocks[k].phis.take m,p.args.length≤400∧p.from_.length≤400) (fun m=>f.blocks[k].phis.length - m) 0 ⟨Z,(congrArg (AV.int .i64) (by simp[wP]<;>omega)),trivial⟩ aC (⟨qt _,by simp[wP],by simp⟩) ?_
       rintro m ⟨hm,hwp,hp⟩
       refine ah<|aw Z Z<|z6<|zc<|zp Z (fun cm=>?_) (fun cm=>?_)
       ·have hm1:m<f.blocks[k].phis.length:=by omega
        obtain ⟨hq1,hq2⟩:=hb3 _ (qu hm1)
        have hl6:=hq1.lt
        have hl7:=hq2.lt
        have hs2:=Iz hm1
        refine zd<|zc<|zh<|ah<|za (q9 Z2 jz Z Z Z (qq (by omega)))<|ab Yl jz Z Z<|zy (cs:=[.int .i64 0,.raw (.slice none 0 0),.raw (.slice none 0 0)]) Zb Z Z<|fun i9=>zq jz Z Z Z Z Z Z .head Z<|z6<|zc<|zc<|yf (γ:=Unit) [3,7,9,46,47,48,83,84,85] (fun u=>[(102,.bool (decide ((4000:Int)<(wV f.vars+Ae (f.blocks.take k)+(f.blocks[k].name.size+10*(f.blocks[k].phis.length+f.blocks[k].insts.length))+wP (f.blocks[k].phis.take m):Nat))||(decide ((400:Int)<f.blocks[k].phis[m].args.length)||decide ((400:Int)<f.blocks[k].phis[m].from_.length))))]) (fun u=>[(i9,.cells 62 (dg f.blocks[k].phis[m])),(i7,.cells 52 (d7 f.blocks[k]))]) (fun u=>True) ?_ (fun _ _ h=>h) ?_
        ·refine aM<|aa Z<|aO Z Z<|ai Z<|zm (s:=91) Z (fun c5=>?_) (fun c5=>?_)
         ·refine z7 Z Z c5<|z7 Z Z c5<|z7 Z Z c5<|z7 Z Z c5<|ap Z c5 Z<|ai Z<|z7 Z Z Z<|z7 Z Z Z<|z7 Z Z Z<|z7 Z Z Z<|ap Z Z Z<|z6 ?_
          exact ⟨(),nK,⟨jb (by simp_all<;>grind),trivial⟩,aC,trivial⟩
         ·refine z8 Z Z c5<|za (zr jt Z jg (by decide) Z Z)<|z8 Z Z c5<|za (zw (c:=.fro _ _) jn Z ⟨_,.head⟩ Z)<|z8 Z Z c5<|ak j9 Z<|z8 Z Z c5<|aO Z Z<|aq Z c5 Z<|ai Z<|zm (s:=97) Z (fun c6=>?_) (fun c6=>?_)
          ·refine z7 Z Z c6<|z7 Z Z c6<|z7 Z Z c6<|z7 Z Z c6<|ap Z c6 Z<|z6 ?_
           exact ⟨(),nK,⟨jb (by simp_all<;>grind),trivial⟩,aC,trivial⟩
          ·refine z8 Z Z c6<|za (zr jt Z jg (by decide) Z Z)<|z8 Z Z c6<|za (zw (c:=.fro _ _) jn Z ⟨_,.head⟩ Z)<|z8 Z Z c6<|ak j9 Z<|z8 Z Z c6<|aO Z Z<|aq Z c6 Z<|z6 ?_
           exact ⟨(),nK,⟨jb (by simp_all<;>grind),trivial⟩,aC,trivial⟩
        ·rintro _ _
         refine zt Z (fun cp=>?_) (fun cp=>?_)
         ·refine ah<|ac Z<|z6<|zg<|zk (x:=.bool _) Z ?_
          exact ⟨_,rfl,fun h=>(by cases h),fun hl=>absurd hl (fun hl=>by obtain ⟨_,_,_,h4,_⟩:=hl.2.2.2.2.1 _ (qu hk1);have h5:=h4 _ (qu hm1);have h9:=od hl hk1;have hwb:wB f.blocks[k]=f.blocks[k].name.size+10*(f.blocks[k].phis.length+f.blocks[k].insts.length)+wP f.blocks[k].phis+wX f.blocks[k].insts:=rfl;have h10:=IR f.blocks[k].phis m;simp only[Bool.or_eq_true,wc] at cp;omega)⟩
         ·rcases Bool.or_eq_false_iff.1 cp with ⟨a1,a2⟩
          rcases Bool.or_eq_false_iff.1 a2 with ⟨a3,a4⟩
          have a3:=of_decide_eq_false a3
          have a4:=of_decide_eq_false a4
          refine zd<|aM<|aa Z<|za (zr jt Z jg (by decide) Z Z)<|za (zw (c:=.fro _ _) jn Z ⟨_,.head⟩ Z)<|ak j9 Z<|za (zr jt Z jg (by decide) Z Z)<|za (zw (c:=.fro _ _) jn Z ⟨_,.head⟩ Z)<|ak j9 Z<|aA Z Z<|aA Z Z<|ay Z<|z6<|aM<|aA Z Z<|aa Z<|z6 ?_
          exact ⟨m+1,pt,⟨rfl,congrArg (AV.int .i64) (by rw[hs2];omega),trivial⟩,⟨_,(.drop (.refl _)),rfl⟩,⟨hm1,by omega,eN hm1 hp ⟨by omega,by omega⟩⟩,by omega⟩
       ·obtain rfl:m=f.blocks[k].phis.length:=by omega
        rw[qv] at hwp hp
        rw[qv]
        refine y9<|zc<|ah<|za (zr jl Z Y8 (by decide) Z Z)<|za (zw (c:=.fro _ _) Yi Z ⟨_,.head⟩ Z)<|ak jx Z<|aa Z<|z6<|zh<|ya (γ:=Nat) [46,47,48,114,115] (fun m=>[(116,.int .i64 m),(3,.int .i64 (wV f.vars+Ae (f.blocks.take k)+(f.blocks[k].name.size+10*(f.blocks[k].phis.length+f.blocks[k].insts.length))+wP f.blocks[k].phis+wX (f.blocks[k].insts.take m):Nat))]) (fun m=>[(i7,.cells 52 (d7 f.blocks[k]))]) (fun m=>m≤f.blocks[k].insts.length∧wX (f.blocks[k].insts.take m)≤400*m∧∀p∈f.blocks[k].insts.take m,p.args.length≤400) (fun m=>f.blocks[k].insts.length - m) 0 ⟨Z,(congrArg (AV.int .i64) (by simp[wX]<;>omega)),trivial⟩ aC (⟨qt _,by simp[wX],by simp⟩) ?_
        rintro m ⟨hm,hwx,hx⟩
        refine ah<|aw Z Z<|z6<|zc<|zp Z (fun cm=>?_) (fun cm=>?_)
        ·have hm1:m<f.blocks[k].insts.length:=by omega
         have hq1:=hb4 _ (qu hm1)
         have hl6:=hq1.lt
         have hs2:=IA hm1
         refine zd<|zc<|zh<|ah<|za (q9 jx Z9 Z Z Z (qq (by omega)))<|ab Ye Z9 Z Z<|zy (cs:=[.int .i64 0,.int .i64 0,.raw (.slice none 0 0),.int .i64 0]) Yf Z Z<|fun i11=>zq Z9 Z Z Z Z Z Z .head Z<|z6<|zc<|zc<|yf (γ:=Unit) [3,11,46,47,48,114,115,116] (fun u=>[(127,.bool (decide ((4000:Int)<(wV f.vars+Ae (f.blocks.take k)+(f.blocks[k].name.size+10*(f.blocks[k].phis.length+f.blocks[k].insts.length))+wP f.blocks[k].phis+wX (f.blocks[k].insts.take m):Nat))||decide ((400:Int)<f.blocks[k].insts[m].args.length)))]) (fun u=>[(i11,.cells 44 (cK f.blocks[k].insts[m])),(i7,.cells 52 (d7 f.blocks[k]))]) (fun u=>True) ?_ (fun _ _ h=>h) ?_
         ·refine aM<|aa Z<|aO Z Z<|ai Z<|zm (s:=122) Z (fun c7=>?_) (fun c7=>?_)
          ·refine z7 Z Z c7<|z7 Z Z c7<|z7 Z Z c7<|z7 Z Z c7<|ap Z c7 Z<|z6 ?_
           exact ⟨(),vP,⟨jb (by simp_all<;>grind),trivial⟩,aC,trivial⟩
          ·refine z8 Z Z c7<|za (zr j8 Z jg (by decide) Z Z)<|z8 Z Z c7<|za (zw (c:=.fro _ _) jn Z ⟨_,.head⟩ Z)<|z8 Z Z c7<|ak j9 Z<|z8 Z Z c7<|aO Z Z<|aq Z c7 Z<|z6 ?_
           exact ⟨(),vP,⟨jb (by simp_all<;>grind),trivial⟩,aC,trivial⟩
         ·rintro _ _
          refine zt Z (fun cp=>?_) (fun cp=>?_)
          ·refine ah<|ac Z<|z6<|zg<|zk (x:=.bool _) Z ?_
           exact ⟨_,rfl,fun h=>(by cases h),fun hl=>absurd hl (fun hl=>by obtain ⟨_,_,_,_,h4⟩:=hl.2.2.2.2.1 _ (qu hk1);have h5:=h4 _ (qu hm1);have h9:=od hl hk1;have hwb:wB f.blocks[k]=f.blocks[k].name.size+10*(f.blocks[k].phis.length+f.blocks[k].insts.length)+wP f.blocks[k].phis+wX f.blocks[k].insts:=rfl;have h10:=IV f.blocks[k].insts m;simp only[Bool.or_eq_true,wc] at cp;omega)⟩
          ·rcases Bool.or_eq_false_iff.1 cp with ⟨a1,a2⟩
           have a2:=of_decide_eq_false a2
           refine zd<|aM<|aa Z<|za (zr j8 Z jg (by decide) Z Z)<|za (zw (c:=.fro _ _) jn Z ⟨_,.head⟩ Z)<|ak j9 Z<|aA Z Z<|ay Z<|z6<|aM<|aA Z Z<|aa Z<|z6 ?_
           exact ⟨m+1,iT,⟨rfl,congrArg (AV.int .i64) (by rw[hs2];omega),trivial⟩,⟨_,(.drop (.refl _)),rfl⟩,⟨hm1,by omega,eN hm1 hx (by omega)⟩,by omega⟩
        ·obtain rfl:m=f.blocks[k].insts.length:=by omega
         rw[qv] at hwx hx
         rw[qv]
         refine y9<|ah<|aa Z<|aO Z Z<|z6<|zp Z (fun cz=>?_) (fun cz=>?_)
         ·refine ah<|ac Z<|z6<|zg<|zk (x:=.bool _) Z ?_
          exact ⟨_,rfl,fun h=>(by cases h),fun hl=>absurd hl (fun hl=>by have h9:=od hl hk1;have hwb:wB f.blocks[k]=f.blocks[k].name.size+10*(f.blocks[k].phis.length+f.blocks[k].insts.length)+wP f.blocks[k].phis+wX f.blocks[k].insts:=rfl;omega)⟩
         ·have hwb:wB f.blocks[k]=f.blocks[k].name.size+10*(f.blocks[k].phis.length+f.blocks[k].insts.length)+wP f.blocks[k].phis+wX f.blocks[k].insts:=rfl
          refine zd<|aM<|aA Z Z<|aa Z<|z6 ?_
          exact ⟨k+1,di,⟨rfl,congrArg (AV.int .i64) (by rw[hs];omega),trivial⟩,⟨_,(.drop (.refl _)),rfl⟩,⟨hk1,by omega,by omega,eN hk1 hb ⟨hsb.1,hsb.2.1,hsb.2.2,hp,hx⟩⟩,by omega⟩
    ·obtain rfl:k=f.blocks.length:=by omega
     rw[qv] at hw2 hw3 hb
     refine y9<|ah<|ac Z<|z6<|zg<|zk (x:=.bool _) Z ?_
     exact ⟨_,rfl,fun _=>⟨hsz.1,hsz.2.1,hsz.2.2,hv,hb,fun hne=>hw2 (List.length_pos_iff.2 hne)⟩,fun _=>rfl⟩
theorem pg (f:ad) (hf:uG f) (hn:nq f) (hL:aE E):aJ prog E 82 [.agg (bL f)] (.bool (decide (bx f))):=by
 refine zo func82 Z (by decide) Z<|ah<|yb (cs:=_) Z Z Z<|ac Z<|z6<|ah<|ab jm jh Z Z<|ze (rk _ (by assumption) (by assumption) hL) Z<|ac Z<|z6<|zg<|zk (x:=.bool _) Z ?_
 rfl
noncomputable def Aw (f:ad):Bool:=@decide (oa f) (Classical.propDecidable _)
theorem nw (f:ad):Aw f=true↔oa f:=by unfold Aw;exact @decide_eq_true_iff _ (Classical.propDecidable _)
theorem tR (f:ad) (hf:tH f):aJ prog E 5 [.agg (bL f)] (.bool (Aw f)):=
 (wN f hf).mono fun x O' ⟨b,e,h⟩=>by
  rw[e]
  congr 1
  rw[qz,h,nw]
theorem rJ (f:ad) (hf:small f) (hL:aE E):aJ prog E 44 [.agg (bL f)] (.bool (aR f)):=by
 have hs:=pg (E:=E) f hf.ok hf.names hL
 refine zo func44 Z (by decide) Z<|ah<|yb (cs:=_) Z Z Z<|ac Z<|z6<|ah<|ab jm jh Z Z<|ze (hs) Z ?_
 by_cases g4:bx f
 ·refine ai Z<|z8 Z Z (w7 g4)<|ab jm jh Z Z<|z8 Z Z (w7 g4)<|ze (sR f hf g4) Z<|za (oB Z (w7 g4) Z)<|ac Z<|z6<|zg<|zk (x:=.bool _) Z ?_
  exact jb (by unfold aR;rw[iF,w7 g4];rfl)
 ·refine ai Z<|z7 Z Z (w8 g4)<|z7 Z Z (w8 g4)<|za (kY Z (w8 g4) Z)<|ac Z<|z6<|zg<|zk (x:=.bool _) Z ?_
  exact jb (by unfold aR;rw[iF,w8 g4];rfl)
theorem sS (f:ad) (hw:tH f) (hL:aE E):aJ prog E 22 [.agg (bL f)] (.bool (Aw f&&aR f)):=by
 refine zo func22 Z (by decide) Z<|ah<|yb (cs:=_) Z Z Z<|ac Z<|z6<|ah<|ab jm jh Z Z<|ze (tR f hw) Z<|ai Z<|zm (s:=5) Z (fun g=>?_) (fun g=>?_)
 ·refine z8 Z Z g<|ab jm jh Z Z<|z8 Z Z g<|ze (rJ f ((nw f).1 g).small hL) Z<|ap Z g Z<|ac Z<|z6<|zg<|zk (x:=.bool _) Z ?_
  exact jb (by rw[g];rfl)
 ·refine z7 Z Z g<|z7 Z Z g<|aq Z g Z<|ac Z<|z6<|zg<|zk (x:=.bool _) Z ?_
  exact jb (by rw[g];rfl)
noncomputable def gW (f:ad):Bool:=Aw f&&aR f&&bG f
theorem jW {a b:Bool} (h:(a&&b)=true):a=true∧b=true:=by simpa using h
theorem wO {f:ad} (h:aR f=true):kL f=bG f:=
 Fe (bT h) fun b hb p hp c hc=>by
  have h1:=((fg h).2.2.2.2.2 b hb).1 p hp
  have h2:=List.all_eq_true.1 h1.2.2.2.2 c hc
  simpa [eZ] using h2
theorem rK (f:ad) (hw:tH f) (hL:aE E):aJ prog E 8 [.agg (bL f)] (.bool (gW f)):=by
 refine zo func8 Z (by decide) Z<|ah<|yb (cs:=_) Z Z Z<|ac Z<|z6<|ah<|ab jm jh Z Z<|ze (sS f hw hL) Z<|ai Z<|zm (s:=5) Z (fun g=>?_) (fun g=>?_)
 ·refine z8 Z Z g<|ab jm jh Z Z<|z8 Z Z g<|ze (rF f (bT (jW g).2) ((nw f).1 (jW g).1).small (fg (jW g).2)) Z<|ap Z g Z<|ac Z<|z6<|zg<|zk (x:=.bool _) Z ?_
  exact jb (by unfold gW;rw[g,wO (jW g).2];rfl)
 ·refine z7 Z Z g<|z7 Z Z g<|aq Z g Z<|ac Z<|z6<|zg<|zk (x:=.bool _) Z ?_
  exact jb (by unfold gW;rw[g];rfl)
end
section
open Go.Proofs.Tryz
open Go.Proofs Go.Lib Go.Shelf Go.RowKit
variable {E:World}
set_option maxRecDepth 20000
end
section
open Go.Proofs.Tryz
open Go.Proofs Go.Lib Go.Shelf Go.RowKit
variable {E:World}
set_option maxRecDepth 20000
theorem Gl:bq 10=[1]:=by decide
theorem Gm:bq 11=[1,1]:=by decide
theorem Ax {f:ad} (h:aR f=true):∀b∈f.blocks,∀x∈b.insts,x.op=10∨x.op=11→∀v∈x.args,oV f v=1:=by
 intro b hb x hx hop v hv
 unfold aR at h
 rw[w9] at h
 have h1:=List.all_eq_true.1 h.2 b hb
 unfold kA at h1
 simp only[w9] at h1
 have h2:=List.all_eq_true.1 h1.1.2 x hx
 unfold iC at h2
 rw[if_neg (by omega)] at h2
 rw[w9,wc] at h2
 have h3:bJ f v∈bq x.op:=by rw[←h2.1];exact List.mem_map_of_mem hv
 show bJ f v=1
 rcases hop with e|e<;>rw[e] at h3
 ·rw[Gl] at h3;simpa using h3
 ·rw[Gm] at h3;simpa using h3
theorem D0 {f:ad} (h:bG f=true):vL f:=(tn f).1 (by unfold bG at h;simp only[w9] at h;exact h.2.2.1)
theorem jX {f:ad} (hf:small f) (h:(aR f&&bG f)=true):f6 f:=⟨hf,fg (jW h).1,D0 (jW h).2,Ax (jW h).1⟩
theorem eB {p:Prop} [Decidable p] (h:(!decide p)=true):¬p:=fun hp=>by rw[w7 hp] at h;cases h
theorem eF {p:Prop} [Decidable p] (h:(!decide p)=false):p:=Classical.byContradiction fun hp=>by rw[w8 hp] at h;cases h
theorem Gn {l:List be} (h:∀r∈l,cY r) (u:Int):cY (lv l u):=by
 unfold lv
 cases hu:l[u.toNat]? with
 |none=>exact Ki
 |some r=>exact h r (w3 hu)
end
section
open Go.Proofs.Tryz
open Go.Proofs Go.Lib Go.Shelf Go.RowKit
theorem KJ:dM prog 36 91 1 2 [.int .i64 0,.int .i64 0]:=⟨_,X3,jq,Y5,by decide,by decide,by kernel_rfl⟩
variable {E:World}
set_option maxRecDepth 20000
theorem rL {l:List be} {k:Nat} (h:k<l.length):l[k]?=some (lv l (k:Int)):=by unfold lv;rw[show (k:Int).toNat=k from rfl,qq h];rfl
theorem Gp (r:be):aJ prog E 29 [.agg (bg r)] (.agg (bg r)):=by
 refine zo func29 Z (by decide) Z<|ah<|yb (cs:=_) Z Z Z<|zy (cs:=[.int .i64 0,.int .i64 0]) Y5 Z Z<|fun i2=>z6<|ah<|ab Zt Z3 Z Z<|zq jq Z Z Z Z Z Z .head Z<|z6<|zg<|yw Z ⟨_,.head⟩ Y9 jq Z ?_
 rfl
theorem tS (l:List be) (hl:l.length≤100000):aJ prog E 11 [.fro 2 (l.map bg)] (.fro 2 (l.map bg)):=by
 refine zo func11 Z (by decide) Z<|ah<|bV Z<|z6<|ah<|bV Z<|z6<|zc<|ah<|aU Z<|ak Yn Z<|aa Z<|z6<|dh (t:=3) (k:=2) (T:=91) Z<|fun i3=>zh<|ya (γ:=Nat × Nat) [6,7] (fun g=>[(8,.int .i64 g.1),(3,.own g.2 g.1)]) (fun g=>[(g.2,.grow 2 91 (lC (l.take g.1)))]) (fun g=>g.1≤l.length) (fun g=>l.length - g.1) (0,i3) di aC (qt _) ?_
 rintro ⟨k,io⟩ hk
 try dsimp only at *
 refine ah<|aw Z Z<|z6<|zc<|zp Z (fun ck=>?_) (fun ck=>?_)
 ·have hk2:k<l.length:=by simp at ck;omega
  refine zd<|zc<|zh<|ah<|za (bD k Yn Z3 Z Z Z (rL hk2))<|ab Zt Z3 Z Z<|zy (cs:=[.int .i64 0,.int .i64 0]) Y4 Z Z<|fun i5=>zq Z3 Z Z Z Z Z Z .head Z<|zf (yd (t:=5) Z .head)<|z6<|aM<|bw Z<|ab Zt Z3 Z Z<|ze (Gp _) Z<|y8 (rows:=[[_,_]]) KJ Z Z Z Z Z<|yn (k:=2) X3 type91 Z Z Z Z Z (fun _=>.head) (by rw[uT,w6];omega) (by decide) Z (by show (_+1)*16≤_;omega) (by show _+1≤_;omega)<|fun i16=>bM Z<|z6<|aM<|aA Z Z<|aa Z<|z6 ?_
  exact ⟨(k+1,i16),di,di,⟨_,(.refl _),by rw[qr hk2,←BR,show l[k]=lv l k by have:=rL hk2;rw[qq hk2] at this;exact Option.some.inj this];rfl⟩,hk2,by dsimp only;omega⟩
 ·have hkn:k=l.length:=by simp at ck;omega
  subst hkn
  rw[qv]
  refine y9<|yg (aK.knowR (t:=3) Z .head Z)<|ah<|aU Z<|za (iw Z)<|z6<|zg<|zk (x:=.fro _ _) Z ?_
  rfl
end
section
open Go.Proofs.Tryz
open Go.Proofs
def Ay (x y:AV):Prop:=∀I v,bI I x v→bI I y v
theorem Ay.nil (k:Nat):Ay (.raw (.slice none 0 0)) (.fro k []):=fun _ _ h=>⟨none,0,0,h,rfl,Nat.le_refl _,fun _=>rfl,trivial⟩
end
section
open Go.Proofs.Tryz
open Go.Proofs Go.Lib Go.Shelf Go.RowKit
variable {E:World}
set_option maxRecDepth 20000
theorem ba.now2 {P:Program} {E:World} {f:FuncId} {ars:List AV} {O O0:OL} {x:AV} (h:ba P E f ars O fun y O'=>y=x∧Left O' O0):ba P E f ars O fun y O'=>y=x∧O'=O0:=
 (ba.exact (γ:=Unit) (x:=fun _=>x) (M:=fun _=>O0) (p:=fun _=>True) (h.mono fun _ _ h=>⟨(),h.1,h.2,trivial⟩)).mono fun _ _ ⟨_,h1,h2,_⟩=>⟨h1,h2⟩
theorem Left.d0 {O:OL}:Left O O:=⟨_,.refl _,rfl⟩
def ma (rows:List (List dI)):AV:=.fro 1 (rows.map fun r=>[.fro 3 (r.map gg)])
theorem Nq (b:Bool):aJ prog E 205 [.bool b] (.int .i64 (if b=true then mO else lc)):=by
 refine zo func205 Z (by decide) Z<|ah<|ay Z<|z6<|zc<|ah<|ai Z<|z6<|zt Z (fun c1=>?_) (fun c1=>?_)
 ·refine ah<|ay Z<|z6<|zg<|zk (x:=.int _ _) Z ?_
  simp_all[mO,lc]
 ·refine zd<|ah<|ay Z<|z6<|zg<|zk (x:=.int _ _) Z ?_
  simp_all[mO,lc]
theorem Nr {x y:Int} (hx:aP x) (hy:aP y):aJ prog E 170 [.int .i64 x,.int .i64 y] (.int .i64 (if dk 0 x y then x+y else kM 0 x y)):=by
 refine zo func170 Z (by decide) Z<|ah<|ay Z<|z6<|ah<|aa Z<|aa Z<|ze (Kw hx hy) Z<|za (m6 Z)<|za (mq Z Z)<|za (sH Z Z)<|ay Z<|ac Z<|z6<|zc<|ah<|ai Z<|aF Z<|z6<|zt Z (fun c=>?_) (fun c=>?_)
 ·refine ah<|aa Z<|aw Z Z<|ze (Nq _) Z<|ay Z<|z6<|zg<|zk (x:=.int _ _) Z ?_
  rw[if_neg (eB c)];unfold kM;simp
 ·have h:=eF c
  refine zd<|ah<|aa Z<|ay Z<|z6<|zg<|zk (x:=.int _ _) Z ?_
  rw[if_pos h,show IntKind.i64.wrap (x+y)=x+y from aQ h]
end
section
open Go.Proofs.Tryz
open Go.Proofs Go.Lib Go.Shelf Go.RowKit
variable {E:World}
set_option maxRecDepth 20000
end
section
open Go.Proofs.Tryz
open Go.Proofs Go.Lib Go.Shelf Go.RowKit
variable {E:World}
set_option maxRecDepth 20000
end
section
open Go.Proofs.Tryz
open Go.Proofs
theorem IW (l:List be):(l.map bg).flatten=lC l:=by
 unfold lC fj.av;rw[List.flatMap_def];rfl
theorem wQ {I J:G} {r:be} {v:Value} (h:bI J (.agg (bg r)) v):bI I (.agg (bg r)) v:=by
 obtain ⟨vs,rfl,a,_,rfl,h1,b,_,rfl,h2,h3⟩:=h
 exact ⟨_,rfl,a,_,rfl,h1,b,_,rfl,h2,h3⟩
end
section
open Go.Proofs.Tryz
open Go.Proofs
theorem KK {I:G} {F:List (Nat × Obj)} {E w:World} {i:Nat} {T:TypeId} {cs:List AV} (h:g9 I [(i,.cells T cs)] F E w) :
  ∃J L,I.le J∧cM I [(i,.cells T cs)] L∧SL I.k (L++F) E w∧(∀y∈L,J.k y.1=some y.2)∧g9 J [] F E w∧∀v,bI I (.po i 0) v→bI J (.pf cs) v:=by
 obtain ⟨ht,L,hL,hS⟩:=h
 have hL0:=hL
 obtain ⟨A,B,hp,⟨b,c,vs,e1,hvs,hvc,hA⟩,hB⟩:=hL
 have hB:B=[]:=hB
 simp only at e1
 rw[hB,w5] at hp
 subst hp
 subst hA
 obtain ⟨hl,hS3⟩:=SL.freeze (by simpa using hS:SL I.k ((b,.cells vs.toArray T (0,0))::F) E w)
 let J:G:=⟨I.k.put b (.cells vs.toArray T (0,0)),I.h⟩
 have hle:I.le J:=⟨hl,fun _ _ h=>h⟩
 have hb:J.k b=some (.cells vs.toArray T (0,0)):=aT.put_same _ _ _
 refine ⟨J,_,hle,hL0,hS,fun y hy=>(by rw[List.mem_singleton.1 hy];exact hb),⟨ht,[],Z,by simpa using hS3⟩,?_⟩
 rintro v ⟨b2,c2,e2,rfl⟩
 rw[e1] at e2
 simp only[Option.some.injEq,Prod.mk.injEq] at e2
 obtain ⟨rfl,rfl⟩:=e2
 exact ⟨b,0,vs,rfl,RepL.mono hle _ _ hvs,fun j u hj=>⟨_,_,_,hb,by rw[Nat.zero_add,List.getElem?_toArray];exact hj⟩⟩
theorem ba.lendP {P:Program} {E:World} {f:FuncId} {rest:List AV} {x:AV} {i:Nat} {T:TypeId} {cs:List AV} (hx:∀(I J:G) v,bI J x v→bI I x v)
  (h:aJ P E f (.pf cs::rest) x):ba P E f (.po i 0::rest) [(i,.cells T cs)] fun y O=>y=x∧O=[(i,.cells T cs)]:=fun I F w vs h1 h2=>by
 obtain ⟨J,L,hle,hL,hS,hf,hJ,hv⟩:=KK h2
 obtain ⟨v1,us,rfl,r1,r2⟩:=h1
 refine (h J F w _ ⟨v1,us,Z,hv v1 r1,RepL.mono hle _ _ r2⟩ hJ).mono fun v w' ⟨J2,y,O',a,b,c,d⟩=>?_
 have d:y=x:=d
 subst d
 obtain ⟨_,L',_,hS'⟩:=c
 refine ⟨I,y,_,.refl _,hx I J2 v b,⟨h2.1,L,hL,?_⟩,Z,Z⟩
 refine ⟨hS'.os,hS'.output,hS'.tape,fun b o hb=>hS'.pers b o (a.k b o (hle.k b o hb)),fun z hz=>?_,hS.nodup,hS.apart,hS.base,hS.flat,hS.oflat⟩
 rcases List.mem_append.1 hz with hz|hz
 ·exact hS'.pers _ _ (a.k _ _ (hf z hz))
 ·exact hS'.own z (List.mem_append_right _ hz)
theorem wR {I J:G} {b:Bool} {v:Value} (h:bI J (.bool b) v):bI I (.bool b) v:=h
theorem Gq {I J:G} {k:IntKind} {n:Int} {b:Bool} {v:Value} (h:bI J (.tup [.int k n,.bool b]) v):bI I (.tup [.int k n,.bool b]) v:=by
 obtain ⟨vs,rfl,a,_,rfl,h1,b,_,rfl,h2,h3⟩:=h
 exact ⟨_,rfl,a,_,rfl,h1,b,_,rfl,h2,h3⟩
end
end Go.Proofs.YtbanfokidalbaaaGreatDoor
