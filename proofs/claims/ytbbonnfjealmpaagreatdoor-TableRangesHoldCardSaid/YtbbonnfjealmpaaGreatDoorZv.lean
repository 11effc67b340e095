/- The facts at the beginning of a block. Of single programs that are little. -/
import Derived.Test.YtbbonnfjealmpaaGreatDoorZu
import Derived.Test.YtbbonnfjealmpaaGreatDoorZt
import Derived.Test.YtbbonnfjealmpaaGreatDoorZs
import Derived.Test.YtbbonnfjealmpaaGreatDoorZj
import Derived.Test.YtbbonnfjealmpaaGreatDoorZd
import Derived.Test.YtbbonnfjealmpaaGreatDoorZq
import Derived.Test.YtbbonnfjealmpaaGreatDoorZm
import Derived.Test.YtbbonnfjealmpaaGreatDoorZp
import Derived.Test.YtbbonnfjealmpaaGreatDoorZr
import Derived.Test.YtbbonnfjealmpaaGreatDoorZn
import Derived.Test.YtbbonnfjealmpaaGreatDoorZe
import Derived.Test.YtbbonnfjealmpaaGreatDoorZi
import Derived.Test.YtbbonnfjealmpaaGreatDoorChecked
import Derived.Test.YtbbonnfjealmpaaGreatDoorZc
set_option linter.unusedVariables false
set_option linter.unusedSimpArgs false
set_option linter.unusedSectionVars false
namespace Go.Proofs.YtbbonnfjealmpaaGreatDoor
section
open Go.Proofs.Tryz
open Go.Proofs Go.Lib Go.Shelf Go.RowKit
variable {E:World}
set_option maxRecDepth 20000
structure Kv (n:Nat) (l:List Lz):Prop where
 le:n≤2000
 fac:∀q∈l,Kh n q∧(-Co≤q.c∧q.c≤Co)
 len:l.length≤10000
theorem uT {α:Type} {k:Nat}:∀{rows:List (List α)} {j i:Nat} {r:List α} {v:α},(∀x∈rows,x.length=k)→rows[j]?=some r→i<k→rows.flatten.set (j*k+i) v=(rows.set j (r.set i v)).flatten
 |x::rows,0,i,r,v,hk,h,hi=>by
  cases h
  rw[List.flatten_cons,Nat.zero_mul,Nat.zero_add,List.set_append_left _ _ (by rw[hk x (.head _)];exact hi)];rfl
 |x::rows,j+1,i,r,v,hk,h,hi=>by
  have h1:=hk x (.head _)
  rw[List.flatten_cons,List.set_append_right _ _ (by rw[h1,Nat.succ_mul];omega),h1,show (j+1)*k+i - k=j*k+i by rw[Nat.succ_mul];omega,uT (fun y hy=>hk y (.tail _ hy)) h hi];rfl
end
section
open Go.Proofs.Tryz
open Go.Proofs
theorem dh.up {env e:aT} {d:Nat} {v:AV}:∀{f:List Nat},f.all (fun t=>!Nat.beq t d)=true→dh env e f→dh env (bz e d v) f
 |[],_,_=>trivial
 |t::f,h,⟨h1,h2⟩=>by
  rw[List.all_cons,wh] at h
  refine ⟨?_,dh.up h.2 h2⟩
  unfold bz
  have h3:Nat.beq t d=false:=by simpa using h.1
  rw[h3];exact h1
end
section
open Go.Proofs.Tryz
open Go.Proofs Go.Lib Go.Shelf Go.RowKit
variable {E:World}
set_option maxRecDepth 20000
end
section
open Go.Proofs.Tryz
open Go.Proofs Go.Lib Go.Shelf Go.RowKit
variable {E:World}
set_option maxRecDepth 20000
section
variable {f0 f1 f2 t m pr ps:AV} {n:Nat} {l:List Lz} {q v:Int} (hl:Kv n l) (hv:LA n v) (hq:LA n q)
include hl hv hq
end
end
section
open Go.Proofs.Tryz
open Go.Proofs Go.Lib Go.Shelf Go.RowKit
variable {E:World}
set_option maxRecDepth 20000
theorem jX {x:aB} (h:0<x.args.length):x.args[0]?=some (dq x):=by unfold dq;rw[qx h];rfl
theorem mG {x:aB} (h:1<x.args.length):x.args[1]?=some (eU x):=by unfold eU;rw[qx h];rfl
section
variable {f:ab} {K:KS} {t pr:AV} (hv:f.vars.length≤1000) (hK:KB f K)
include hv hK
end
end
section
open Go.Proofs.Tryz
open Go.Proofs Go.Lib Go.Shelf Go.RowKit
variable {E:World}
set_option maxRecDepth 20000
section
variable {f:ab} {K:KS} {t pr:AV} (hv:f.vars.length≤1000) (hK:KB f K)
include hv hK
end
end
section
open Go.Proofs.Tryz
end
section
open Go.Proofs.Tryz
open Go.Proofs Go.Lib Go.Shelf Go.RowKit
variable {E:World}
set_option maxRecDepth 20000
end
section
open Go.Proofs.Tryz
open Go.Proofs Go.Lib Go.Shelf Go.RowKit
variable {E:World}
set_option maxRecDepth 20000
end
section
open Go.Proofs.Tryz
open Go.Proofs Go.Lib Go.Shelf Go.RowKit
variable {E:World}
set_option maxRecDepth 20000
theorem zJ (op:Int) (h:0≤op∧op≤26):aP prog E 94 [.int .i64 op] (.int .i64 (if 18≤op∧op≤24 then op - 17 else 0)):=by
 refine zp func94 U (by decide) U<|ae<|am U<|z2<|zb<|ae<|aa U<|ap U U<|aq U<|zt (s:=5) U (fun c1=>?_) (fun c1=>?_)
 ·have h1:op<18:=by simpa using c1
  refine z6 U U c1<|z6 U U c1<|au U c1 U<|z2<|yr U U<|ae<|am U<|z2<|zg<|zm (x:=.int _ _) U ?_
  rw[if_neg (by omega)]
 ·have h1:¬op<18:=by simpa using c1
  refine z7 U U c1<|aa U<|z7 U U c1<|be U U<|aw U c1 U<|z2<|zw U (fun c2=>?_) (fun c2=>?_)
  ·have h2:24<op:=by simpa using c2
   refine ae<|am U<|z2<|zg<|zm (x:=.int _ _) U ?_
   rw[if_neg (by omega)]
  ·have h2:¬24<op:=by simpa using c2
   refine zf<|ae<|aa U<|z8 (Gv.sub U U (by unfold lz;omega))<|am U<|z2<|zg<|zm (x:=.int _ _) U ?_
   rw[if_pos (by omega)]
end
section
open Go.Proofs.Tryz
open Go.Proofs Go.Lib Go.Shelf Go.RowKit
variable {E:World}
set_option maxRecDepth 20000
theorem tc {f:ab} {v:Int} (h:0≤(aD f v).1∧0≤(aD f v).2):∃(i:Nat) (b:aK) (q:Nat) (x:aB),f.blocks[i]?=some b∧b.insts[q]?=some x∧(aD f v).1=i∧(aD f v).2=q∧eg f v=some x:=by
 obtain ⟨i,b,h1,h2,h3⟩:=hU h.1
 obtain ⟨q,x,h4,h5,h6⟩:∃(q:Nat) (x:aB),b.insts[q]?=some x∧x.dst=v∧(aD f v).2=q:=by
  rcases h3 with ⟨_,_,_,h4⟩|h3
  ·omega
  ·exact h3
 exact ⟨i,b,q,x,h1,h4,h2,h6,by unfold eg;rw[if_pos h,h2,h6,Int.toNat_natCast,Int.toNat_natCast,h1];exact h4⟩
theorem zK {f:ab} {v:Int} {y:aB} (hm:eg f v=some y):y.dst=v:=by
 have hy:0≤(aD f v).1∧0≤(aD f v).2:=by
  refine Classical.byContradiction fun h=>?_
  unfold eg at hm
  rw[if_neg h] at hm;cases hm
 obtain ⟨i,b,h1,h2,h3⟩:=hU hy.1
 rcases h3 with ⟨_,_,_,h4⟩|⟨q,x,h4,h5,h6⟩
 ·omega
 ·have hx:eg f v=some x:=by unfold eg;rw[if_pos hy,h2,h6,Int.toNat_natCast,Int.toNat_natCast,h1];exact h4
  rw[hx] at hm
  cases hm
  exact h5
theorem pE (f:ab) (hf:small f) (v:Nat) (hm:eg f v=none):aP prog E 50 [.agg (bw f),.int .i64 v] (.agg [.int .i64 0,.int .i64 (-1),.n,.int .i64 0]):=by
 have hM:=kW (E:=E) f hf v
 have hno:¬(0≤(aD f (v:Int)).1∧0≤(aD f (v:Int)).2):=fun h=>by
  obtain ⟨_,_,_,_,_,_,_,_,h5⟩:=tc h
  rw[h5] at hm;cases hm
 refine zp func50 U (by decide) U<|ae<|y6 (cs:=_) U U U<|zu (cs:=[.int .i64 0,.int .i64 0,.n,.int .i64 0]) Zr U U<|fun i4=>z2<|ae<|ac Z0 ji U U<|aa U<|ze (hM) U<|z8 (uY U)<|z8 (nC U U)<|z8 (nC U U)<|am U<|am U<|z2<|zb<|zb<|yb (γ:=Bool) [2,4,5,6] (fun u=>[(18,.bool u)]) (fun u=>[(i4,.cells 51 [.int .i64 0,.int .i64 0,.n,.int .i64 0])]) (fun u=>u=true) ?_ (fun _ _ h=>h) ?_
 ·refine aW<|aa U<|ap U U<|aq U<|zt (s:=15) U (fun c1=>?_) (fun c1=>?_)
  ·refine z6 U U c1<|z6 U U c1<|au U c1 U<|z2 ?_
   exact ⟨_,fC,aL,aE,by simp_all<;>omega⟩
  ·refine z7 U U c1<|aa U<|z7 U U c1<|ap U U<|aw U c1 U<|z2 ?_
   exact ⟨_,fC,aL,aE,by simp_all<;>omega⟩
 ·rintro u hu
  subst hu
  refine yr U U<|ae<|z8 (zz (cps:=[(1,[_])]) (rs:=[.int .i64 0,_,.n,.int .i64 0]) DQ U U U)<|zj Za U U U U U U .head U<|z2<|zg<|ym U ⟨_,.head⟩ Yj Za U ?_
  rfl
theorem pF (f:ab) (hf:small f) (v:Nat) {x:aB} (hm:eg f v=some x):aP prog E 50 [.agg (bw f),.int .i64 v] (.agg (bq x)):=by
 have hM:=kW (E:=E) f hf v
 have hy:0≤(aD f (v:Int)).1∧0≤(aD f (v:Int)).2:=by
  refine Classical.byContradiction fun h=>?_
  unfold eg at hm
  rw[if_neg h] at hm;cases hm
 obtain ⟨i,b,q,x',h1,h2,h3,h4,h5⟩:=tc hy
 obtain rfl:x'=x:=by rw[h5] at hm;exact Option.some.inj hm
 refine zp func50 U (by decide) U<|ae<|y6 (cs:=_) U U U<|zu (cs:=[.int .i64 0,.int .i64 0,.n,.int .i64 0]) Zr U U<|fun i4=>z2<|ae<|ac Z0 ji U U<|aa U<|ze (hM) U<|z8 (uY U)<|z8 (nC U U)<|z8 (nC U U)<|am U<|am U<|z2<|zb<|zb<|yb (γ:=Bool) [2,4,5,6] (fun u=>[(18,.bool u)]) (fun u=>[(i4,.cells 51 [.int .i64 0,.int .i64 0,.n,.int .i64 0])]) (fun u=>u=false) ?_ (fun _ _ h=>h) ?_
 ·refine aW<|aa U<|ap U U<|aq U<|zt (s:=15) U (fun c2=>?_) (fun c2=>?_)
  ·refine z6 U U c2<|z6 U U c2<|au U c2 U<|z2 ?_
   exact ⟨_,fC,aL,aE,by simp_all<;>omega⟩
  ·refine z7 U U c2<|aa U<|z7 U U c2<|ap U U<|aw U c2 U<|z2 ?_
   exact ⟨_,fC,aL,aE,by simp_all<;>omega⟩
 ·rintro u hu
  subst hu
  refine yq U U<|zf<|ae<|ak je U Zd U U<|aI Zf U<|aa U<|z8 (bB i ju Z2 U U h3 h1)<|ak jr U Zw U U<|aI Y3 U<|aa U<|z8 (bB q Z6 Za U U h4 h2)<|ac Yj Za U U<|zj Za U U U U U U .head U<|z2<|zg<|ym U ⟨_,.head⟩ Yj Za U ?_
  rfl
section
variable {f:ab} {K:KS} {P:List aB} (hv:f.vars.length≤1000) (hK:KB f K)
include hv hK
end
end
section
open Go.Proofs.Tryz
def IJ (X:OL):bC:=.heapG (fun I L=>∃L',cD I X L'∧L.Perm L') fun I J L h hp=>by obtain ⟨L',h1,h2⟩:=hp;exact ⟨L',h1.mono h,h2⟩
section
variable {E:World} {env:aT} {O O1 O':OL} {m i:Nat} {o:bC} {X X':OL}
theorem aR.bagNew:aR E env O env ((0,IJ [])::O):=fun I F ρ w h1 ⟨ht,L,hL,hS⟩=>⟨I,.refl _,h1,ht,L,⟨[],L,rfl,⟨[],rfl,.refl _⟩,hL⟩,hS⟩
theorem aR.bagOut (hX:X.Perm ((i,o)::X')) (hO:fF O m (IJ X) (IJ X') O'):aR E env O env ((i,o)::O'):=fun I F ρ w h1 ⟨ht,L,hL,hS⟩=>by
 obtain ⟨A,B,hp,⟨L',hA,hpA⟩,hback⟩:=hO.rep hL
 obtain ⟨L2,h2,h3⟩:=hA.perm hX
 obtain ⟨C,D,rfl,h4,h5⟩:=h2
 obtain ⟨L3,h6,h7⟩:=hback (qo I) (A':=D) ⟨D,h5,.refl _⟩
 refine ⟨I,.refl _,h1,ht,C++L3,⟨C,L3,U,h4,h6⟩,hS.perm (List.Perm.append_right F ?_)⟩
 refine (h7.append_left C).trans ?_
 rw[←qz]
 exact (((hpA.trans h3).append_right B).symm).trans hp.symm
theorem aR.bagIn (hP:dH O i o O1) (hX:((i,o)::X).Perm X') (hO:fF O1 m (IJ X) (IJ X') O'):aR E env O env O':=fun I F ρ w h1 ⟨ht,L,hL,hS⟩=>by
 obtain ⟨A,B,hp,hA,hB⟩:=hP.rep hL
 obtain ⟨A2,B2,hp2,⟨L',h3,h4⟩,hback⟩:=hO.rep hB
 obtain ⟨L4,h5,h6⟩:=(show cD I ((i,o)::X) (A++L') from ⟨A,L',rfl,hA,h3⟩).perm hX
 obtain ⟨L5,h7,h8⟩:=hback (qo I) (A':=A++A2) ⟨L4,h5,(h4.append_left A).trans h6⟩
 refine ⟨I,.refl _,h1,ht,L5,h7,hS.perm (List.Perm.append_right F ?_)⟩
 refine h8.trans ?_
 rw[qz]
 exact ((hp2.append_left A).symm).trans hp.symm
end
theorem vU {α β γ:Type} (g:α→β→γ):∀(xs:List α) (ys:List β) (j:Nat) {a:α} {b:β},xs[j]?=some a→ys[j]?=some b→∃X,(List.zipWith g xs ys).Perm (g a b::X)∧∀a' b',(g a' b'::X).Perm (List.zipWith g (xs.set j a') (ys.set j b'))
 |[],_,j,_,_,h,_=>by simp at h
 |_::_,[],j,_,_,_,h=>by simp at h
 |x::xs,y::ys,0,a,b,h1,h2=>by
  simp at h1 h2
  subst h1 h2
  exact ⟨List.zipWith g xs ys,.refl _,fun _ _=>.refl _⟩
 |x::xs,y::ys,j+1,a,b,h1,h2=>by
  obtain ⟨X,h3,h4⟩:=vU g xs ys j (by simpa using h1) (by simpa using h2)
  refine ⟨g x y::X,(h3.cons _).trans (.swap _ _ _),fun a' b'=>?_⟩
  exact (List.Perm.swap _ _ _).trans ((h4 a' b').cons _)
theorem IK {I J:G} {id k:Nat} {T:TypeId} {rows:List (List AV)} {L:List (Nat × Obj)} (hk:∀r∈rows,r.length=k) (hk0:0<k) (h:qM I (id,.grow k T rows.flatten) L) (hle:I.le J) (hJ:∀x∈L,J.k x.1=some x.2) {v:Value} (hv:cC I (.own id rows.length) v):cC J (.fro k rows) v:=by
 obtain ⟨b,c,n,vs,e1,hvs,hvc,hown⟩:=h
 simp only at e1
 have hflat:=wx hk
 have hnm:n=rows.length:=by
  have h5:=hown.1
  have h6:=hvs.length
  have:n*k=rows.length*k:=by omega
  exact Nat.eq_of_mul_eq_mul_right hk0 this
 obtain ⟨b2,c2,e2,rfl⟩:=hv
 rw[e1] at e2
 simp only[Option.some.injEq,Prod.mk.injEq] at e2
 obtain ⟨rfl,rfl⟩:=e2
 obtain ⟨h5,h6,h7⟩:=hown
 rcases h7 with ⟨ea,rfl,rfl⟩|⟨b',junk,ea,rfl,hj⟩
 ·have h0:rows=[]:=wa (by omega)
  subst h0
  exact ⟨adr b,0,0,rfl,rfl,Nat.le_refl _,fun _=>rfl,trivial⟩
 ·cases b with
  |none=>simp[adr] at ea
  |some b=>
   simp[adr] at ea
   subst ea
   have hb:=hJ _ (.head _)
   simp only at hb
   refine ⟨adr (some b),rows.length,c,U,U,by omega,fun h=>by simp[adr] at h,RepR.of_flat hb rows vs 0 hk (RepL.mono hle _ _ hvs) fun i u hu=>?_⟩
   rw[Nat.zero_mul,Nat.zero_add,List.getElem?_toArray,List.getElem?_append_left (List.getElem?_eq_some_iff.1 hu).1]
   exact hu
section
variable {E:World} {env:aT} {O O1 O':OL} {m i k:Nat} {T:TypeId} {cs cs':List AV} {X:OL}
end
end
section
open Go.Proofs.Tryz
end
section
open Go.Proofs.Tryz
section
variable {E:World} {P:Program} {n:Nat} {env:aT} {O O' O'':OL}
theorem fF.sameG {I J:G} {j off k2:Nat} {T:TypeId} {cs new:List AV} {x y:AV} (hle:I.le J) (hp:fF O j (.grow k2 T cs) (.grow k2 T new) O') (hc:cs[off]?=some x) (hnew:cs.set off y=new) (hxy:∀v,cC I x v→cC J y v)
  {L:List (Nat × Obj)} (hL:cD I O L):∃L',cD J O' L'∧L.Perm L':=by
 subst hnew
 obtain ⟨A,B,hp1,⟨b,c,n,vs,e1,hvs,hvc,hown⟩,hback⟩:=hp.rep hL
 obtain ⟨L',h1,h2⟩:=hback hle (A':=A) ⟨b,c,n,vs,hle.h _ _ e1,hvs.same hle hc hxy,hvc,hown⟩
 exact ⟨L',h1,hp1.trans h2.symm⟩
theorem D3 {j off k k2:Nat} {T T':TypeId} {cs:List AV} {new:Nat→List AV} {c:Code} {Q:Exit→aT→OL→Prop} {f:Nat→OL} (hP:∀i,fF O j (.grow k2 T' cs) (.grow k2 T' (new i)) (f i)) (hnew:∀i,cs.set off (.own i 0)=new i) (hc:cs[off]?=some .n)
  (h:∀i,dV P E n c Q env ((i,.grow k T [])::f i)):dV P E n c Q env O:=fun I F ρ w h1 h2=>by
 obtain ⟨i,hi⟩:=h2.name
 obtain ⟨J,e1,hle,e2,htop⟩:=hi (none,0)
 obtain ⟨_,L,hL,hS⟩:=h2
 obtain ⟨L',h3,h4⟩:=fF.sameG hle (hP i) hc (hnew i) (fun v hv=>⟨none,0,e2,hv⟩) hL
 exact (h i J F ρ w (h1.mono hle) ⟨htop,_,⟨[],L',rfl,⟨none,0,0,[],e2,rfl,by simp,fe.nil k T⟩,h3⟩,by rw[e1];exact hS.perm (h4.symm.append_right F)⟩).mono fun _ _ _=>mN.up hle
theorem GE {I:G} {F:List (Nat × Obj)} {E w:World} {i k m:Nat} {T:TypeId} {rows:List (List AV)} (hO:dH O i (.grow k T rows.flatten) O') (hk:∀r∈rows,r.length=k) (hk0:0<k) (hm:rows.length=m) (h:iB I O F E w) :
  ∃J B,I.le J∧cD I O' B∧(∃top,∀i,top≤i→J.h i=none)∧SL J.k (B++F) E w∧∀v,cC I (.own i m) v→cC J (.fro k rows) v:=by
 obtain ⟨ht,L,hL,hS⟩:=h
 obtain ⟨A,B,hp,hA,hB⟩:=hO.rep hL
 have hS2:SL I.k (A++(B++F)) E w:=hS.perm (by rw[←qz];exact (hp.append_right F).symm)
 obtain ⟨J,j1,j2,j3⟩:=SL.freezeAllN hS2
 have hle:I.le ⟨J,I.h⟩:=⟨j1,fun _ _ h=>h⟩
 subst hm
 exact ⟨⟨J,I.h⟩,B,hle,hB,ht,j2,fun v hv=>IK hk hk0 hA hle j3 hv⟩
theorem aR.knowG {j off i k k2 m:Nat} {T T':TypeId} {cs new:List AV} {rows:List (List AV)} (hO:dH O i (.grow k T rows.flatten) O') (hP:fF O' j (.grow k2 T' cs) (.grow k2 T' new) O'') (hc:cs[off]?=some (.own i m)) (hnew:cs.set off (.fro k rows)=new)
  (hk:∀r∈rows,r.length=k) (hk0:0<k) (hm:rows.length=m):aR E env O env O'':=fun I F ρ w h1 h2=>by
 obtain ⟨J,B,hle,hB,htop,hS,h4⟩:=GE hO hk hk0 hm h2
 obtain ⟨L',h5,h6⟩:=fF.sameG hle hP hc hnew h4 hB
 exact ⟨J,hle,h1.mono hle,htop,L',h5,hS.perm (h6.symm.append_right F)⟩
end
end
section
open Go.Proofs.Tryz
section
variable {E:World} {env:aT} {O O':OL}
theorem aR.impO {i k:Nat} {T:TypeId} {cs new:List AV} (hP:fF O i (.grow k T cs) (.grow k T new) O') (h:nx cs new):aR E env O env O':=fun I F ρ w h1 ⟨ht,L,hL,hS⟩=>by
 obtain ⟨A,B,hp1,⟨b,c,n,vs,e1,hvs,hvc,hown⟩,hback⟩:=hP.rep hL
 obtain ⟨L',h3,h4⟩:=hback (.refl I) (A':=A) ⟨b,c,n,vs,e1,h I vs hvs,hvc,hown⟩
 exact ⟨I,.refl I,h1,ht,L',h3,hS.perm ((hp1.trans h4.symm).symm.append_right F)⟩
end
theorem aP.impT {E:World} {P:Program} {f:FuncId} {ars:List AV} {x y:AV} (h:aP P E f ars x) (hi:v8 x y):aP P E f ars y:=fun I F w vs h1 h2=>
 (h I F w vs h1 h2).mono fun _ _ ⟨J,z,O',a,b,c,d⟩=>⟨J,y,O',a,hi J _ (d▸b),c,rfl⟩
theorem nx.rep {xs ys:List AV} (h:nx xs ys):∀n:Nat,nx (List.replicate n xs).flatten (List.replicate n ys).flatten
 |0=>.nil
 |n+1=>fun I vs hv=>by
  rw[List.replicate_succ,List.flatten_cons] at hv ⊢
  have h1:=RepL.take hv xs.length
  have h2:=RepL.drop hv xs.length
  rw[List.take_left' rfl] at h1
  rw[List.drop_left' rfl] at h2
  have:=RepL.append (h I _ h1) (nx.rep h n I _ h2)
  rw[List.take_append_drop] at this
  exact this
theorem GF {α:Type} {P R:List α} {n:Nat} (h:P.length=n) (j:Nat):(P++R).drop (n+j)=R.drop j:=by
 subst h;rw[List.drop_append,List.drop_eq_nil_of_le (by omega),List.nil_append,Nat.add_sub_cancel_left]
theorem GG {α:Type} {P R:List α} {n:Nat} (h:P.length=n) (j:Nat) (v:α):(P++R).set (n+j) v=P++R.set j v:=by
 subst h;rw[List.set_append_right _ _ (by omega),Nat.add_sub_cancel_left]
theorem LN {α:Type} {P R:List α} {n:Nat} (h:P.length=n) (j:Nat):(P++R)[n+j]?=R[j]?:=by
 subst h;rw[List.getElem?_append_right (by omega),Nat.add_sub_cancel_left]
end
section
open Go.Proofs.Tryz
open Go.Proofs Go.Lib Go.Shelf Go.RowKit
variable {E:World}
set_option maxRecDepth 20000
def GH (f:ab) (v:Int):Int:=match eg f v with|none=>0|some x=>x.op
def zL (f:ab) (v:Int):Int:=match eg f v with|none=>-1|some x=>x.dst
theorem Bw (f:ab) (hf:small f) (v:Nat):∃rows n,aP prog E 50 [.agg (bw f),.int .i64 v] (.agg [.int .i64 (GH f v),.int .i64 (zL f v),.fro 1 rows,.int .i64 n]):=by
 unfold GH zL
 cases hm:eg f v with
 |none=>exact ⟨[],0,aP.impT (pE f hf v hm) (v8.agg (.cons (.refl _) (.cons (.refl _) (.cons (v8.nil 1) (.cons (.refl _) .nil)))))⟩
 |some x=>exact ⟨_,_,pF f hf v hm⟩
theorem GI (f:ab) (v:Nat):vM f v=(decide (0≤zL f v)&&decide (GH f v=0)):=by
 unfold vM GH zL
 cases hm:eg f (v:Int) with
 |none=>rfl
 |some x=>
  have:=zK hm
  rw[we (p:=0≤x.dst) (by rw[this];omega)];rfl
def LO (f:ab) (jv N jb n jn m k:Nat):List AV:=[.fro 2 (f.vars.map bF),.fro 1 (f.params.map bO),.fro 7 (f.blocks.map bD),.own jv N,.fro 1 (f.params.map bO),.own jb n,.own jn m,.int .i64 k]
def zM (f:ab) (iw jv jb n jn jl:Nat) (p:f8):OL:=[(iw,.cells 73 (LO f jv p.1.vars.length jb n jn p.1.now.length p.1.k)),(jv,.grow 2 48 (p.1.vars.map bF).flatten),(jn,.grow 1 3 (cI p.1.now)),(jl,.grow 4 51 (p.2.map bq).flatten)]
def LP (f:ab) (jb n iw jn:Nat) (p q:f8) (jv jl:Nat) (v:Int) (x:aB) (E:World):Prop:=
 bn prog E 26 [.po iw 0,.own jl p.2.length,.int .i64 v,.agg (bq x)] (zM f iw jv jb n jn jl p) (fun y O=>∃g:Nat × Nat,y=.own g.2 q.2.length∧O=zM f iw g.1 jb n jn g.2 q∧True)
theorem Bx (f:ab) (hf:small f) (jb n iw jn:Nat) (p:f8) (jv jl:Nat) (v:Nat) (hv:v<p.1.now.length) (x:aB) (hk:p.1.k≤100000000) (hV:p.1.vars.length≤1000000) (hl:p.2.length≤1000000):LP f jb n iw jn p (eR f p v x) jv jl v x E:=by
 obtain ⟨A,a,hM⟩:=Bw (E:=E) f hf v
 have hN:=zG (E:=E) f hf.1 p.1.k hk
 have hcs:=GI f v
 refine bn.exact (γ:=Nat × Nat) (x:=fun g=>.own g.2 (eR f p v x).2.length) (M:=fun g=>zM f iw g.1 jb n jn g.2 (eR f p v x)) (p:=fun _=>True) ?_
 unfold eR
 rw[hcs]
 unfold zM LO
 refine zp func26 U (by decide) U<|ae<|yl (cs:=_) U U U U<|fun i7=>cE U<|z2<|ae<|bb U<|ax U<|z8 (zh Zj U ji (by decide) U U)<|z8 (yo (l:=[_,_,_]) Z0 ji U ⟨_,.t1⟩ U U)<|aa U<|ze (hM) U<|zu (cs:=[.int .i64 0,.int .i64 0,.n,.int .i64 0]) Zr U U<|fun i9=>zj Za U U U U U U .head U<|zd (y8 (t:=9) U .head)<|z2<|zb<|zb<|yb (γ:=Bool) [0,1,2,7] (fun u=>[(24,.bool u)]) (fun u=>[(i7,.cells 51 (bq x)),(iw,.cells 73 (LO f jv p.1.vars.length jb n jn p.1.now.length p.1.k)),(jv,.grow 2 48 (p.1.vars.map bF).flatten),(jn,.grow 1 3 (cI p.1.now)),(jl,.grow 4 51 (p.2.map bq).flatten)]) (fun u=>u=(decide (0≤zL f v)&&decide (GH f v=0))) ?_ (fun _ _ h=>h) ?_
 ·refine aW<|ak jd U j9 U U<|aA jg U<|z8 (q9 U U)<|aq U<|zt (s:=20) U (fun c1=>?_) (fun c1=>?_)
  ·refine z7 U U c1<|ak jd U Zs U U<|z7 U U c1<|aA Y2 U<|z7 U U c1<|ao U U<|au U c1 U<|z2 ?_
   exact ⟨_,(by repeat (first|with_reducible exact yh _ _|refine dh.up rfl ?_|exact fC)),aL,aE,by simp_all<;>omega⟩
  ·refine z6 U U c1<|z6 U U c1<|z6 U U c1<|aw U c1 U<|z2 ?_
   exact ⟨_,(by repeat (first|with_reducible exact yh _ _|refine dh.up rfl ?_|exact fC)),aL,aE,by simp_all<;>omega⟩
 ·rintro u hu
  subst hu
  refine zw U (fun cu=>?_) (fun cu=>?_)
  ·rw[if_pos cu]
   refine y7 (qf .head)<|ae<|bL U<|z8 (ei U)<|z2<|zg<|zm (x:=.own _ _) U ?_
   exact ⟨(jv,jl),rfl,⟨_,.refl _,rfl⟩,trivial⟩
  ·rw[if_neg (by rw[cu];decide)]
   refine zf<|ae<|z8 (q8 (v:=.str _) U)<|z2<|zb<|zr (fun j=>Nat.beq j 16) (by kernel_rfl) U (zo (.l (.r (.rest _))))<|ai 0 U (dR U)<|ai 1 U (dR U)<|ai 2 U (zy U)<|ai 3 U (zh Zj U ji (by decide) U U)<|ai 4 U (yo (l:=[_,_,_]) Z0 ji U ⟨_,.head⟩ U U)<|ai 5 U (dR U)<|ai 6 U (zy U)<|ai 7 U (zh Zj U j9 (by decide) U U)<|ai 8 U (zq (c:=.int _ _) jg U ⟨_,.head⟩ U)<|aN 9 U<|ze (hN) U<|z2<|ai 10 U (uY U)<|ai 11 U (Gv.extract (v:=.str _) U U)<|ai 12 U (nC U U)<|ai 13 U (q8 (v:=.str _) U)<|yv (i:=14) U (by kernel_rfl) (by kernel_rfl) (by kernel_rfl) (by kernel_rfl) (zy U)<|ai 15 U (zh Zj U j9 (by decide) U U)<|yc<|yk (i:=16) U (by kernel_rfl) (by kernel_rfl)<|yn (l:=[_]) (new:=[_,_,_,_,_,_,_,_]) j9 U U U U U U .head U U<|z2<|yf (by kernel_rfl)<|ae<|bb U<|ax U<|z8 (zh Zj U ji (by decide) U U)<|z8 (zh je U Zn (by decide) U U)<|z8 (zq (c:=.own _ _) Zz U ⟨_,.head⟩ U)<|z8 (qp Z7 U)<|z8 (zh jd U j9 (by decide) U U)<|yn (l:=[_]) (new:=[_,_,_,_]) j9 U U U U U U .t1 U U<|z2<|zb<|zr (fun j=>Nat.beq j 8) (by kernel_rfl) U (zo (.r (.r (.rest _)))) ?_
   refine ai 0 U (dR U)<|ai 1 U (zy U)<|ai 2 U (zh Zj U jh (by decide) U U)<|ai 3 U (zq (c:=.own _ _) jx U ⟨_,.head⟩ U)<|ai 4 U (dx U)<|ai 5 U (zh jd U j9 (by decide) U U)<|ai 6 U (zq (c:=.int _ _) jg U ⟨_,.t1⟩ U)<|aN 7 U<|z8 (yd (j:=v) j7 j9 U U U ⟨_,.t1⟩ (aF _) hv)<|z2<|yc<|yk (i:=8) U (by kernel_rfl) (by kernel_rfl)<|q5 (j:=v) j9 U U .t3 hv<|z2<|yf (by kernel_rfl)<|ae<|bb U<|bb U<|ax U<|z8 (zh Zj U ji (by decide) U U)<|z8 (zh je U Zn (by decide) U U)<|z8 (zq (c:=.own _ _) Zz U ⟨_,.head⟩ U)<|z8 (yt (v:=.str _) U)<|z8 (zz (cps:=[(0,[_])]) (rs:=[_,.int .i64 0]) Lx U U U)<|zx (rows:=[[_,_]]) FT U U U U U<|yg (k:=2) Z7 type48 U U U U U (fun _=>.t2) (d6 (k:=2) (fun _=>U) _) (by decide) U (by show (_+1)*24≤_;omega) (by show _+1≤_;omega)<|fun i65=>ax U<|z8 (zh Zj U ji (by decide) U U)<|z8 (zh je U Zn (by decide) U U)<|yn (l:=[_]) (new:=[_,_,_,_,_,_,_,_]) Zn U U U U U U .head U U<|z2<|ae<|bL U<|z8 (qu Yj Za U ⟨_,.t1⟩ U)<|zx (rows:=[[_,_,_,_]]) Be U U U U U<|yg (k:=4) Z6 type51 U U U U U (fun _=>.t4) (d6 (k:=4) (fun _=>U) _) (by decide) U (by show (_+1)*48≤_;omega) (by show _+1≤_;omega)<|fun i72=>z8 (ei U)<|z2<|y7 (qf .t1) ?_
   refine y7 (za (zc .t3))<|y7 (za (zc .t3))<|y7 (za (zc .t3))<|y7 (za (zc .t3))<|zg<|zm (x:=.own _ _) U ?_
   exact ⟨(i65,i72),by dsimp only[jU];rw[w5];rfl,⟨_,.refl _,by dsimp only[jU];rw[w5,List.length_set,←eS (enc:=bF) rfl,←eS (enc:=bq) rfl];rfl⟩,trivial⟩
theorem GJ (f:ab) (hf:small f) (jb n iw jn:Nat) (p:f8) (jv jl:Nat) (v:Int) (h0:0≤v) (hv:v<p.1.now.length) (x:aB) (hk:p.1.k≤100000000) (hV:p.1.vars.length≤1000000) (hl:p.2.length≤1000000):bn prog E 26 [.po iw 0,.own jl p.2.length,.int .i64 v,.agg (bq x)] (zM f iw jv jb n jn jl p) (fun y O=>∃g:Nat × Nat,y=.own g.2 (eR f p v x).2.length∧O=zM f iw g.1 jb n jn g.2 (eR f p v x)∧True):=by
 obtain ⟨k,rfl⟩:=Int.eq_ofNat_of_zero_le h0
 exact Bx f hf jb n iw jn p jv jl k (by omega) x hk hV hl
end
section
open Go.Proofs.Tryz
section
variable {κ:Type} [DecidableEq κ] (c:F6 κ)
variable {c}
section
variable {E:World} {P:Program} {ops:Array Oper} {K:aT→OL→Prop} {env:aT} {O O':OL} {rest:List Oper} {n:Nat}
variable {d ty:Nat} {pos:String} {af:Array Edge} {x y z:Operand} {t u e T kt:TypeId} {b:Nat}
end
end
end
section
open Go.Proofs.Tryz
section
variable {f:ab} (hR:bm f)
include hR
theorem bm.rk0 {v:Int} {y:aB} (h:eg f v=some y) (hl:0<y.args.length):Cs f (dq y)<Cs f v:=hR.rk_arg h _ (yH hl)
theorem bm.rk1 {v:Int} {y:aB} (h:eg f v=some y) (hl:1<y.args.length):Cs f (eU y)<Cs f v:=hR.rk_arg h _ (F3 hl)
end
end
section
open Go.Proofs.Tryz
abbrev D4:=Int × Bool
structure LQ (f:ab) (es:List (D4 × Int)) (q:ia):Prop where
 get:∀k,(LH es k).isSome=q.seen.contains k
 pos:∀e∈es,1≤e.2
 nod:q.seen.Nodup
 rng:∀k∈q.seen,bt f k.1=true
 out:q.out.length≤q.seen.length
section
variable {f:ab} {es:List (D4 × Int)} {q:ia}
theorem LQ.len (h:LQ f es q):q.seen.length≤2*f.vars.length:=by
 have hsub:∀k∈q.seen,k∈(aY f.vars.length).flatMap fun i=>[(i,true),(i,false)]:=fun k hk=>by
  have hr:0≤k.1∧k.1<f.vars.length:=by simpa [bt] using h.rng k hk
  refine List.mem_flatMap.2 ⟨k.1,dB.2 hr,?_⟩
  obtain ⟨a,b⟩:=k
  cases b<;>simp
 have h1:=List.Nodup.length_le_of_subset h.nod hsub
 have h2:∀l:List Int,(l.flatMap fun i=>[(i,true),(i,false)]).length=2*l.length:=fun l=>by
  induction l with
  |nil=>rfl
  |cons a l ih=>
   rw[List.flatMap_cons,w5,ih,List.length_cons]
   show 2+2*l.length=2*(l.length+1)
   omega
 have h2:=h2 (aY f.vars.length)
 rw[bR] at h2
 omega
end
structure mh (f:ab) (q:ia):Prop where
 nod:q.seen.Nodup
 rng:∀k∈q.seen,bt f k.1=true
 out:q.out.length≤q.seen.length
theorem mh.len {f:ab} {q:ia} (h:mh f q):q.out.length≤2*f.vars.length:=by
 have hsub:∀k∈q.seen,k∈(aY f.vars.length).flatMap fun i=>[(i,true),(i,false)]:=fun k hk=>by
  have hr:0≤k.1∧k.1<f.vars.length:=by simpa [bt] using h.rng k hk
  refine List.mem_flatMap.2 ⟨k.1,dB.2 hr,?_⟩
  obtain ⟨a,b⟩:=k
  cases b<;>simp
 have h1:=List.Nodup.length_le_of_subset h.nod hsub
 have h2:∀l:List Int,(l.flatMap fun i=>[(i,true),(i,false)]).length=2*l.length:=fun l=>by
  induction l with
  |nil=>rfl
  |cons a l ih=>
   rw[List.flatMap_cons,w5,ih,List.length_cons]
   show 2+2*l.length=2*(l.length+1)
   omega
 have h2:=h2 (aY f.vars.length)
 rw[bR] at h2
 have:=h.out
 omega
theorem mh.push {f:ab} {q:ia} (h:mh f q) {k:D4} (hk:q.seen.contains k=false) (hr:bt f k.1=true):mh f ⟨q.seen++[k],q.out⟩∧∀a b n,mh f (ft ⟨q.seen++[k],q.out⟩ a b n):=by
 have hn:(q.seen++[k]).Nodup:=by
  rw[List.nodup_append]
  refine ⟨h.nod,by simp,fun a ha b hb e=>?_⟩
  simp at hb
  subst hb e
  rw[List.contains_iff_mem.2 ha] at hk;cases hk
 have hg:∀k'∈q.seen++[k],bt f k'.1=true:=fun k' hk'=>by
  rcases List.mem_append.1 hk' with hk'|hk'
  ·exact h.rng k' hk'
  ·rw[List.mem_singleton.1 hk'];exact hr
 have ho:=h.out
 have h1:mh f ⟨q.seen++[k],q.out⟩:=⟨hn,hg,by show q.out.length≤(q.seen++[k]).length;simp;omega⟩
 refine ⟨h1,fun a b n=>?_⟩
 unfold ft
 split
 ·exact h1
 ·exact ⟨hn,hg,by show (q.out++_).length≤(q.seen++[k]).length;simp;omega⟩
theorem mW {f:ab} (hR:bm f):∀(n:Nat) (q:ia) (c:Int) (is:Bool),mh f q→bt f c=true→mh f (gv f n q c is)
 |0,q,_,_,h,_=>h
 |n+1,q,c,is,h,hc=>by
  unfold gv
  split
  ·exact h
  rename_i hk
  have hk:q.seen.contains (c,is)=false:=by simpa using hk
  obtain ⟨h1,h2⟩:=h.push hk hc
  split
  ·exact h1
  rename_i x hx
  obtain ⟨hF,_,_⟩:=hR.madeF hx
  have a0:∀{k:Int},x.op=k→0<([0,1,2,2,2,2,2,2,2,2,1,2,1,2,3,1,0,1,2,1,1,2,2,2,1,2,2][k.toNat]?).getD 0→bt f (dq x)=true:=fun e h=>by
   have:=hF.a0 (by rw[hF.cnt e];exact h)
   unfold bt;simpa using ⟨this.2,this.1⟩
  have a1:∀{k:Int},x.op=k→1<([0,1,2,2,2,2,2,2,2,2,1,2,1,2,3,1,0,1,2,1,1,2,2,2,1,2,2][k.toNat]?).getD 0→bt f (eU x)=true:=fun e h=>by
   have:=hF.a1 (by rw[hF.cnt e];exact h)
   unfold bt;simpa using ⟨this.2,this.1⟩
  split
  ·rename_i e;exact mW hR n _ _ _ h1 (a0 e (by decide))
  split
  ·rename_i e;exact mW hR n _ _ _ h1 (a0 e (by decide))
  split
  ·rename_i e
   split
   ·exact mW hR n _ _ _ (mW hR n _ _ _ h1 (a0 e (by decide))) (a1 e (by decide))
   ·exact h1
  split
  ·split
   ·exact h2 _ _ _
   ·exact h2 _ _ _
  split
  ·split
   ·exact h2 _ _ _
   ·exact h2 _ _ _
  split
  ·split
   ·exact h2 _ _ _
   ·exact h1
  ·exact h1
theorem D5 {f:ab} (hR:bm f) {c:Int} (is:Bool) (hc:bt f c=true):(o9 f c is).length≤2*f.vars.length:=(mW hR 100000 ⟨[],[]⟩ c is ⟨List.nodup_nil,fun k hk=>(by cases hk),Nat.le_refl _⟩ hc).len
theorem Cx {f:ab} (hR:bm f) (i:Int):(jJ f i).length≤2*f.vars.length:=by
 unfold jJ;split
 ·rename_i p hp
  split
  ·rename_i hc
   obtain ⟨hp1,_⟩:=hR.pred hp
   have hpr:0≤p∧p<f.blocks.length:=Classical.byContradiction fun hn=>by rw[eN hn] at hp1;cases hp1
   have hvk:bt f (aQ f p).term.var=true:=by
    have h1:=(hR.run.term _ (dU hpr.1 hpr.2))
    unfold bJ at h1
    rw[if_neg (by omega),if_pos hc.1] at h1
    simp only[wh] at h1
    exact h1.1.1
   exact D5 hR _ hvk
  ·exact w2 _
 ·exact w2 _
end
section
open Go.Proofs.Tryz
open Go.Proofs
theorem gm.at_ {f:ab}:∀{l done:List Int} {m:Nat} {b:Int},gm f done l→l[m]?=some b→(0≤b∧b<f.blocks.length)∧(0≤nearD f b→nearD f b∈done++l.take m)
 |[],_,_,_,_,h=>by simp at h
 |c::l,done,0,b,h,e=>by
  cases e
  exact ⟨h.1,fun k=>by rw[List.take_zero,wc];exact h.2.1 k⟩
 |c::l,done,m+1,b,h,e=>by
  have h1:=gm.at_ (m:=m) (b:=b) h.2.2 e
  refine ⟨h1.1,fun k=>?_⟩
  have h2:=h1.2 k
  rw[qz] at h2
  exact h2
theorem gm.pre {f:ab}:∀{l done:List Int} (m:Nat),gm f done l→gm f done (l.take m)
 |[],_,m,h=>by rw[List.take_nil];exact h
 |_::_,_,0,_=>trivial
 |_::_,_,m+1,h=>⟨h.1,h.2.1,gm.pre m h.2.2⟩
abbrev jF (f:ab):List Int:=gN f f.blocks.length 0
def pZ (f:ab) (m:Nat):tT:=((jF f).take m).foldl (ke f) (vN f)
theorem vV (f:ab):pZ f (jF f).length=gl f:=by unfold pZ;rw[w4];rfl
theorem qJ {α β:Type} {g:β→α→β} {l:List α} {k:Nat} {x:α} (p:β) (h:l[k]?=some x):(l.take (k+1)).foldl g p=g ((l.take k).foldl g p) x:=by
 obtain ⟨h1,h2⟩:=List.getElem?_eq_some_iff.1 h
 rw[qy h1,List.foldl_append,h2];rfl
theorem GK {f:ab} {m:Nat} {b:Int} (h:(jF f)[m]?=some b):pZ f (m+1)=ke f (pZ f m) b:=qJ _ h
theorem ot (f:ab) (p:f8) (v:Int) (x:aB):(eR f p v x).1.now.length=p.1.now.length:=by
 unfold eR
 split
 ·rfl
 ·show (p.1.now.set _ _).length=_;rw[List.length_set]
theorem zN (f:ab) (p:f8) (r:sH):(gx f p r).1.now.length=p.1.now.length:=by unfold gx;rw[ot,ot]
theorem GL (f:ab) (p:f8) (x:aB):(fT f p x).1.now.length=p.1.now.length:=by
 unfold fT
 split
 ·rw[ot]
 ·rfl
theorem mH {α:Type} {g:f8→α→f8} (h:∀p x,(g p x).1.now.length=p.1.now.length):∀(l:List α) (p:f8),(l.foldl g p).1.now.length=p.1.now.length
 |[],_=>rfl
 |x::l,p=>(mH h l (g p x)).trans (h p x)
def nB (f:ab) (S:pX) (b:Int) (i:Nat):f8:=((jJ f b).take i).foldl (gx f) (S,[])
def mi (f:ab) (S:pX) (b:Int) (i:Nat):f8:=((aQ f b).insts.take i).foldl (fT f) ((jJ f b).foldl (gx f) (S,[]))
theorem GM (f:ab) (S:pX) (b:Int) (i:Nat):(nB f S b i).1.now.length=S.now.length:=mH (zN f) _ _
theorem zO (f:ab) (S:pX) (b:Int) (i:Nat):(mi f S b i).1.now.length=S.now.length:=(mH (GL f) _ _).trans (mH (zN f) _ _)
theorem D6 {f:ab} {S:pX} {b:Int} {i:Nat} {r:sH} (h:(jJ f b)[i]?=some r):nB f S b (i+1)=gx f (nB f S b i) r:=qJ _ h
theorem D7 {f:ab} {S:pX} {b:Int} {i:Nat} {x:aB} (h:(aQ f b).insts[i]?=some x):mi f S b (i+1)=fT f (mi f S b i) x:=qJ _ h
theorem GN (f:ab) (S:pX) (b:Int):nB f S b (jJ f b).length=mi f S b 0:=by unfold nB mi;rw[w4];rfl
theorem GO (f:ab) (S:pX) (b:Int):mi f S b (aQ f b).insts.length=dE f S b:=by unfold mi dE;rw[w4]
structure MG (f:ab) (p:f8):Prop where
 vars:p.1.vars.length≤40000
 k:p.1.k≤5000000
 ins:p.2.length≤4000
theorem nA.mid {f:ab} {b m q:Nat} {p:f8} (h:nA f b p m q) (hv:f.vars.length≤100) (hb:b≤32100) (hm:m≤2000) (hq:q≤4000):MG f p:=by
 obtain ⟨⟨k1,k2⟩,h2,h3⟩:=h
 have h4:(p.1.vars.length - f.vars.length)*(f.vars.length+2)≤36000*102:=Nat.mul_le_mul (by omega) (by omega)
 exact ⟨by omega,by omega,by omega⟩
section
variable {f:ab} (hR:bm f)
include hR
theorem zP:(jF f).length≤f.blocks.length:=sS hR _ ⟨Int.le_refl _,by have:=hR.hE.pos;omega⟩
theorem vW (m:Nat):k5 f (pZ f m) ((jF f).take m):=by
 have hn:=jE hR f.blocks.length 0 ⟨Int.le_refl _,by have:=hR.hE.pos;omega⟩
 have:=k5.all hR.inf ((jF f).take m) (k5.first f) (fun _ h=>by cases h) (hR.ordB.pre m) (by rw[List.nil_append];exact hn.sublist (List.take_sublist _ _))
 rwa [List.nil_append] at this
theorem IL {m:Nat} {b:Int} (hb:(jF f)[m]?=some b):(dz f (pZ f m) b).now.length=f.vars.length:=by
 have hB:=(hR.ordB.at_ hb).2
 rw[List.nil_append] at hB
 show (if 0≤nearD f b then fU (pZ f m).ends (nearD f b) else aY f.vars.length).length=_
 split
 ·rename_i k;exact ((vW hR m).ends _ (hB k)).len
 ·exact bR _
theorem GP {m:Nat} {b:Int} (hb:(jF f)[m]?=some b) (h:0≤nearD f b):(nearD f b).toNat<f.blocks.length∧(pZ f m).ends[(nearD f b).toNat]?=some (fU (pZ f m).ends (nearD f b))∧(fU (pZ f m).ends (nearD f b)).length=f.vars.length:=by
 have hB:=(hR.ordB.at_ hb).2 h
 rw[List.nil_append] at hB
 have hr:=(gp hR _ 0 ⟨Int.le_refl _,by have:=hR.hE.pos;omega⟩ _ (List.mem_of_mem_take hB)).2
 have he:=(vW hR m).el
 refine ⟨by omega,?_,((vW hR m).ends _ hB).len⟩
 unfold fU
 rw[qx (by omega)];rfl
theorem IM {b:Int} (h:0≤b∧b<f.blocks.length):(gl f).ends[b.toNat]?=some (fU (gl f).ends b)∧(fU (gl f).ends b).length=f.vars.length:=by
 have hW:=qI hR
 have he:=hW.el
 refine ⟨?_,(hW.ends _ (hR.ordAll h)).len⟩
 unfold fU
 rw[qx (by omega)];rfl
variable (hv:f.vars.length≤100) (hn:f.blocks.length≤40) (hi:∀b∈f.blocks,b.insts.length≤400)
include hv hn hi
theorem Cy {m:Nat} (hm:m≤(jF f).length):oq f (pZ f m) m:=by
 have hp:(0:Int)≤0∧(0:Int)<f.blocks.length:=⟨Int.le_refl _,by have:=hR.hE.pos;omega⟩
 have:=oq.all ((jF f).take m) (oq.first f) fun b hb=>⟨Cx hR b,by
  have hr:=(gp hR _ 0 hp _ (List.mem_of_mem_take hb)).2
  exact hi _ (dU hr.1 hr.2)⟩
 rw[wd,Nat.min_eq_left hm,Nat.zero_add] at this
 exact this
theorem Kw {m:Nat} (hm:m≤(jF f).length):(pZ f m).vars.length≤32100∧(pZ f m).k≤3264000:=(Cy hR hv hn hi hm).few hv (by have:=zP hR;omega)
theorem Cz {m:Nat} (hm:m≤(jF f).length) (b:Int) {i:Nat} (h:i≤(jJ f b).length):nA f (pZ f m).vars.length (nB f (dz f (pZ f m) b) b i) (2*i) (2*i):=by
 have h0:nA f (pZ f m).vars.length (dz f (pZ f m) b,[]) 0 0:=⟨(Cy hR hv hn hi hm).k,⟨Nat.le_refl _,Nat.le_refl _⟩,Nat.le_refl _⟩
 have:=nA.rels ((jJ f b).take i) h0
 rw[wd,Nat.min_eq_left h,Nat.zero_add] at this
 exact this
theorem IO {m:Nat} (hm:m≤(jF f).length) (b:Int) {i:Nat} (h:i≤(aQ f b).insts.length):nA f (pZ f m).vars.length (mi f (dz f (pZ f m) b) b i) (2*(jJ f b).length+i) (2*(jJ f b).length+2*i):=by
 have h0:=Cz hR hv hn hi hm b (Nat.le_refl (jJ f b).length)
 unfold nB at h0
 rw[w4] at h0
 have:=nA.inss ((aQ f b).insts.take i) h0
 rw[wd,Nat.min_eq_left h] at this
 exact this
end
end
section
open Go.Proofs.Tryz
open Go.Proofs Go.Lib Go.Shelf Go.RowKit
variable {E:World}
set_option maxRecDepth 20000
theorem qK {f:ab} {a b:Nat} (h:b<f.blocks.length):(oT f a)[b]?=some (domF f a b):=FH h
theorem td {n k:Nat} (h:k<n):(aY n)[k]?=some (k:Int):=by unfold aY;rw[w7,List.getElem?_range h];rfl
def tX (f:ab) (a b:Int) (x:Int):Bool:=!(!decide (x=b)&&domF f x b)||domF f x a
theorem GQ {p:Int→Bool} {n k:Nat} (h:((aY n).take k).all (fun a=>!p a)=true) (hk:k<n) (hp:p k=true):(aY n).find? p=some (k:Int):=by
 rw[←List.take_append_drop k (aY n),List.find?_append,List.find?_eq_none.2 (fun a ha=>by have:=List.all_eq_true.1 h a ha;simpa using this),II (td hk)]
 simp[List.find?_cons,hp]
set_option maxHeartbeats 4000000 in
theorem pH (f:ab) (hn:f.blocks.length≤1000) (b:Nat) (hb:b<f.blocks.length):aP prog E 24 [A4 (nq f),.int .i64 b] (.int .i64 (nearD f b)):=by
 have htl:=gY f
 unfold A4
 refine zp func24 U (by decide) U<|ae<|am U<|z2<|zb<|ae<|bd U<|aj X1 U<|aa U<|z2<|zi<|y5 (γ:=Nat) [0,1,9] (fun k=>[(10,.i k)]) (fun k=>[]) (fun k=>k≤f.blocks.length∧((aY f.blocks.length).take k).all (fun a=>!isNear f a b)=true) (fun k=>f.blocks.length - k) 0 aL aE (⟨w2 _,U⟩) ?_
 rintro k ⟨hk,hall⟩
 refine ae<|ap U U<|z2<|zb<|zn U (fun ck=>?_) (fun ck=>?_)
 ·have hk2:k<f.blocks.length:=by omega
  have hsu:((aY f.blocks.length).take (k+1)).all (fun a=>!isNear f a b)=!isNear f k b:=by
   rw[List.take_add_one,td hk2,List.all_append,hall];simp
  have his:isNear f k b=((!decide ((k:Int)=b)&&domF f k b)&&(aY f.blocks.length).all (tX f k b)):=rfl
  refine zf<|zb<|zi<|ae<|aa U<|am U<|z2<|zb<|zb<|yb (γ:=Bool) [0,1,5,9,10] (fun u=>[(25,.bool u)]) (fun u=>[]) (fun u=>u=!(!decide ((k:Int)=b)&&domF f k b)) ?_ (fun _ _ h=>h) ?_
  ·refine aW<|aa U<|aa U<|ao U U<|aq U<|zt (s:=16) U (fun c1=>?_) (fun c1=>?_)
   ·refine z6 U U c1<|z6 U U c1<|z6 U U c1<|z6 U U c1<|z6 U U c1<|z6 U U c1<|z6 U U c1<|z6 U U c1<|au U c1 U<|z2 ?_
    exact ⟨_,(by repeat (first|with_reducible exact yh _ _|refine dh.up rfl ?_|exact mI)),aL,aE,by simp_all⟩
   ·refine z7 U U c1<|bd U<|z7 U U c1<|aa U<|z7 U U c1<|z8 (bB k X1 Yg U U U (l6 hk2))<|z7 U U c1<|aI Yu U<|z7 U U c1<|aa U<|z7 U U c1<|z8 (bB b jw Zb U U U (qK hb))<|z7 U U c1<|z8 (qe (c:=.bool _) Yn U)<|z7 U U c1<|aJ U<|aw U c1 U<|z2 ?_
    exact ⟨_,(by repeat (first|with_reducible exact yh _ _|refine dh.up rfl ?_|exact mI)),aL,aE,by simp_all⟩
  ·rintro u hu
   refine zw U (fun cu=>?_) (fun cu=>?_)
   ·have h0:isNear f k b=false:=by
     rw[his,show (!decide ((k:Int)=b)&&domF f k b)=false by cases h:(!decide ((k:Int)=b)&&domF f k b) with|false=>rfl|true=>rw[hu,h] at cu;cases cu];rfl
    refine y4<|aW<|aC U U<|aa U<|z2 ?_
    exact ⟨k+1,bW,aL,aE,⟨hk2,by rw[hsu,h0];rfl⟩,by omega⟩
   ·have h0:(!decide ((k:Int)=b)&&domF f k b)=true:=by
     cases h:(!decide ((k:Int)=b)&&domF f k b) with
     |true=>rfl
     |false=>rw[hu,h] at cu;cases cu
    rw[h0,Bool.true_and] at his
    refine zf<|ae<|ad U<|z2<|zb<|ae<|bd U<|aj X1 U<|aa U<|z2<|zi<|y5 (γ:=Nat × Bool) [0,1,5,9,10,27] (fun g=>[(28,.i g.1),(6,.bool g.2)]) (fun g=>[]) (fun g=>g.1≤f.blocks.length∧g.2=((aY f.blocks.length).take g.1).all (tX f k b)) (fun g=>f.blocks.length - g.1) (0,true) b7 aE (⟨w2 _,U⟩) ?_
    rintro ⟨x,ok⟩ ⟨hx,hok⟩
    try dsimp only at *
    refine ae<|ap U U<|z2<|zb<|zn U (fun cx=>?_) (fun cx=>?_)
    ·have hx2:x<f.blocks.length:=by omega
     have hsx:((aY f.blocks.length).take (x+1)).all (tX f k b)=(ok&&tX f k b x):=by
      rw[List.take_add_one,td hx2,List.all_append,←hok];simp
     refine zf<|zb<|zi<|ae<|aa U<|am U<|z2<|zb<|yb (γ:=Bool) [0,1,5,6,9,10,27,28] (fun u=>[(52,.bool u)]) (fun u=>[]) (fun u=>u=!tX f k b x) ?_ (fun _ _ h=>h) ?_
     ·refine aW<|aa U<|aa U<|aO U U<|aq U<|zt (s:=34) U (fun c2=>?_) (fun c2=>?_)
      ·refine z7 U U c2<|bd U<|z7 U U c2<|aa U<|z7 U U c2<|z8 (bB x X1 Yg U U U (l6 hx2))<|z7 U U c2<|aI Yu U<|z7 U U c2<|aa U<|z7 U U c2<|z8 (bB b jw Zb U U U (qK hb))<|z7 U U c2<|z8 (qe (c:=.bool _) Yn U)<|au U c2 U<|aq U<|zt (s:=43) U (fun c3=>?_) (fun c3=>?_)
       ·refine z7 U U c3<|bd U<|z7 U U c3<|aa U<|z7 U U c3<|z8 (bB x X1 Yg U U U (l6 hx2))<|z7 U U c3<|aI Yu U<|z7 U U c3<|aa U<|z7 U U c3<|z8 (bB k jw Zb U U U (qK hk2))<|z7 U U c3<|z8 (qe (c:=.bool _) Yn U)<|z7 U U c3<|aJ U<|au U c3 U<|z2 ?_
        exact ⟨_,(by repeat (first|with_reducible exact yh _ _|refine dh.up rfl ?_|exact tk)),aL,aE,by unfold tX;simp_all⟩
       ·refine z6 U U c3<|z6 U U c3<|z6 U U c3<|z6 U U c3<|z6 U U c3<|z6 U U c3<|z6 U U c3<|z6 U U c3<|aw U c3 U<|z2 ?_
        exact ⟨_,(by repeat (first|with_reducible exact yh _ _|refine dh.up rfl ?_|exact tk)),aL,aE,by unfold tX;simp_all⟩
      ·refine z6 U U c2<|z6 U U c2<|z6 U U c2<|z6 U U c2<|z6 U U c2<|z6 U U c2<|z6 U U c2<|aw U c2 U<|aq U<|z6 U U U<|z6 U U U<|z6 U U U<|z6 U U U<|z6 U U U<|z6 U U U<|z6 U U U<|z6 U U U<|aw U U U<|z2 ?_
       exact ⟨_,(by repeat (first|with_reducible exact yh _ _|refine dh.up rfl ?_|exact tk)),aL,aE,by unfold tX;simp_all⟩
     ·rintro w hw
      refine zw U (fun cw=>?_) (fun cw=>?_)
      ·refine aW<|ad U<|z2<|aW<|aC U U<|aa U<|z2 ?_
       exact ⟨(x+1,false),oB,b7,aE,⟨hx2,by rw[hsx,show tX f k b x=false by rw[hw] at cw;simpa using cw,Bool.and_false]⟩,by dsimp only;omega⟩
      ·refine zf<|aW<|aC U U<|aa U<|z2 ?_
       exact ⟨(x+1,ok),oB,b7,aE,⟨hx2,by rw[hsx,show tX f k b x=true by rw[hw] at cw;simpa using cw,Bool.and_true]⟩,by dsimp only;omega⟩
    ·obtain rfl:x=f.blocks.length:=by omega
     rw[List.take_of_length_le (by rw[bR];omega),←his] at hok
     refine y4<|ae<|aq U<|z2<|zw U (fun cf=>?_) (fun cf=>?_)
     ·have hf:=GQ (p:=fun a=>isNear f a b) hall hk2 (hok▸cf)
      refine ae<|aa U<|am U<|z2<|zg<|zm (x:=.int _ _) U ?_
      unfold nearD;rw[hf];rfl
     ·refine zf<|aW<|aC U U<|aa U<|z2 ?_
      exact ⟨k+1,bW,aL,aE,⟨hk2,by rw[hsu,←hok,cf];rfl⟩,by omega⟩
 ·obtain rfl:k=f.blocks.length:=by omega
  have hf:(aY f.blocks.length).find? (fun a=>isNear f a b)=none:=by
   rw[List.take_of_length_le (by rw[bR];omega)] at hall
   exact List.find?_eq_none.2 fun a ha=>by have:=List.all_eq_true.1 hall a ha;simpa using this
  refine y4<|ae<|am U<|z2<|zg<|zm (x:=.int _ _) U ?_
  unfold nearD;rw[hf];rfl
end
section
open Go.Proofs.Tryz
open Go.Proofs Go.Lib Go.Shelf Go.RowKit
variable {E:World}
set_option maxRecDepth 20000
theorem zQ (f:ab) (h1:f.vars.length≤1000000000) (h2:f.blocks.length≤1000000000) (h3:eG f.blocks≤1000000000) (h4:∀b∈f.blocks,b.phis.length≤1000000000∧b.insts.length≤1000000000):aP prog E 12 [.agg (bw f)] (.bool (mV f)):=by
 refine zp func12 U (by decide) U<|ae<|y6 (cs:=_) U U U<|ad U<|z2<|ae<|am U<|z2<|zb<|ae<|ak je U Zd U U<|aI Zf U<|aj ju U<|aa U<|z2<|zi<|y5 (γ:=Nat) [1,7,8] (fun k=>[(9,.i k),(3,.i (eG (f.blocks.take k)))]) (fun k=>[]) (fun k=>k≤f.blocks.length) (fun k=>f.blocks.length - k) 0 b7 aE (w2 _) ?_
 rintro k hk
 refine ae<|ap U U<|z2<|zb<|zn U (fun ck=>?_) (fun ck=>?_)
 ·have hk2:k<f.blocks.length:=by simp at ck;omega
  obtain ⟨b,hb⟩:∃b,f.blocks[k]=b:=⟨_,rfl⟩
  have hget:f.blocks[k]?=some b:=by rw[qx hk2,hb]
  have hbl:=h4 b (hb▸w3 hk2)
  have hs1:=m8 f.blocks k hk2
  have hs2:=rB f.blocks (k+1)
  rw[hb] at hs1
  refine zf<|zb<|zi<|ae<|z8 (bB k ju Z2 U U U hget)<|ac Yc Z2 U U<|zu (cs:=[.e,.n,.n,.int .i64 0,.int .i64 0,.int .i64 0,.int .i64 0]) Zh U U<|fun i5=>zj Z2 U U U U U U .head U<|z2<|aW<|aa U<|z8 (zh jr U Zv (by decide) U U)<|z8 (zq (c:=.fro _ _) Yd U ⟨_,.head⟩ U)<|aj Z8 U<|aC U U<|z8 (zh jr U Zw (by decide) U U)<|z8 (zq (c:=.fro _ _) Y3 U ⟨_,.head⟩ U)<|aj Z6 U<|aC U U<|am U<|z2<|aW<|aC U U<|aa U<|z2 ?_
  exact ⟨k+1,bW,⟨rfl,(congrArg (AV.int .i64) (by rw[hs1];omega)),trivial⟩,⟨_,(.drop (.refl _)),rfl⟩,hk2,by omega⟩
 ·obtain rfl:k=f.blocks.length:=by simp at ck;omega
  rw[w4]
  clear h4
  refine y4<|ae<|ak je U Zn U U<|aI Zz U<|aj Z7 U<|z8 (Gv.leq U U)<|aq U<|zt (s:=27) U (fun c1=>?_) (fun c1=>?_)
  ·refine z7 U U c1<|ak je U Zd U U<|z7 U U c1<|aI Zf U<|z7 U U c1<|aj ju U<|z7 U U c1<|z8 (Gv.leq U U)<|au U c1 U<|aq U<|zt (s:=33) U (fun c2=>?_) (fun c2=>?_)
   ·refine z7 U U c2<|aa U<|z7 U U c2<|z8 (Gv.leq U U)<|au U c2 U<|ad U<|z2<|zg<|zm (x:=.bool _) U ?_
    exact jb (by unfold mV;rw[w8];simp only[wh,wm,decide_eq_false_iff_not,Bool.false_eq_true,false_iff] at *;omega)
   ·refine z6 U U c2<|z6 U U c2<|aw U c2 U<|ad U<|z2<|zg<|zm (x:=.bool _) U ?_
    exact jb (by unfold mV;rw[w8];simp only[wh,wm,decide_eq_false_iff_not,Bool.false_eq_true,false_iff] at *;omega)
  ·refine z6 U U c1<|z6 U U c1<|z6 U U c1<|z6 U U c1<|aw U c1 U<|aq U<|z6 U U U<|z6 U U U<|aw U U U<|ad U<|z2<|zg<|zm (x:=.bool _) U ?_
   exact jb (by unfold mV;rw[w8];simp only[wh,wm,decide_eq_false_iff_not,Bool.false_eq_true,false_iff] at *;omega)
def IP (E:World) (f:ab) (n:Nat):Prop:=∀b:Nat,b<f.blocks.length→(f.blocks.length:Int)≤n+gi (b9 (ah f) f.blocks.length) (b:Int) →
  bn prog E 23 [A4 (nq f),.int .i64 b] [] (fun y O=>∃g:Nat,y=.own g (gN f n b).length∧O=[(g,.grow 1 3 (cI (gN f n b)))]∧True)
theorem Bz {f:ab} (hR:bm f) (hn:f.blocks.length≤1000) (n:Nat) (ih:IP E f n):IP E f (n+1):=by
 intro b hb h
 refine bn.exact (γ:=Nat) (x:=fun g=>.own g (gN f (n+1) b).length) (M:=fun g=>[(g,.grow 1 3 (cI (gN f (n+1) b)))]) (p:=fun _=>True) ?_
 have hkl:=fun k=>Gp hR (n:=n) (b:=(b:Int)) ⟨by omega,by omega⟩ k
 have htl:=gY f
 have hall:=zB f n (b:Int)
 unfold IP A4 at ih
 unfold A4
 refine zp func23 U (by decide) U<|ae<|cE U<|z2<|ae<|aa U<|ay.buildSliceO (cps:=[(0,[_])]) (rs:=[_]) cA U U U U U<|fun i8=>z8 (ei U)<|z2<|zb<|ae<|bd U<|aj X1 U<|aa U<|z2<|zi<|y5 (γ:=Nat × Nat) [0,1,10] (fun g=>[(11,.i g.1),(5,.own g.2 (tW f n b g.1).length)]) (fun g=>[(g.2,.grow 1 3 (cI (tW f n b g.1)))]) (fun g=>g.1≤f.blocks.length) (fun g=>f.blocks.length - g.1) (0,i8) b7 aE (w2 _) ?_
 rintro ⟨k,io⟩ hk
 try dsimp only at *
 refine ae<|ap U U<|z2<|zb<|zn U (fun ck=>?_) (fun ck=>?_)
 ·have hk2:k<f.blocks.length:=by omega
  have hsu:=D0 (n:=n) (b:=(b:Int)) hk2
  have hlk:=hkl k
  have hlk1:=hkl (k+1)
  have hkd:tV f b k=(!decide ((k:Int)=b)&&(domF f b k&&decide (nearD f k=b))):=rfl
  refine zf<|zb<|zi<|ae<|aa U<|am U<|z2<|zb<|yb (γ:=Bool) [0,1,5,6,10,11] (fun u=>[(32,.bool u)]) (fun u=>[(io,.grow 1 3 (cI (tW f n b k)))]) (fun u=>u=tV f b k) ?_ (fun _ _ h=>h) ?_
  ·refine aW<|aa U<|aa U<|aO U U<|aq U<|zt (s:=17) U (fun c3=>?_) (fun c3=>?_)
   ·refine z7 U U c3<|bd U<|z7 U U c3<|aa U<|z7 U U c3<|z8 (bB b X1 Yg U U U (l6 hb))<|z7 U U c3<|aI Yu U<|z7 U U c3<|aa U<|z7 U U c3<|z8 (bB k jw Zb U U U (qK hk2))<|z7 U U c3<|z8 (qe (c:=.bool _) Yn U)<|au U c3 U<|aq U<|zt (s:=26) U (fun c4=>?_) (fun c4=>?_)
    ·refine z7 U U c4<|bd U<|z7 U U c4<|aa U<|z7 U U c4<|ze (pH f hn k hk2) U<|z7 U U c4<|aa U<|z7 U U c4<|ao U U<|au U c4 U<|z2 ?_
     exact ⟨_,(by repeat (first|with_reducible exact yh _ _|refine dh.up rfl ?_|exact oB)),aL,aE,by rw[hkd];simp_all⟩
    ·refine z6 U U c4<|z6 U U c4<|z6 U U c4<|z6 U U c4<|z6 U U c4<|aw U c4 U<|z2 ?_
     exact ⟨_,(by repeat (first|with_reducible exact yh _ _|refine dh.up rfl ?_|exact oB)),aL,aE,by rw[hkd];simp_all⟩
   ·refine z6 U U c3<|z6 U U c3<|z6 U U c3<|z6 U U c3<|z6 U U c3<|z6 U U c3<|z6 U U c3<|aw U c3 U<|aq U<|z6 U U U<|z6 U U U<|z6 U U U<|z6 U U U<|z6 U U U<|aw U U U<|z2 ?_
    exact ⟨_,(by repeat (first|with_reducible exact yh _ _|refine dh.up rfl ?_|exact oB)),aL,aE,by rw[hkd];simp_all⟩
  ·rintro u hu
   refine zw U (fun cu=>?_) (fun cu=>?_)
   ·have hkc:tV f b k=true:=hu▸cu
    rw[if_pos hkc] at hsu
    have hlv:=ID hR (b:=(b:Int)) (c:=(k:Int)) ⟨⟨by omega,by omega⟩,hkc⟩
    have hol:=sS hR n (b:=(k:Int)) ⟨by omega,by omega⟩
    refine aW<|bL U<|bd U<|aa U<|y3 U (zo (.r (.rest _))) (ih k hk2 (by omega)) ?_
    rintro r36 O36 ⟨i36,rfl,rfl,_⟩
    refine zd (aR.knowI (t:=36) U .head U)<|yg (k:=1) j7 Y5 U U U U U (fun _=>.head) (by rw[aF];omega) (by decide) (by rw[kJ];exact bX _) (by rw[w6];show (_+_)*8≤_;omega) (by rw[w6];omega)<|fun i37=>z8 (ei U)<|z2<|aW<|aC U U<|aa U<|z2 ?_
    exact ⟨(k+1,i37),bW,⟨rfl,(congrArg (AV.own i37) (by rw[hsu,w5,w6])),trivial⟩,⟨_,(.refl _),(by rw[hsu,←kK,←kJ (gN f n k)]<;>rfl)⟩,hk2,by dsimp only;omega⟩
   ·have hkc:tV f b k=false:=by rw[←hu];simpa using cu
    rw[if_neg (by rw[hkc];decide),wc] at hsu
    refine zf<|aW<|aC U U<|aa U<|z2 ?_
    exact ⟨(k+1,io),bW,⟨rfl,(congrArg (AV.own io) (by rw[hsu])),trivial⟩,⟨_,(.refl _),(by rw[hsu])⟩,hk2,by dsimp only;omega⟩
 ·obtain rfl:k=f.blocks.length:=by omega
  rw[hall]
  refine y4<|ae<|bL U<|z8 (ei U)<|z2<|zg<|zm (x:=.own _ _) U ?_
  exact ⟨io,rfl,⟨_,.refl _,rfl⟩,trivial⟩
theorem ou {f:ab} (hR:bm f) (hn:f.blocks.length≤1000):∀n:Nat,IP E f n
 |0=>fun b hb h=>by have:=hR.lev hb;omega
 |n+1=>Bz hR hn n (ou hR hn n)
end
section
open Go.Proofs.Tryz
open Go.Proofs Go.Lib Go.Shelf Go.RowKit
variable {E:World}
set_option maxRecDepth 20000
end
section
open Go.Proofs.Tryz
open Go.Proofs Go.Lib Go.Shelf Go.RowKit
variable {E:World}
set_option maxRecDepth 20000
def jG (r:sH):List AV:=[.int .i64 r.a,.int .i64 r.b,.int .i64 r.n]
theorem GR (l:List sH):(l.map jG).flatten.length=l.length*3:=by
 induction l with
 |nil=>rfl
 |cons o r ih=>rw[List.map_cons,List.flatten_cons,w5,ih,List.length_cons];show 3+_=_;omega
theorem GT {f:ab} {v:Int} (h:v<f.vars.length∧0≤v):bt f v=true:=by unfold bt;simpa using ⟨h.2,h.1⟩
end
section
open Go.Proofs.Tryz
open Go.Proofs Go.Lib Go.Shelf Go.RowKit
variable {E:World}
set_option maxRecDepth 20000
end
section
open Go.Proofs.Tryz
open Go.Proofs Go.Lib Go.Shelf Go.RowKit
variable {E:World}
set_option maxRecDepth 20000
end
section
open Go.Proofs.Tryz
open Go.Proofs Go.Lib Go.Shelf Go.RowKit
variable {E:World}
set_option maxRecDepth 20000
end
section
open Go.Proofs.Tryz
open Go.Proofs Go.Lib Go.Shelf Go.RowKit
variable {E:World}
set_option maxRecDepth 20000
section
variable {f:ab} {K:KS} {t pr a9 a10:AV} {iw js jl jm jp:Nat} {M:List Int}
variable (hv:f.vars.length≤1000)
include hv
end
end
section
open Go.Proofs.Tryz
open Go.Proofs Go.Lib Go.Shelf Go.RowKit
variable {E:World}
set_option maxRecDepth 20000
section
variable {f:ab} {K:KS} {t pr a9 a10:AV} {iw js jl jm jp:Nat} {M:List Int}
variable (hv:f.vars.length≤1000)
include hv
end
end
section
open Go.Proofs.Tryz
open Go.Proofs Go.Lib Go.Shelf Go.RowKit
variable {E:World}
set_option maxRecDepth 20000
theorem BA (l:List sH):∀x∈l.map jG,x.length=3:=fun x hx=>by obtain ⟨o,_,rfl⟩:=List.mem_map.1 hx;rfl
theorem GU {f:ab} {i:Int} (h:¬(bj (ah f) f.blocks.length i).length=1):jJ f i=[]:=by
 unfold jJ
 split
 ·rename_i p e;rw[e] at h;exact absurd rfl h
 ·rfl
set_option linter.defProp false
def yu:=@dh.up
end
end Go.Proofs.YtbbonnfjealmpaaGreatDoor
