/- A program whose branches go as a row says, as the program makes it. Of programs that are little. -/
import Derived.Test.YtjpnhkmfhlnpcaaGreatDoorZh
import Derived.Test.YtjpnhkmfhlnpcaaGreatDoorZk
import Derived.Test.YtjpnhkmfhlnpcaaGreatDoorZi
import Derived.Test.YtjpnhkmfhlnpcaaGreatDoorZd
import Derived.Test.YtjpnhkmfhlnpcaaGreatDoorZg
set_option linter.unusedVariables false
set_option linter.unusedSimpArgs false
set_option linter.unusedSectionVars false
namespace Go.Proofs.YtjpnhkmfhlnpcaaGreatDoor
section
open Go.Proofs.Tryz
open Go.Proofs Go.Lib Go.Shelf Go.RowKit
variable {E:World}
set_option maxRecDepth 20000
theorem Ev:∀l:List Int,cI l=(l.map b5).flatten
 |[]=>rfl
 |x::l=>by rw[List.map_cons,List.flatten_cons,←Ev l];rfl
def de (nm:Int→Int) (fr:List Int) (p:bu) (k:Nat):List (Int × Int):=((iF p).take k).filter fun z=>decide (z.1∈fr∧0≤nm z.1)
theorem CM (p:bu) (fr num:List Int) (nm:Int→Int) (hl:p.from_.length=p.args.length) (hl2:p.args.length≤1000) (hfr:fr.length≤100000) (hn:∀b∈p.from_,0≤b∧num[b.toNat]?=some (nm b)) :
  aZ prog E 42 [.agg (bd p),.fro 1 (fr.map b5),.fro 1 (num.map b5)] (.agg (bd (cL nm fr p))):=by
 have hpl:(iF p).length=p.args.length:=by unfold iF;rw[List.length_zip,hl];omega
 refine zo func42 Z (by decide) Z<|ah<|yb (cs:=_) Z Z Z<|zy (cs:=[.int .i64 0,.raw (.slice none 0 0),.raw (.slice none 0 0)]) Ze Z Z<|fun i6=>z7<|ah<|aq jq Z je Z Z<|aE jj Z<|za (ya (cps:=[(0,[_])]) (rs:=[_,.raw (.slice none 0 0),.raw (.slice none 0 0)]) I4 Z Z Z)<|zy (cs:=[.int .i64 0,.raw (.slice none 0 0),.raw (.slice none 0 0)]) Ze Z Z<|fun i7=>zt Z1 Z Z Z Z Z Z .head Z<|z7<|zb<|ah<|aq jq Z jm Z Z<|aM jw Z<|ae jd Z<|aa Z<|z7<|di (off:=1) (k:=1) (T:=3) (fun _=>.head) Z<|fun ia=>di (off:=2) (k:=1) (T:=3) (fun _=>.t1) Z<|fun ib=>yc (zn (zp .t1))<|yc (zn (zp .t2))<|zg<|y7 (γ:=Nat × Nat × Nat) [1,2,3,6,7,14,15] (fun g=>[(16,.int .i64 g.1)]) (fun g=>[(i7,.cells 73 [.int .i64 p.dst,.own g.2.1 (de nm fr p g.1).length,.own g.2.2 (de nm fr p g.1).length]),(g.2.1,.grow 1 3 (cI ((de nm fr p g.1).map (·.2)))),(g.2.2,.grow 1 3 (cI ((de nm fr p g.1).map fun z=>nm z.1))),(i6,.cells 73 [.int .i64 0,.raw (.slice none 0 0),.raw (.slice none 0 0)])]) (fun g=>g.1≤p.from_.length) (fun g=>p.from_.length - g.1) (0,ia,ib) aW aN (qt _) ?_
 rintro ⟨k,ia,ib⟩ hk
 try dsimp only at *
 refine ah<|ay Z Z<|z7<|zb<|zm Z (fun ck=>?_) (fun ck=>?_)
 ·have hk2:k<p.from_.length:=by omega
  obtain ⟨b,hb⟩:∃b,p.from_[k]=b:=⟨_,rfl⟩
  obtain ⟨a,ha⟩:∃a,p.args[k]=a:=⟨_,rfl⟩
  have hgf:p.from_[k]?=some b:=by rw[qq hk2,hb]
  have hga:p.args[k]?=some a:=by rw[qq (by omega),ha]
  obtain ⟨n0,hnb⟩:=hn b (hb▸qu hk2)
  have hz:(iF p).take (k+1)=(iF p).take k++[(b,a)]:=by
   have e:(iF p)[k]?=some (b,a):=by
    unfold iF
    rw[List.getElem?_zip_eq_some]
    exact ⟨hgf,hga⟩
   rw[List.take_add_one,e];rfl
  have hno:¬(b∈fr∧0≤nm b)→de nm fr p (k+1)=de nm fr p k:=fun h=>by
   unfold de
   rw[hz,List.filter_append,List.filter_cons,if_neg (by simpa using h)];simp
  have hye:b∈fr∧0≤nm b→de nm fr p (k+1)=de nm fr p k++[(b,a)]:=fun h=>by
   unfold de
   rw[hz,List.filter_append,List.filter_cons,if_pos (by simpa using h)];rfl
  refine ze<|zb<|zg<|ah<|aa Z<|za (cH k jd je Z Z Z hgf)<|aE jj Z<|aw Z<|aw Z<|z7<|ah<|bC Z<|aa Z<|zi (pu fr b (by omega)) Z<|ai Z<|zk (s:=24) Z (fun c1=>?_) (fun c1=>?_)
  ·refine z8 Z Z c1<|bC Z<|z8 Z Z c1<|aa Z<|z8 Z Z c1<|za (cH b.toNat jd je Z Z (by omega) hnb)<|z8 Z Z c1<|aE jj Z<|z8 Z Z c1<|za (ql Z Z)<|ap Z c1 Z<|z7<|zm Z (fun c2=>?_) (fun c2=>?_)
   ·have hc:b∈fr∧0≤nm b:=⟨by simpa using c1,by omega⟩
    have hkl:(de nm fr p k).length≤k:=by unfold de;refine Nat.le_trans (List.length_filter_le _ _) ?_;rw[w3];omega
    have h1:(cI ((de nm fr p k).map fun z=>nm z.1)).length=(de nm fr p k).length*1:=by rw[aJ,qx];omega
    have h2:(cI ((de nm fr p k).map (·.2))).length=(de nm fr p k).length*1:=by rw[aJ,qx];omega
    have e1:cI ((de nm fr p k).map fun z=>nm z.1)++[AV.int .i64 (nm b)]=cI ((de nm fr p (k+1)).map fun z=>nm z.1):=by rw[hye hc,List.map_append,←oM];rfl
    have e2:cI ((de nm fr p k).map (·.2))++[AV.int .i64 a]=cI ((de nm fr p (k+1)).map (·.2)):=by rw[hye hc,List.map_append,←oM];rfl
    have e3:(de nm fr p (k+1)).length=(de nm fr p k).length+1:=by rw[hye hc,qw];rfl
    refine yq (γ:=Nat × Nat) [1,2,3,6,7,14,15,16] (fun g=>[]) (fun g=>[(i7,.cells 73 [.int .i64 p.dst,.own g.1 (de nm fr p (k+1)).length,.own g.2 (de nm fr p (k+1)).length]),(g.1,.grow 1 3 (cI ((de nm fr p (k+1)).map (·.2)))),(g.2,.grow 1 3 (cI ((de nm fr p (k+1)).map fun z=>nm z.1))),(i6,.cells 73 [.int .i64 0,.raw (.slice none 0 0),.raw (.slice none 0 0)])]) (fun g=>True) ?_ (fun _ _ h=>h) ?_
    ·refine zq (fun j=>Nat.beq j 18||Nat.beq j 20) (by kernel_rfl) Z (zu (.r (.rest _)))<|ak 0 Z (zc jq Z jm (by decide) Z Z)<|ak 1 Z (zj (c:=.own _ _) jw Z ⟨_,.head⟩ Z)<|ak 2 Z (vu Z)<|ak 3 Z (d9 Z)<|ak 4 Z (cH b.toNat jd je Z Z (by omega) hnb)<|ak 5 Z (gH jj Z)<|ak 8 Z (zc jq Z jm (by decide) Z Z)<|ak 9 Z (zj (c:=.own _ _) jw Z ⟨_,.head⟩ Z)<|yr (i:=10) Z (by kernel_rfl) (by kernel_rfl) (by kernel_rfl) (by kernel_rfl) (eK jq Z jm Z Z)<|yr (i:=11) Z (by kernel_rfl) (by kernel_rfl) (by kernel_rfl) (by kernel_rfl) (lL jw Z)<|yr (i:=12) Z (by kernel_rfl) (by kernel_rfl) (by kernel_rfl) (by kernel_rfl) (d9 Z)<|yr (i:=13) Z (by kernel_rfl) (by kernel_rfl) (by kernel_rfl) (by kernel_rfl) (cH k jd je Z Z Z hga)<|yr (i:=14) Z (by kernel_rfl) (by kernel_rfl) (by kernel_rfl) (by kernel_rfl) (gH jj Z)<|qc (i:=6) (j:=15) Z Z (by kernel_rfl) ?_ ?_
     ·refine yf (rows:=[[_]]) gV Z Z Z Z Z<|z7<|qc (i:=7) (j:=15) Z Z (by kernel_rfl) ?_ ?_
      ·refine ym (k:=1) jd Zo Z Z Z Z Z (fun _=>.t1) h1 (by decide) Z (by show (_+1)*8≤_;omega) (by show _+1≤_;omega)<|fun i38=>z7<|ak 17 Z (zc jq Z jm (by decide) Z Z)<|bO 15 Z<|yf (rows:=[[_]]) gV Z Z Z Z Z<|z7<|bO 16 Z<|ym (k:=1) jd Zo Z Z Z Z Z (fun _=>.head) h2 (by decide) Z (by show (_+1)*8≤_;omega) (by show _+1≤_;omega)<|fun i47=>z7<|yi<|yk (i:=18) Z (by kernel_rfl) (by kernel_rfl)<|yg (l:=[_]) (new:=[_,_,_]) jm Z Z Z Z Z Z .head Z Z<|z7<|yk (i:=19) Z (by kernel_rfl) (by kernel_rfl)<|za (zc jq Z jm (by decide) Z Z)<|z7<|yk (i:=20) Z (by kernel_rfl) (by kernel_rfl)<|yg (l:=[_]) (new:=[_,_,_]) jm Z Z Z Z Z Z .head Z Z<|z7<|yl (by kernel_rfl) ?_
       exact ⟨(i47,i38),vw,trivial,⟨_,(.refl _),by rw[←e1,←e2,e3];rfl⟩,trivial⟩
      ·refine yf (rows:=[[_]]) gV Z Z Z Z Z<|z7<|bO 7 Z<|ym (k:=1) jd Zo Z Z Z Z Z (fun _=>.t1) h1 (by decide) Z (by show (_+1)*8≤_;omega) (by show _+1≤_;omega)<|fun i38=>z7<|ak 17 Z (zc jq Z jm (by decide) Z Z)<|bO 16 Z<|ym (k:=1) jd Zo Z Z Z Z Z (fun _=>.head) h2 (by decide) Z (by show (_+1)*8≤_;omega) (by show _+1≤_;omega)<|fun i47=>z7<|yi<|yk (i:=18) Z (by kernel_rfl) (by kernel_rfl)<|yg (l:=[_]) (new:=[_,_,_]) jm Z Z Z Z Z Z .head Z Z<|z7<|yk (i:=19) Z (by kernel_rfl) (by kernel_rfl)<|za (zc jq Z jm (by decide) Z Z)<|z7<|yk (i:=20) Z (by kernel_rfl) (by kernel_rfl)<|yg (l:=[_]) (new:=[_,_,_]) jm Z Z Z Z Z Z .head Z Z<|z7<|yl (by kernel_rfl) ?_
       exact ⟨(i47,i38),vw,trivial,⟨_,(.refl _),by rw[←e1,←e2,e3];rfl⟩,trivial⟩
     ·refine yf (rows:=[[_]]) gV Z Z Z Z Z<|z7<|bO 6 Z<|yf (rows:=[[_]]) gV Z Z Z Z Z<|z7<|bO 7 Z<|ym (k:=1) jd Zo Z Z Z Z Z (fun _=>.t1) h1 (by decide) Z (by show (_+1)*8≤_;omega) (by show _+1≤_;omega)<|fun i38=>z7<|ak 17 Z (zc jq Z jm (by decide) Z Z)<|bO 16 Z<|ym (k:=1) jd Zo Z Z Z Z Z (fun _=>.head) h2 (by decide) Z (by show (_+1)*8≤_;omega) (by show _+1≤_;omega)<|fun i47=>z7<|yi<|yk (i:=18) Z (by kernel_rfl) (by kernel_rfl)<|yg (l:=[_]) (new:=[_,_,_]) jm Z Z Z Z Z Z .head Z Z<|z7<|yk (i:=19) Z (by kernel_rfl) (by kernel_rfl)<|za (zc jq Z jm (by decide) Z Z)<|z7<|yk (i:=20) Z (by kernel_rfl) (by kernel_rfl)<|yg (l:=[_]) (new:=[_,_,_]) jm Z Z Z Z Z Z .head Z Z<|z7<|yl (by kernel_rfl) ?_
      exact ⟨(i47,i38),vw,trivial,⟨_,(.refl _),by rw[←e1,←e2,e3];rfl⟩,trivial⟩
    ·rintro ⟨ia,ib⟩ _
     refine bi<|aC Z Z<|aa Z<|z7 ?_
     exact ⟨(k+1,ia,ib),iM,aW,aN,hk2,by dsimp only;omega⟩
   ·have hc:¬(b∈fr∧0≤nm b):=fun h=>by omega
    refine ze<|bi<|aC Z Z<|aa Z<|z7 ?_
    exact ⟨(k+1,ia,ib),iM,aW,⟨_,(.refl _),by rw[hno hc]⟩,hk2,by dsimp only;omega⟩
  ·have hc:¬(b∈fr∧0≤nm b):=fun h=>by simp[h.1] at c1
   refine z6 Z Z c1<|z6 Z Z c1<|z6 Z Z c1<|z6 Z Z c1<|z6 Z Z c1<|al Z c1 Z<|z7<|yp Z Z<|ze<|bi<|aC Z Z<|aa Z<|z7 ?_
   exact ⟨(k+1,ia,ib),iM,aW,⟨_,(.refl _),by rw[hno hc]⟩,hk2,by dsimp only;omega⟩
 ·obtain rfl:k=p.from_.length:=by omega
  have hkt:de nm fr p p.from_.length=gW nm fr p:=by unfold de gW;rw[List.take_of_length_le (by omega)]
  rw[hkt,Ev,Ev]
  refine yc (aX.knowC (off:=1) (rows:=((gW nm fr p).map (·.2)).map b5) .t1 .head Z (by intro r hr;obtain ⟨z,_,rfl⟩:=List.mem_map.1 hr;rfl) (by decide) (by simp))<|yc (aX.knowC (off:=2) (rows:=((gW nm fr p).map fun z=>nm z.1).map b5) .t1 .head Z (by intro r hr;obtain ⟨z,_,rfl⟩:=List.mem_map.1 hr;rfl) (by decide) (by simp))<|zz<|ah<|za (qj Y0 Z1 Z ⟨_,.head⟩ Z)<|zt Z1 Z Z Z Z Z Z .t1 Z<|z7<|zf<|dh.c1 Z ⟨_,.t1⟩ Y0 Z1 Z ?_
  rfl
end
section
open Go.Proofs.Tryz
variable {α:Type}
def mg (k:Int):List (Int × List α)→List α
 |[]=>[]
 |(k',r)::es=>if k=k' then r else mg k es
def ms (k:Int) (r:List α):List (Int × List α)→List (Int × List α)
 |[]=>[(k,r)]
 |(k',r')::es=>if k=k' then (k,r)::es else (k',r')::ms k r es
def kv (k:Int):Value:=.int .i64 k
section
variable {E:World} {P:Program} {ops:Array Oper} {K:aO→OL→Prop} {env:aO} {O O' O'':OL} {rest:List Oper} {n:Nat}
variable {d ty:Nat} {pos:String} {af:Array Edge} {x y z:Operand} {t u e T kt:TypeId} {b:Nat}
end
end
section
open Go.Proofs.Tryz
open Go.Proofs
section
variable {E:World} {P:Program} {ops:Array Oper} {K:aO→OL→Prop} {env:aO} {O O' O'':OL} {rest:List Oper} {n:Nat}
variable {d ty:Nat} {pos:String} {af:Array Edge} {x y z:Operand} {t u e T:TypeId}
end
end
section
open Go.Proofs.Tryz
open Go.Proofs
end
section
open Go.Proofs.Tryz
open Go.Proofs
end
section
open Go.Proofs.Tryz
def ur (X:OL):bF:=.heapG (fun I L=>∃L',bS I X L'∧L.Perm L') fun I J L h hp=>by obtain ⟨L',h1,h2⟩:=hp;exact ⟨L',h1.mono h,h2⟩
section
variable {E:World} {env:aO} {O O1 O':OL} {m i:Nat} {o:bF} {X X':OL}
theorem aX.bagNew:aX E env O env ((0,ur [])::O):=fun I F ρ w h1 ⟨ht,L,hL,hS⟩=>⟨I,.refl _,h1,ht,L,⟨[],L,rfl,⟨[],rfl,.refl _⟩,hL⟩,hS⟩
theorem aX.bagOut (hX:X.Perm ((i,o)::X')) (hO:gB O m (ur X) (ur X') O'):aX E env O env ((i,o)::O'):=fun I F ρ w h1 ⟨ht,L,hL,hS⟩=>by
 obtain ⟨A,B,hp,⟨L',hA,hpA⟩,hback⟩:=hO.rep hL
 obtain ⟨L2,h2,h3⟩:=hA.perm hX
 obtain ⟨C,D,rfl,h4,h5⟩:=h2
 obtain ⟨L3,h6,h7⟩:=hback (G.le.refl I) (A':=D) ⟨D,h5,.refl _⟩
 refine ⟨I,.refl _,h1,ht,C++L3,⟨C,L3,Z,h4,h6⟩,hS.perm (List.Perm.append_right F ?_)⟩
 refine (h7.append_left C).trans ?_
 rw[←qs]
 exact (((hpA.trans h3).append_right B).symm).trans hp.symm
theorem aX.bagIn (hP:dv O i o O1) (hX:((i,o)::X).Perm X') (hO:gB O1 m (ur X) (ur X') O'):aX E env O env O':=fun I F ρ w h1 ⟨ht,L,hL,hS⟩=>by
 obtain ⟨A,B,hp,hA,hB⟩:=hP.rep hL
 obtain ⟨A2,B2,hp2,⟨L',h3,h4⟩,hback⟩:=hO.rep hB
 obtain ⟨L4,h5,h6⟩:=(show bS I ((i,o)::X) (A++L') from ⟨A,L',rfl,hA,h3⟩).perm hX
 obtain ⟨L5,h7,h8⟩:=hback (G.le.refl I) (A':=A++A2) ⟨L4,h5,(h4.append_left A).trans h6⟩
 refine ⟨I,.refl _,h1,ht,L5,h7,hS.perm (List.Perm.append_right F ?_)⟩
 refine h8.trans ?_
 rw[qs]
 exact ((hp2.append_left A).symm).trans hp.symm
end
theorem sx {α β γ:Type} (g:α→β→γ):∀(xs:List α) (ys:List β) (j:Nat) {a:α} {b:β},xs[j]?=some a→ys[j]?=some b→∃X,(List.zipWith g xs ys).Perm (g a b::X)∧∀a' b',(g a' b'::X).Perm (List.zipWith g (xs.set j a') (ys.set j b'))
 |[],_,j,_,_,h,_=>by simp at h
 |_::_,[],j,_,_,_,h=>by simp at h
 |x::xs,y::ys,0,a,b,h1,h2=>by
  simp at h1 h2
  subst h1 h2
  exact ⟨List.zipWith g xs ys,.refl _,fun _ _=>.refl _⟩
 |x::xs,y::ys,j+1,a,b,h1,h2=>by
  obtain ⟨X,h3,h4⟩:=sx g xs ys j (by simpa using h1) (by simpa using h2)
  refine ⟨g x y::X,(h3.cons _).trans (.swap _ _ _),fun a' b'=>?_⟩
  exact (List.Perm.swap _ _ _).trans ((h4 a' b').cons _)
section
variable {E:World} {env:aO} {O O1 O':OL} {m i k:Nat} {T:TypeId} {cs cs':List AV} {X:OL}
end
end
section
open Go.Proofs.Tryz
open Go.Proofs Go.Lib Go.Shelf Go.RowKit
set_option maxRecDepth 20000
variable {E:World}
theorem ut {α β γ:Type} (g:α→β→γ) {xs:List α} {ys:List β} {k:Nat} (a:α) (h:xs.length=k) (hk:k<ys.length):List.zipWith g (xs++[a]) (ys.take (k+1))=List.zipWith g xs (ys.take k)++[g a ys[k]]:=by
 rw[qr hk,List.zipWith_append (by rw[w3];omega)];rfl
end
section
open Go.Proofs.Tryz
open Go.Proofs Go.Lib Go.Shelf Go.RowKit
set_option maxRecDepth 20000
variable {E:World}
def blkP (i:Nat) (b:aB):List AV:=[.str b.name,.own i b.phis.length,.fro 4 (b.insts.map bz),.int .i64 b.term.kind,.int .i64 b.term.var,.int .i64 b.term.to0,.int .i64 b.term.to1]
def fA (ids:List Nat) (bs:List aB):List AV:=(List.zipWith blkP ids bs).flatten
def GG (i:Nat) (b:aB):Nat × bF:=(i,.grow 3 73 (b.phis.map bd).flatten)
def gl (ids:List Nat) (bs:List aB):OL:=List.zipWith GG ids bs
theorem v7 {ids:List Nat} {bs:List aB} {k:Nat} (a:Nat) (h:ids.length=k) (hk:k<bs.length):fA ids (bs.take k)++[blkP a bs[k]].flatten=fA (ids++[a]) (bs.take (k+1)):=by
 unfold fA;rw[ut blkP a h hk,List.flatten_append]
theorem v8 {ids:List Nat} {bs:List aB} {k:Nat} (a:Nat) (h:ids.length=k) (hk:k<bs.length):(GG a bs[k]::gl ids (bs.take k)).Perm (gl (ids++[a]) (bs.take (k+1))):=by
 unfold gl;rw[ut GG a h hk];exact (List.perm_append_comm (l₁:=[_]))
theorem lw (i:Nat) (ids:List Nat) (b:aB) (bs:List aB):fA (i::ids) (b::bs)=blkP i b++fA ids bs:=by unfold fA;rw[List.zipWith_cons_cons,List.flatten_cons]
theorem kF:∀{ids:List Nat} {bs:List aB},ids.length=bs.length→(fA ids bs).length=bs.length*7
 |[],[],_=>rfl
 |i::ids,b::bs,h=>by
  have:=kF (ids:=ids) (bs:=bs) (by simpa using h)
  rw[lw,qw,this,List.length_cons,Nat.add_mul]
  show 7+_=_
  omega
theorem rL:∀{ids:List Nat} {bs:List aB} {p i:Nat} {b:aB},ids[p]?=some i→bs[p]?=some b→((fA ids bs).drop (p*7)).take 7=blkP i b
 |[],_,p,_,_,h,_=>by simp at h
 |_::_,[],p,_,_,_,h=>by simp at h
 |j::ids,c::bs,0,i,b,h1,h2=>by
  simp at h1 h2
  subst h1 h2
  rw[lw];rfl
 |j::ids,c::bs,p+1,i,b,h1,h2=>by
  have h:=rL (ids:=ids) (bs:=bs) (p:=p) (i:=i) (b:=b) (by simpa using h1) (by simpa using h2)
  rw[lw,show (p+1)*7=(p*7)+7 by omega]
  exact h
set_option maxHeartbeats 4000000 in
theorem CN (f:ab) (hf:small f):bY prog E 21 [.agg (bQ f)] [] (fun x O'=>∃g:Nat × List Nat,x=.agg [.fro 2 (f.vars.map b7),.fro 1 (f.params.map b5),.own g.1 f.blocks.length]∧O'=[(g.1,.grow 7 60 (fA g.2 f.blocks)),(0,ur (gl g.2 f.blocks))]∧g.2.length=f.blocks.length):=by
 refine bY.exact (γ:=Nat × List Nat) (x:=fun g=>.agg [.fro 2 (f.vars.map b7),.fro 1 (f.params.map b5),.own g.1 f.blocks.length]) (M:=fun g=>[(g.1,.grow 7 60 (fA g.2 f.blocks)),(0,ur (gl g.2 f.blocks))]) (p:=fun g=>g.2.length=f.blocks.length) ?_
 obtain ⟨hf1,hf2,hf3,hf4,hf5⟩:=hf
 refine zo func21 Z (by decide) Z<|ah<|yb (cs:=_) Z Z Z<|zy (cs:=[.raw (.slice none 0 0),.raw (.slice none 0 0),.raw (.slice none 0 0)]) Zq Z Z<|fun i2=>z7<|zb<|yq (γ:=Nat) [1,2] (fun i=>[(3,.po i 0)]) (fun i=>[(i,.cells 26 [.fro 2 (f.vars.map b7),.fro 1 (f.params.map b5),.raw (.slice none 0 0)]),(i2,.cells 26 [.raw (.slice none 0 0),.raw (.slice none 0 0),.raw (.slice none 0 0)])]) (fun i=>True) ?_ (fun _ _ h=>h) ?_
 ·refine zq (fun j=>Nat.beq j 8) (by kernel_rfl) Z (zu (.rest _))<|ak 0 Z (eK ji Z Y6 Z Z)<|ak 1 Z (lL Yg Z)<|ak 3 Z (eK ji Z jm Z Z)<|ak 4 Z (lL jw Z)<|qc (i:=2) (j:=7) Z Z (by kernel_rfl) ?_ ?_
  ·refine zi (gI _ (by omega)) Z<|z7<|qc (i:=5) (j:=7) Z Z (by kernel_rfl) ?_ ?_
   ·refine zi (bZ _ (by omega)) Z<|z7<|ak 6 Z (ya (cps:=[(0,[_]),(1,[_])]) (rs:=[_,_,.raw (.slice none 0 0)]) Co Z Z Z)<|bO 7 Z<|zy (cs:=[.raw (.slice none 0 0),.raw (.slice none 0 0),.raw (.slice none 0 0)]) Zq Z Z<|fun i3=>z7<|yi<|yk (i:=8) Z (by kernel_rfl) (by kernel_rfl)<|zt jk Z Z Z Z Z Z .head Z<|z7<|yl (by kernel_rfl) ?_
    exact ⟨i3,eE,aW,aN,trivial⟩
   ·refine zy (cs:=[.raw (.slice none 0 0),.raw (.slice none 0 0),.raw (.slice none 0 0)]) Zq Z Z<|fun i3=>z7<|bO 5 Z<|zi (bZ _ (by omega)) Z<|z7<|ak 6 Z (ya (cps:=[(0,[_]),(1,[_])]) (rs:=[_,_,.raw (.slice none 0 0)]) Co Z Z Z)<|yi<|yk (i:=8) Z (by kernel_rfl) (by kernel_rfl)<|zt jk Z Z Z Z Z Z .head Z<|z7<|yl (by kernel_rfl) ?_
    exact ⟨i3,eE,aW,aN,trivial⟩
  ·refine zy (cs:=[.raw (.slice none 0 0),.raw (.slice none 0 0),.raw (.slice none 0 0)]) Zq Z Z<|fun i3=>z7<|bO 2 Z<|zi (gI _ (by omega)) Z<|z7<|bO 5 Z<|zi (bZ _ (by omega)) Z<|z7<|ak 6 Z (ya (cps:=[(0,[_]),(1,[_])]) (rs:=[_,_,.raw (.slice none 0 0)]) Co Z Z Z)<|yi<|yk (i:=8) Z (by kernel_rfl) (by kernel_rfl)<|zt jk Z Z Z Z Z Z .head Z<|z7<|yl (by kernel_rfl) ?_
   exact ⟨i3,eE,aW,aN,trivial⟩
 ·rintro i3 _
  refine zb<|ah<|aq ji Z Z0 Z Z<|aM Z6 Z<|ae jl Z<|aa Z<|z7<|di (off:=2) (k:=7) (T:=60) (fun _=>.head) Z<|fun ib=>yc aX.bagNew<|yc (zn (zp .t1))<|zg<|y7 (γ:=Nat × Nat × List Nat) [2,3,19,20] (fun g=>[(21,.int .i64 g.1)]) (fun g=>[(g.2.1,.grow 7 60 (fA g.2.2 (f.blocks.take g.1))),(0,ur (gl g.2.2 (f.blocks.take g.1))),(i3,.cells 26 [.fro 2 (f.vars.map b7),.fro 1 (f.params.map b5),.own g.2.1 g.1]),(i2,.cells 26 [.raw (.slice none 0 0),.raw (.slice none 0 0),.raw (.slice none 0 0)])]) (fun g=>g.1≤f.blocks.length∧g.2.2.length=g.1) (fun g=>f.blocks.length - g.1) (0,ib,[]) aW aN (⟨qt _,Z⟩) ?_
  rintro ⟨k,ib,ids⟩ ⟨hk,hids⟩
  try dsimp only at *
  refine ah<|ay Z Z<|z7<|zb<|zm Z (fun ck=>?_) (fun ck=>?_)
  ·have hk2:k<f.blocks.length:=by omega
   obtain ⟨hb0,hb1,hb2,hb3,hb4⟩:=hf5 _ (qu hk2)
   refine ze<|zb<|zg<|ah<|za (q9 jl jv Z Z Z (qq (by omega)))<|ac Zu jv Z Z<|zy (cs:=[.str ⟨#[]⟩,.raw (.slice none 0 0),.raw (.slice none 0 0),.int .i64 0,.int .i64 0,.int .i64 0,.int .i64 0]) Zc Z Z<|fun i5=>zt jv Z Z Z Z Z Z .head Z<|z7<|ah<|za (zc jh Z Zh (by decide) Z Z)<|za (zj (c:=.str _) Zr Z ⟨_,.head⟩ Z)<|za (zc jh Z Z4 (by decide) Z Z)<|za (Gv.loadAC (l:=[_,_,_,_]) Yo Z4 Z ⟨_,.head⟩ Z Z)<|za (ya (cps:=[(0,[_]),(3,[_,_,_,_])]) (rs:=[_,.raw (.slice none 0 0),.raw (.slice none 0 0),_,_,_,_]) Kb Z Z Z)<|zy (cs:=[.str ⟨#[]⟩,.raw (.slice none 0 0),.raw (.slice none 0 0),.int .i64 0,.int .i64 0,.int .i64 0,.int .i64 0]) Zc Z Z<|fun i6=>zt jv Z Z Z Z Z Z .head Z<|z7<|zb<|ah<|za (zc jh Z Zf (by decide) Z Z)<|za (zj (c:=.fro _ _) Zv Z ⟨_,.t1⟩ Z)<|ae jx Z<|aa Z<|z7<|di (off:=1) (k:=3) (T:=73) (fun _=>.head) Z<|fun ip=>yc (zn (zp .t1))<|zg<|y7 (γ:=Nat × Nat) [2,3,5,6,19,20,21,31,32] (fun g=>[(33,.int .i64 g.1)]) (fun g=>[(i6,.cells 60 [.str f.blocks[k].name,.own g.2 g.1,.raw (.slice none 0 0),.int .i64 f.blocks[k].term.kind,.int .i64 f.blocks[k].term.var,.int .i64 f.blocks[k].term.to0,.int .i64 f.blocks[k].term.to1]),(g.2,.grow 3 73 ((f.blocks[k].phis.take g.1).map bd).flatten),(i5,.cells 60 (bk f.blocks[k])),(ib,.grow 7 60 (fA ids (f.blocks.take k))),(0,ur (gl ids (f.blocks.take k))),(i3,.cells 26 [.fro 2 (f.vars.map b7),.fro 1 (f.params.map b5),.own ib k]),(i2,.cells 26 [.raw (.slice none 0 0),.raw (.slice none 0 0),.raw (.slice none 0 0)])]) (fun g=>g.1≤f.blocks[k].phis.length) (fun g=>f.blocks[k].phis.length - g.1) (0,ip) aW aN (qt _) ?_
   rintro ⟨m,ip⟩ hm
   try dsimp only at *
   refine ah<|ay Z Z<|z7<|zb<|zm Z (fun cm=>?_) (fun cm=>?_)
   ·have hm2:m<f.blocks[k].phis.length:=by omega
    obtain ⟨hp1,hp2⟩:=hb3 _ (qu hm2)
    refine ze<|zb<|zg<|ah<|za (q9 jx Z1 Z Z Z (qq (by omega)))<|ac Y0 Z1 Z Z<|zy (cs:=[.int .i64 0,.raw (.slice none 0 0),.raw (.slice none 0 0)]) Ze Z Z<|fun i8=>zt Z1 Z Z Z Z Z Z .head Z<|z7<|zq (fun j=>Nat.beq j 14) (by kernel_rfl) Z (zu (.r (.r (.rest _))))<|ak 0 Z (zc jh Z Zf (by decide) Z Z)<|ak 1 Z (zj (c:=.own _ _) Zv Z ⟨_,.t1⟩ Z)<|ak 2 Z (zc jq Z je (by decide) Z Z)<|ak 3 Z (zj (c:=.int _ _) jj Z ⟨_,.head⟩ Z)<|ak 4 Z (zc jq Z jm (by decide) Z Z)<|ak 5 Z (zj (c:=.fro _ _) jw Z ⟨_,.head⟩ Z)<|ak 7 Z (zc jq Z jm (by decide) Z Z)<|ak 8 Z (zj (c:=.fro _ _) jw Z ⟨_,.head⟩ Z)<|bO 6 Z<|zi (bZ _ (by omega)) Z<|z7<|bO 9 Z<|zi (bZ _ (by omega)) Z<|z7<|ak 10 Z (ya (cps:=[(0,[_]),(1,[_]),(2,[_])]) (rs:=[_,_,_]) I4 Z Z Z)<|bO 11 Z<|yf (rows:=[[_,_,_]]) D0 Z Z Z Z Z<|z7<|bO 12 Z<|ym (k:=3) jx type73 Z Z Z Z Z (fun _=>.head) (by rw[dE (k:=3) (fun _=>rfl),w3,Nat.min_eq_left hm]) (by decide) Z (by show (_+_)*56≤_;simp<;>omega) (by simp<;>omega)<|fun i49=>z7<|ak 13 Z (zc jh Z Zf (by decide) Z Z)<|yi<|yk (i:=14) Z (by kernel_rfl) (by kernel_rfl)<|yg (l:=[_]) (new:=[_,_,_,_,_,_,_]) Zf Z Z Z Z Z Z .t1 Z Z<|z7<|yl (by kernel_rfl)<|bi<|aC Z Z ?_
    refine aa Z<|z7 ?_
    exact ⟨(m+1,i49),tF,aW,⟨_,(.drop (.refl _)),by rw[←em (qr hm2)];rfl⟩,hm2,by dsimp only;omega⟩
   ·obtain rfl:m=f.blocks[k].phis.length:=by omega
    refine zz<|zb<|ah<|za (zc jh Z Zi (by decide) Z Z)<|za (zj (c:=.fro _ _) Zy Z ⟨_,.t2⟩ Z)<|ae jz Z<|aa Z<|z7<|di (off:=2) (k:=4) (T:=69) (fun _=>.head) Z<|fun ii=>zg<|y7 (γ:=Nat × Nat) [2,3,6,19,20,21,53,54] (fun g=>[(55,.int .i64 g.1)]) (fun g=>[(g.2,.grow 4 69 ((f.blocks[k].insts.take g.1).map bz).flatten),(i6,.cells 60 [.str f.blocks[k].name,.own ip f.blocks[k].phis.length,.own g.2 g.1,.int .i64 f.blocks[k].term.kind,.int .i64 f.blocks[k].term.var,.int .i64 f.blocks[k].term.to0,.int .i64 f.blocks[k].term.to1]),(ip,.grow 3 73 (f.blocks[k].phis.map bd).flatten),(i5,.cells 60 (bk f.blocks[k])),(ib,.grow 7 60 (fA ids (f.blocks.take k))),(0,ur (gl ids (f.blocks.take k))),(i3,.cells 26 [.fro 2 (f.vars.map b7),.fro 1 (f.params.map b5),.own ib k]),(i2,.cells 26 [.raw (.slice none 0 0),.raw (.slice none 0 0),.raw (.slice none 0 0)])]) (fun g=>g.1≤f.blocks[k].insts.length) (fun g=>f.blocks[k].insts.length - g.1) (0,ii) aW ⟨_,(.refl _),by rw[qv];rfl⟩ (qt _) ?_
    rintro ⟨m,ii⟩ hm
    try dsimp only at *
    refine ah<|ay Z Z<|z7<|zb<|zm Z (fun cm=>?_) (fun cm=>?_)
    ·have hm2:m<f.blocks[k].insts.length:=by omega
     have hp1:=hb4 _ (qu hm2)
     refine ze<|zb<|zg<|ah<|za (q9 jz Z5 Z Z Z (qq (by omega)))<|ac Yd Z5 Z Z<|zy (cs:=[.int .i64 0,.int .i64 0,.raw (.slice none 0 0),.int .i64 0]) Y3 Z Z<|fun i10=>zt Z5 Z Z Z Z Z Z .head Z<|z7<|ah<|za (zc jp Z jm (by decide) Z Z)<|za (zj (c:=.fro _ _) jw Z ⟨_,.head⟩ Z)<|zi (bZ _ (by omega)) Z<|za (zc jp Z jm (by decide) Z Z)<|yg (l:=[_]) (new:=[_,_,_,_]) jm Z Z Z Z Z Z .head Z Z<|z7<|bi<|za (zc jh Z Zi (by decide) Z Z)<|za (zj (c:=.own _ _) Zy Z ⟨_,.t2⟩ Z)<|za (qj Yd Z5 Z ⟨_,.head⟩ Z)<|yf (rows:=[[_,_,_,_]]) D1 Z Z Z Z Z<|ym (k:=4) jz type69 Z Z Z Z Z (fun _=>.t1) (by rw[dE (k:=4) (fun _=>rfl),w3,Nat.min_eq_left hm]) (by decide) Z (by show (_+_)*48≤_;simp<;>omega) (by simp<;>omega)<|fun i67=>za (zc jh Z Zi (by decide) Z Z)<|yg (l:=[_]) (new:=[_,_,_,_,_,_,_]) Zi Z Z Z Z Z Z .t2 Z Z<|z7<|bi<|aC Z Z<|aa Z<|z7 ?_
     exact ⟨(m+1,i67),vw,aW,⟨_,(.drop (.refl _)),by rw[←em (qr hm2)];rfl⟩,hm2,by dsimp only;omega⟩
    ·obtain rfl:m=f.blocks[k].insts.length:=by omega
     rw[qv]
     refine zz<|yc (aX.knowC (off:=2) (rows:=f.blocks[k].insts.map bz) .head .head Z (by simp[b5,b7,bd,bz,bk]) (by decide) (by simp))<|bi<|za (zc ji Z Z0 (by decide) Z Z)<|za (zj (c:=.own _ _) Z6 Z ⟨_,.t5⟩ Z)<|za (qj Zu jv Z ⟨_,.head⟩ Z)<|yf (rows:=[[_,_,_,_,_,_,_]]) oS Z Z Z Z Z<|ym (k:=7) jl type60 Z Z Z Z Z (fun _=>.t3) (by rw[kF (by rw[w3];omega),w3,Nat.min_eq_left hk]) (by decide) Z (by show (_+_)*96≤_;simp<;>omega) (by simp<;>omega)<|fun i74=>za (zc ji Z Z0 (by decide) Z Z)<|yg (l:=[_]) (new:=[_,_,_]) Z0 Z Z Z Z Z Z .t5 Z Z<|z7<|yc (aX.bagIn (X':=gl (ids++[ip]) (f.blocks.take (k+1))) .t1 (v8 ip hids hk2) .t3)<|bi<|aC Z Z<|aa Z<|z7 ?_
     exact ⟨(k+1,i74,ids++[ip]),gY,aW,⟨_,(.drop (.drop (.refl _))),by rw[←v7 ip hids hk2];rfl⟩,⟨hk2,by simp[hids]⟩,by dsimp only;omega⟩
  ·obtain rfl:k=f.blocks.length:=by omega
   rw[qv]
   refine zz<|ah<|za (qj js jk Z ⟨_,.t2⟩ Z)<|zt jk Z Z Z Z Z Z .t3 Z<|z7<|zf<|dh.c1 Z ⟨_,.t3⟩ js jk Z ?_
   exact ⟨(ib,ids),rfl,⟨_,.keep (.keep (.drop (.drop (.refl _)))),rfl⟩,hids⟩
end
section
open Go.Proofs.Tryz
open Go.Proofs Go.Lib Go.Shelf Go.RowKit
variable {E:World}
set_option maxRecDepth 20000
def kc (f:ab) (k:Nat):Nat:=((List.range k).filter fun (b:Nat)=>decide ((b:Int)∈ord f)).length
theorem kG (f:ab) (k:Nat):kc f (k+1)=kc f k+if (k:Int)∈ord f then 1 else 0:=by
 unfold kc
 rw[List.range_succ,List.filter_append,qw,List.filter_cons]
 congr 1
 by_cases h:(k:Int)∈ord f
 ·rw[if_pos h,if_pos (w4 h)];rfl
 ·rw[if_neg h,if_neg (by simpa using h)];rfl
theorem xI (f:ab) (k:Nat):kc f k≤k:=by unfold kc;refine Nat.le_trans (List.length_filter_le _ _) ?_;rw[List.length_range];omega
theorem Jb {f:ab} (hE:br f) {k:Nat} (h:(k:Int)∈ord f):(fy f)[kc f k]?=some k:=by
 have hk:=bm hE.grph.toEOk h
 obtain ⟨d,hd⟩:∃d,f.blocks.length=k+(d+1):=⟨f.blocks.length - k - 1,by omega⟩
 unfold fy kc
 rw[hd,List.range_add,List.filter_append,List.getElem?_append_right (Nat.le_refl _),Nat.sub_self,List.range_succ_eq_map,List.map_cons,List.filter_cons,if_pos (by simpa using h)];rfl
theorem xJ {f:ab} (hE:br f) (k:Nat):dK f k=if (k:Int)∈ord f then (kc f k:Int) else -1:=by
 by_cases h:(k:Int)∈ord f
 ·rw[if_pos h];exact kx hE (Jb hE h)
 ·rw[if_neg h];unfold dK;rw[if_neg h]
def iq (f:ab) (k:Nat):List Int:=(List.range f.blocks.length).map fun (b:Nat)=>if b<k then dK f b else 0
theorem ke (f:ab) (k:Nat):(iq f k).length=f.blocks.length:=by unfold iq;simp
theorem CO (f:ab):iq f 0=List.replicate f.blocks.length 0:=by
 apply List.ext_getElem
 ·simp[iq]
 ·intro i h1 h2;simp[iq]
theorem uu {f:ab} {k i:Nat} (h:i<(iq f k).length):(iq f k)[i]=if i<k then dK f i else 0:=by
 simp[iq]
theorem uv {f:ab} {k:Nat} (h:k<f.blocks.length):(iq f k).set k (dK f k)=iq f (k+1):=by
 apply List.ext_getElem
 ·simp[iq]
 ·intro i h1 h2
  rw[List.getElem_set,uu,uu]
  by_cases e:k=i
  ·subst e;rw[if_pos rfl,if_pos (by omega)]
  ·rw[if_neg e]
   by_cases hl:i<k
   ·rw[if_pos hl,if_pos (by omega)]
   ·rw[if_neg hl,if_neg (by omega)]
theorem px {f:ab} {b:Int} (h0:0≤b) (h1:b<f.blocks.length):(iq f f.blocks.length)[b.toNat]?=some (dK f b):=by
 unfold iq
 rw[qy,List.getElem?_range (by omega)]
 show some (if b.toNat<_ then dK f (b.toNat:Int) else 0)=_
 rw[if_pos (by omega),w8 h0]
def Ew (f:ab) (k:Nat):List aB:=((List.range k).filter fun (b:Nat)=>decide ((b:Int)∈ord f)).map fun b=>eM (dK f) (fR f b) (bb f b)
theorem xK (f:ab) (k:Nat):(Ew f k).length=kc f k:=qx ..
theorem uw (f:ab) (k:Nat):Ew f (k+1)=Ew f k++if (k:Int)∈ord f then[eM (dK f) (fR f k) (bb f k)] else[]:=by
 unfold Ew
 rw[List.range_succ,List.filter_append,List.map_append,List.filter_cons]
 congr 1
 by_cases h:(k:Int)∈ord f
 ·rw[if_pos h,if_pos (w4 h)];rfl
 ·rw[if_neg h,if_neg (by simpa using h)];rfl
def eT (f:ab) (b:aB) (g:Nat):Int × Int:=(if 0<g then dK f (((aU b.term)[0]?).getD 0) else b.term.to0,if 1<g then dK f (((aU b.term)[1]?).getD 0) else b.term.to1)
def sy (f:ab) (k:Nat) (b:aB) (m:Nat):List bu:=(b.phis.take m).map (cL (dK f) (fR f k))++b.phis.drop m
theorem GH {f:ab} {b:aB} (h1:b.term.kind=1) (h2:b.term.to0=b.term.to1):(⟨b.term.kind,b.term.var,(eT f b (aU b.term).length).1,(eT f b (aU b.term).length).1⟩:cC)=dT id (dK f) b.term:=by
 have e:aU b.term=[b.term.to0]:=by unfold aU;rw[if_neg (by omega),if_pos h1,if_pos h2]
 unfold eT dT
 rw[e,if_neg (show ¬b.term.kind=0 by omega),if_pos h1,←h2];rfl
theorem Jc {f:ab} {b:aB} (h1:b.term.kind=1) (h2:¬b.term.to0=b.term.to1):(⟨b.term.kind,b.term.var,(eT f b (aU b.term).length).1,(eT f b (aU b.term).length).2⟩:cC)=dT id (dK f) b.term:=by
 have e:aU b.term=[b.term.to0,b.term.to1]:=by unfold aU;rw[if_neg (by omega),if_pos h1,if_neg h2]
 unfold eT dT
 rw[e,if_neg (show ¬b.term.kind=0 by omega),if_pos h1];rfl
theorem Jd {f:ab} {b:aB} (h1:¬b.term.kind=1):(⟨b.term.kind,b.term.var,(eT f b (aU b.term).length).1,(eT f b (aU b.term).length).2⟩:cC)=dT id (dK f) b.term:=by
 unfold dT
 by_cases h0:b.term.kind=0
 ·have e:aU b.term=[b.term.to0]:=by unfold aU;rw[if_pos h0]
  unfold eT
  rw[e,if_pos h0];rfl
 ·have e:aU b.term=[]:=by unfold aU;rw[if_neg h0,if_neg h1]
  unfold eT
  rw[e,if_neg h0,if_neg h1];rfl
theorem ux {f:ab} {k:Nat} {b:aB} {m:Nat} (hm:m<b.phis.length):((sy f k b m).map bd).flatten=(((b.phis.take m).map (cL (dK f) (fR f k))).map bd).flatten++(bd b.phis[m]++((b.phis.drop (m+1)).map bd).flatten):=by
 unfold sy
 rw[List.drop_eq_getElem_cons hm,List.map_append,List.flatten_append,List.map_cons,List.flatten_cons]
theorem sC {f:ab} {k:Nat} {b:aB} {m:Nat} (hm:m<b.phis.length):((((b.phis.take m).map (cL (dK f) (fR f k))).map bd).flatten).length=m*3:=by
 rw[dE (k:=3) (fun _=>rfl),qx,w3,Nat.min_eq_left (by omega)]
theorem GI {f:ab} {k:Nat} {b:aB} {m:Nat} (hm:m<b.phis.length):((((sy f k b m).map bd).flatten).drop (m*3)).take 3=bd b.phis[m]:=by
 rw[ux hm,List.drop_left' (sC hm)]
 exact List.take_left' rfl
theorem GJ {f:ab} {k:Nat} {b:aB} {m:Nat} (hm:m<b.phis.length):(((sy f k b m).map bd).flatten).take (m*3)++bd (cL (dK f) (fR f k) b.phis[m])++(((sy f k b m).map bd).flatten).drop (m*3+3)=((sy f k b (m+1)).map bd).flatten:=by
 rw[ux hm,List.take_left' (sC hm),←List.drop_drop,List.drop_left' (sC hm),List.drop_left' (show (bd b.phis[m]).length=3 from rfl)]
 unfold sy
 rw[qr hm]
 simp only[List.map_append,List.map_cons,List.map_nil,List.flatten_append,List.flatten_cons,List.flatten_nil,List.append_nil,qs]
set_option maxHeartbeats 8000000 in
theorem CP (f:ab) (hf:small f) (hL:aj E) (ht:aT f=true) (hpt:aT (bh f)=true∧ep (bh f)):aZ prog E 22 [.agg (bQ f)] (.tup [.agg (bQ (bh f)),.int .i64 0]):=by
 have hn:=hf.2.2.1
 have hE:=dC ht
 have hS:=ej ht
 have hfr:∀{k:Nat},(fR f k).length≤100000:=fun {k}=>by
  have h1:=List.Nodup.length_le_of_subset (l₂:=dJ f.blocks.length) (dy (fun b=>cT f b) f.blocks.length k).1 fun x hx=>by
   have h2:=(bW hE.grph.toEOk hE.grph.out).1 hx
   refine iH.2 (Classical.byContradiction fun hn=>?_)
   rw[hE.grph.out x hn] at h2;cases h2
  rw[eY] at h1
  show (bE _ _ _).length≤_
  omega
 have hright:=lq (E:=E) f hf hL
 rw[ht] at hright
 have hjo:=lY (E:=E) (bh f) (ue hf) hL
 rw[hpt.1,(gG _).2 hpt.2] at hjo
 have hjo:aZ prog E 20 [.agg (bQ (bh f))] (.int .i64 0):=hjo
 refine zo func22 Z (by decide) Z<|ah<|yb (cs:=_) Z Z Z<|zy (cs:=[.raw (.slice none 0 0),.raw (.slice none 0 0),.raw (.slice none 0 0)]) Zq Z Z<|fun i2=>aw Z<|z7<|zb<|ah<|ac js jk Z Z<|zi (hright) Z<|aD Z<|z7<|yp Z Z<|ze<|zb<|zq (fun j=>false) (by kernel_rfl) Z (zu (.rest _))<|ak 0 Z (yv js jk Z Z)<|ak 2 Z (yv js jk Z Z)<|bO 1 Z<|zi (vU f hE hn) Z<|z7<|bO 3 Z<|zi (lg f hE (by omega)) Z<|z7<|ak 4 Z (va Z)<|ak 5 Z (va Z)<|eG<|ah<|aq ji Z Z0 Z Z<|aM Z6 Z<|ae jl Z<|qm (m:=f.blocks.length) jd Zo Z Z Z Z Z (by simp) (by simp) (by show (8:Int)*_≤_;omega) (by omega)<|fun i27=>za (ef Z)<|aw Z<|z7<|zb<|ah<|za (kP Z)<|za (Gv.lenO jd Z) ?_
 refine aa Z<|z7<|zg<|y7 (γ:=Nat) [1,2,4,5,6,29] (fun g=>[(30,.int .i64 g),(7,.int .i64 (kc f g))]) (fun g=>[(i27,.grow 1 3 (cI (iq f g))),(i2,.cells 26 [.raw (.slice none 0 0),.raw (.slice none 0 0),.raw (.slice none 0 0)])]) (fun g=>g≤f.blocks.length) (fun g=>f.blocks.length - g) 0 eE ⟨_,(.refl _),by rw[CO];rfl⟩ (qt _) ?_
 rintro k hk
 refine ah<|ay Z Z<|z7<|zb<|zm Z (fun ck=>?_) (fun ck=>?_)
 ·have hk2:k<f.blocks.length:=by omega
  have hcl:=xI f k
  have hgb:=iK (E:=au f) hE.grph.toEOk hk2
  refine ze<|zb<|zg<|ah<|aa Z<|aw Z<|z7<|ah<|za (kP Z)<|aa Z<|za (yj (j:=k) jd je Z Z Z ⟨_,.head⟩ (by rw[aJ,ke]) hk2)<|q8 (j:=k) je Z Z .head (by rw[ke];exact hk2)<|z7<|ah<|bC Z<|aa Z<|za (cH k jn Z3 Z Z Z hgb)<|za (qg (c:=.bool _) Yc Z)<|z7<|zm Z (fun cr=>?_) (fun cr=>?_)
  ·have cr:(k:Int)∈ord f:=by first|exact cr|(have h:=cr;simp at h;exact h)
   have hset:((iq f k).set k (-1)).set k (kc f k:Int)=iq f (k+1):=by rw[List.set_set,←uv hk2,xJ hE,if_pos cr]
   refine ah<|za (kP Z)<|aa Z<|aa Z<|za (yj (j:=k) jd je Z Z Z ⟨_,.head⟩ (by rw[aJ,List.length_set,ke]) hk2)<|q8 (j:=k) je Z Z .head (by rw[List.length_set,ke];exact hk2)<|z7<|bi<|aa Z<|aC Z Z<|aw Z<|z7<|bi<|aC Z Z<|aa Z<|z7 ?_
   exact ⟨k+1,FX,⟨rfl,congrArg (AV.int .i64) (by rw[kG,if_pos cr];push_cast;rfl),trivial⟩,⟨_,(.refl _),by rw[←hset]⟩,hk2,by omega⟩
  ·have cr:¬(k:Int)∈ord f:=by first|exact cr|(have h:=cr;simp at h;exact h)
   have hset:(iq f k).set k (-1)=iq f (k+1):=by rw[←uv hk2,xJ hE,if_neg cr]
   refine ze<|bi<|aC Z Z<|aa Z<|z7 ?_
   exact ⟨k+1,FX,⟨rfl,congrArg (AV.int .i64) (by rw[kG,if_neg cr];push_cast;omega),trivial⟩,⟨_,(.refl _),by rw[←hset]⟩,hk2,by omega⟩
 ·obtain rfl:k=f.blocks.length:=by omega
  refine yc (aX.knowI (t:=6) Z .head (ke f _))<|zz<|ah<|ac js jk Z Z<|zi (vF f hf) Z<|zy (cs:=[.raw (.slice none 0 0),.raw (.slice none 0 0),.raw (.slice none 0 0)]) Zq Z Z<|fun i9=>zt jk Z Z Z Z Z Z .head Z<|z7<|ah<|za (zc ji Z Z0 (by decide) Z Z)<|yg (l:=[_]) (new:=[_,_,_]) Z0 Z Z Z Z Z Z .head Z Z<|z7<|zb<|ah<|ac js jk Z Z<|yu Z (zu (.r (.r (.rest _)))) (CN f hf) ?_
  rintro r51 O51 ⟨⟨ib,ids⟩,rfl,rfl,hids⟩
  refine za (Gv.field1 (v:=.own _ _) ji Z Z6 Z Z)<|za (Gv.lenO jl Z)<|aa Z<|z7<|di (off:=2) (k:=7) (T:=60) (fun _=>.t2) Z<|fun jb=>yc (zn (zp .t4))<|yc (zn (zp .t3))<|yc (zn (zp .t3))<|yc (zn (zp .t3))<|yc (zn (zp .t4))<|zg<|y7 (γ:=Nat × Nat) [1,2,4,5,6,9,52,53] (fun g=>[(54,.int .i64 g.1)]) (fun g=>[(i9,.cells 26 [.fro 2 (f.vars.map b7),.fro 1 (f.params.map b5),.own g.2 (kc f g.1)]),(g.2,.grow 7 60 ((Ew f g.1).map bk).flatten),(ib,.grow 7 60 (fA ids f.blocks)),(0,ur (gl (ids.drop g.1) (f.blocks.drop g.1))),(i2,.cells 26 [.raw (.slice none 0 0),.raw (.slice none 0 0),.raw (.slice none 0 0)])]) (fun g=>g.1≤f.blocks.length) (fun g=>f.blocks.length - g.1) (0,jb) aW aN (qt _) ?_
  rintro ⟨k,jb⟩ hk
  try dsimp only at *
  refine ah<|ay Z Z<|z7<|zb<|zm Z (fun ck=>?_) (fun ck=>?_)
  ·have hk2:k<f.blocks.length:=by omega
   obtain ⟨b,hb⟩:∃b,f.blocks[k]=b:=⟨_,rfl⟩
   have hgb:f.blocks[k]?=some b:=by rw[qq hk2,hb]
   obtain ⟨ip,hip⟩:∃ip,ids[k]?=some ip:=⟨_,qq (by omega)⟩
   have hne:fA ids f.blocks≠[]:=fun h=>by have:=congrArg List.length h;rw[kF hids] at this;simp at this;omega
   have hout:gl (ids.drop k) (f.blocks.drop k)=GG ip b::gl (ids.drop (k+1)) (f.blocks.drop (k+1)):=by
    obtain ⟨hi1,hi2⟩:=List.getElem?_eq_some_iff.1 hip
    rw[List.drop_eq_getElem_cons hi1,List.drop_eq_getElem_cons hk2,hi2,hb];rfl
   refine ze<|zb<|zg<|ah<|aa Z<|za (Gv.idxO (j:=k) jl jv Z Z Z ⟨_,.t2⟩ hne hk2)<|za (Gv.loadAG (l:=[_,_,_,_,_,_,_]) Zu jv Z ⟨_,.t2⟩ hne (by rw[kF hids];show k*7+7≤_;omega) (rL hip hgb))<|zy (cs:=[.str ⟨#[]⟩,.raw (.slice none 0 0),.raw (.slice none 0 0),.int .i64 0,.int .i64 0,.int .i64 0,.int .i64 0]) Zc Z Z<|fun i11=>aw Z<|zt jv Z Z Z Z Z Z .head Z<|z7<|zb<|ah<|bC Z<|aa Z<|za (cH k jn Z3 Z Z Z (iK (E:=au f) hE.grph.toEOk hk2))<|za (qg (c:=.bool _) Yc Z)<|aD Z<|z7<|yc (aX.bagOut (i:=ip) (o:=.grow 3 73 (b.phis.map bd).flatten) (X':=gl (ids.drop (k+1)) (f.blocks.drop (k+1))) ((by rw[hout];exact List.Perm.refl _)) .t4)<|zr Z (fun cr=>?_) (fun cr=>?_)
   ·have cr:¬(k:Int)∈ord f:=by first|exact cr|(have h:=cr;simp at h;exact h)
    refine yc (aX.drop .head)<|zz<|bi<|aC Z Z<|aa Z<|z7 ?_
    exact ⟨(k+1,jb),vw,aW,⟨_,(.drop (.refl _)),by rw[uw,kG,if_neg cr,if_neg cr,List.append_nil];rfl⟩,hk2,by dsimp only;omega⟩
   ·have cr:(k:Int)∈ord f:=by first|exact cr|(have h:=cr;simp at h;exact h)
    refine ze<|zb<|ah<|za (zc jh Z Zf (by decide) Z Z)<|za (zj (c:=.own _ _) Zv Z ⟨_,.t1⟩ Z)<|za (Gv.lenO jx Z)<|aa Z<|z7 ?_
    have hbk:bb f k=b:=eN hgb
    obtain ⟨hb0,hb1,hb2,hb3,hb4⟩:=hf.2.2.2.2 b (hb▸qu hk2)
    have hphl:∀m,(sy f k b m).length=b.phis.length:=fun m=>by unfold sy;rw[qw,qx,w3,List.length_drop];omega
    have hpcl:∀m,(((sy f k b m).map bd).flatten).length=b.phis.length*3:=fun m=>by rw[dE (k:=3) (fun _=>rfl),hphl]
    refine zg<|y7 (γ:=Nat) [1,2,4,5,6,9,10,11,52,53,54,65,66] (fun g=>[(67,.int .i64 g)]) (fun g=>[(ip,.grow 3 73 ((sy f k b g).map bd).flatten),(i11,.cells 60 [.str b.name,.own ip b.phis.length,.fro 4 (b.insts.map bz),.int .i64 b.term.kind,.int .i64 b.term.var,.int .i64 b.term.to0,.int .i64 b.term.to1]),(i9,.cells 26 [.fro 2 (f.vars.map b7),.fro 1 (f.params.map b5),.own jb (kc f k)]),(jb,.grow 7 60 ((Ew f k).map bk).flatten),(ib,.grow 7 60 (fA ids f.blocks)),(0,ur (gl (ids.drop (k+1)) (f.blocks.drop (k+1)))),(i2,.cells 26 [.raw (.slice none 0 0),.raw (.slice none 0 0),.raw (.slice none 0 0)])]) (fun g=>g≤b.phis.length) (fun g=>b.phis.length - g) 0 aW aN (qt _) ?_
    rintro m hm
    refine ah<|ay Z Z<|z7<|zb<|zm Z (fun cm=>?_) (fun cm=>?_)
    ·have hm2:m<b.phis.length:=by omega
     obtain ⟨p,hp⟩:∃p,b.phis[m]=p:=⟨_,rfl⟩
     have hpm:p∈(bb f k).phis:=by rw[hbk,←hp];exact qu hm2
     have hps:=im hS (x:=k) (by omega) (by omega) hpm
     have hpl:=hb3 p (by rw[←hp];exact qu hm2)
     have hpn:((sy f k b m).map bd).flatten≠[]:=fun h=>by have:=hpcl m;rw[h] at this;simp at this;omega
     have hrow:((((sy f k b m).map bd).flatten).drop (m*3)).take 3=bd p:=by rw[←hp];exact GI hm2
     have hset:(((sy f k b m).map bd).flatten).take (m*3)++bd (cL (dK f) (fR f k) p)++(((sy f k b m).map bd).flatten).drop (m*3+3)=((sy f k b (m+1)).map bd).flatten:=by rw[←hp];exact GJ hm2
     have hng:∀c∈p.from_,0≤c∧(iq f f.blocks.length)[c.toNat]?=some (dK f c):=fun c hc=>by
      have h7:=List.all_eq_true.1 hps.2.2.2.2 c hc
      unfold du at h7
      simp only[w6,wa] at h7
      exact ⟨h7.1,px h7.1 h7.2⟩
     refine ze<|zb<|zg<|ah<|aa Z<|za (Gv.idxO (j:=m) jx Z1 Z Z Z ⟨_,.head⟩ hpn hm2)<|za (Gv.loadAG (l:=[_,_,_]) Y0 Z1 Z ⟨_,.head⟩ hpn (by rw[hpcl];show m*3+3≤_;omega) hrow)<|zy (cs:=[.int .i64 0,.raw (.slice none 0 0),.raw (.slice none 0 0)]) Ze Z Z<|fun i13=>aw Z<|zt Z1 Z Z Z Z Z Z .head Z<|z7<|zq (fun j=>Nat.beq j 11) (by kernel_rfl) Z (zu (.r (.l (.r (.rest _)))))<|ak 0 Z (zc jh Z Zf (by decide) Z Z)<|ak 1 Z (zj (c:=.own _ _) Zv Z ⟨_,.t1⟩ Z)<|ak 2 Z (d9 Z)<|ak 3 Z (qj Y0 Z1 Z ⟨_,.head⟩ Z)<|ak 4 Z (vu Z)<|ak 5 Z (d9 Z)<|ak 6 Z (cH k underlying89 jm Z Z Z (pm f hk2))<|ak 7 Z (lL jw Z)<|ak 8 Z (vu Z)<|bO 9 Z<|zi (CM p (fR f k) (iq f f.blocks.length) (dK f) hps.2.1.symm hpl.1 hfr hng) Z<|z7<|bO 10 Z<|za (Gv.idxO (j:=m) jx Z1 Z Z Z ⟨_,.head⟩ hpn hm2)<|z7<|yi<|yk (i:=11) Z (by kernel_rfl) (by kernel_rfl)<|ao.storeG (l:=[_,_,_]) (new:=((sy f k b (m+1)).map bd).flatten) Z1 Z Z Z Z Z Z .t2 (by rw[hpcl];show m*3+3≤_;omega) (by decide) hset<|z7<|yl (by kernel_rfl)<|yc (zn (zp .t7))<|yc (zn (zp .t7))<|yc (zn (zp .t7))<|yc (zn (zp .t7))<|yc (zn (zp .t7))<|yc (zn (zp .t6))<|yc (zn (zp .t7))<|bi ?_
     refine aC Z Z<|aa Z<|z7 ?_
     exact ⟨m+1,⟨rfl,rfl,rfl,rfl,rfl,rfl,rfl,rfl,rfl,rfl,rfl,rfl,rfl,trivial⟩,aW,⟨_,(.keep (.keep (.keep (.keep (.keep (.keep (.keep (.drop (.refl _))))))))),rfl⟩,hm2,by omega⟩
    ·obtain rfl:m=b.phis.length:=by omega
     have hpe:sy f k b b.phis.length=b.phis.map (cL (dK f) (fR f k)):=by unfold sy;rw[qv,List.drop_length,List.append_nil]
     rw[hpe]
     have hel:=mv b.term
     have her:=hE.rng b (hb▸qu hk2)
     refine yc (aX.knowC (off:=1) (rows:=(b.phis.map (cL (dK f) (fR f k))).map bd) .head .head Z (by intro r hr;obtain ⟨z,_,rfl⟩:=List.mem_map.1 hr;rfl) (by decide) (by rw[qx,qx]))<|zz<|zb<|ah<|za (zc jh Z Z4 (by decide) Z Z)<|za (Gv.loadAC (l:=[_,_,_,_]) Yo Z4 Z ⟨_,.head⟩ Z Z)<|zi (mA b.term) Z<|ae jd Z<|aa Z<|z7<|zg<|y7 (γ:=Nat) [1,2,4,5,6,9,10,11,52,53,54,86,87] (fun g=>[(88,.int .i64 g)]) (fun g=>[(i11,.cells 60 [.str b.name,.fro 3 ((b.phis.map (cL (dK f) (fR f k))).map bd),.fro 4 (b.insts.map bz),.int .i64 b.term.kind,.int .i64 b.term.var,.int .i64 (eT f b g).1,.int .i64 (eT f b g).2]),(i9,.cells 26 [.fro 2 (f.vars.map b7),.fro 1 (f.params.map b5),.own jb (kc f k)]),(jb,.grow 7 60 ((Ew f k).map bk).flatten),(ib,.grow 7 60 (fA ids f.blocks)),(0,ur (gl (ids.drop (k+1)) (f.blocks.drop (k+1)))),(i2,.cells 26 [.raw (.slice none 0 0),.raw (.slice none 0 0),.raw (.slice none 0 0)])]) (fun g=>g≤(aU b.term).length) (fun g=>(aU b.term).length - g) 0 aW aN (qt _) ?_
     rintro j hj
     refine ah<|ay Z Z<|z7<|zb<|zm Z (fun cj=>?_) (fun cj=>?_)
     ·have hj2:j<(aU b.term).length:=by omega
      obtain ⟨x,hx⟩:∃x,(aU b.term)[j]=x:=⟨_,rfl⟩
      have hgx:(aU b.term)[j]?=some x:=by rw[qq hj2,hx]
      have hxr:=her x (hx▸qu hj2)
      have hj01:j=0∨j=1:=by omega
      refine ze<|zb<|zg<|ah<|aa Z<|za (cH j jd je Z Z Z hgx)<|aE jj Z<|aw Z<|aw Z<|z7 ?_
      rcases hj01 with rfl|rfl
      ·have he1:eT f b (0+1)=(dK f x,(eT f b 0).2):=by unfold eT;rw[hgx];rfl
       refine bi<|aa Z<|bC Z<|aa Z<|za (cH x.toNat jd je Z Z (by omega) (px hxr.1 hxr.2))<|aE jj Z<|za (zc jh Z Z4 (by decide) Z Z)<|za (zc jg Z Z2 (by decide) Z Z)<|za (qb (j:=0) ju je Z Z Z (by decide) Z)<|yg (l:=[_]) (new:=[_,_,_,_,_,_,_]) je Z Z Z Z Z Z .head Z Z<|z7<|bi<|aC Z Z<|aa Z<|z7 ?_
       exact ⟨0+1,⟨rfl,rfl,rfl,rfl,rfl,rfl,rfl,rfl,rfl,rfl,rfl,rfl,rfl,trivial⟩,aW,⟨_,(.refl _),by rw[he1];rfl⟩,hj2,by omega⟩
      ·have he2:eT f b (1+1)=((eT f b 1).1,dK f x):=by unfold eT;rw[hgx];rfl
       refine bi<|aa Z<|bC Z<|aa Z<|za (cH x.toNat jd je Z Z (by omega) (px hxr.1 hxr.2))<|aE jj Z<|za (zc jh Z Z4 (by decide) Z Z)<|za (zc jg Z Z2 (by decide) Z Z)<|za (qb (j:=1) ju je Z Z Z (by decide) Z)<|yg (l:=[_]) (new:=[_,_,_,_,_,_,_]) je Z Z Z Z Z Z .head Z Z<|z7<|bi<|aC Z Z<|aa Z<|z7 ?_
       exact ⟨1+1,⟨rfl,rfl,rfl,rfl,rfl,rfl,rfl,rfl,rfl,rfl,rfl,rfl,rfl,trivial⟩,aW,⟨_,(.refl _),by rw[he2];rfl⟩,hj2,by omega⟩
     ·obtain rfl:j=(aU b.term).length:=by omega
      have hpush:∀t0 t1:Int,(⟨b.term.kind,b.term.var,t0,t1⟩:cC)=dT id (dK f) b.term→((Ew f k).map bk).flatten++[AV.str b.name,.fro 3 ((b.phis.map (cL (dK f) (fR f k))).map bd),.fro 4 (b.insts.map bz),.int .i64 b.term.kind,.int .i64 b.term.var,.int .i64 t0,.int .i64 t1]=((Ew f (k+1)).map bk).flatten:=fun t0 t1 h=>by
       rw[uw,if_pos cr,List.map_append,List.flatten_append,hbk]
       congr 1
       show _=([bk (eM (dK f) (fR f k) b)]:List (List AV)).flatten
       unfold eM
       rw[←h];rfl
      have hcl:=xI f k
      have hcn:kc f (k+1)=kc f k+1:=by rw[kG,if_pos cr]
      have hjl:(((Ew f k).map bk).flatten).length=kc f k*7:=by rw[dE (k:=7) (fun _=>rfl),xK]
      refine zz<|zb<|zb<|zq (fun j=>false) (by kernel_rfl) Z (zu (.r (.rest _)))<|ak 0 Z (zc jh Z Z4 (by decide) Z Z)<|ak 1 Z (zc jg Z Zn (by decide) Z Z)<|ak 2 Z (zj (c:=.int _ _) Zs Z ⟨_,.head⟩ Z)<|ak 3 Z (Gv.eqlI Z Z)<|ak 4 Z (DQ Z)<|bJ.case (s:=106) Z (fun c5=>?_) (fun c5=>?_)
      ·have hk1:b.term.kind=1:=by simpa using c5
       refine fJ 5 Z Z Z c5 (eK ji Z Z0 Z Z)<|fJ 6 Z Z Z c5 (lL Z6 Z)<|fJ 7 Z Z Z c5 (d9 Z)<|fJ 8 Z Z Z c5 (cH k jl jv Z Z Z hgb)<|fJ 9 Z Z Z c5 (eK jh Z Z4 Z Z)<|fJ 10 Z Z Z c5 (eK jg Z Z2 Z Z)<|fJ 11 Z Z Z c5 (yw (j:=0) ju je Z Z Z (by decide) Z)<|fJ 12 Z Z Z c5 (gH jj Z)<|fJ 13 Z Z Z c5 (eK ji Z Z0 Z Z)<|fJ 14 Z Z Z c5 (lL Z6 Z)<|fJ 15 Z Z Z c5 (d9 Z)<|fJ 16 Z Z Z c5 (cH k jl jv Z Z Z hgb)<|fJ 17 Z Z Z c5 (eK jh Z Z4 Z Z)<|fJ 18 Z Z Z c5 (eK jg Z Z2 Z Z)<|fJ 19 Z Z Z c5 (yw (j:=1) ju je Z Z Z (by decide) Z)<|fJ 20 Z Z Z c5 (gH jj Z)<|fJ 21 Z Z Z c5 (Gv.eqlI Z Z)<|ak 22 Z (DR Z c5 Z)<|eG<|zr Z (fun c6=>?_) (fun c6=>?_)
       ·refine bi<|za (zc jh Z Z4 (by decide) Z Z)<|za (zc jg Z Z2 (by decide) Z Z)<|za (qb (j:=0) ju je Z Z Z (by decide) Z)<|za (zj (c:=.int _ _) jj Z ⟨_,.head⟩ Z)<|za (zc jh Z Z4 (by decide) Z Z)<|za (zc jg Z Z2 (by decide) Z Z)<|za (qb (j:=1) ju je Z Z Z (by decide) Z)<|yg (l:=[_]) (new:=[_,_,_,_,_,_,_]) je Z Z Z Z Z Z .head Z Z<|z7<|bi<|za (zc ji Z Z0 (by decide) Z Z)<|za (zj (c:=.own _ _) Z6 Z ⟨_,.t1⟩ Z)<|za (qj Zu jv Z ⟨_,.head⟩ Z)<|yf (rows:=[[_,_,_,_,_,_,_]]) oS Z Z Z Z Z<|ym (k:=7) jl type60 Z Z Z Z Z (fun _=>.t2) hjl (by decide) Z (by show (_+_)*96≤_;simp<;>omega) (by simp<;>omega)<|fun i136=>za (zc ji Z Z0 (by decide) Z Z)<|yg (l:=[_]) (new:=[_,_,_]) Z0 Z Z Z Z Z Z .t1 Z Z<|z7<|bi<|aC Z Z<|aa Z<|z7 ?_
        exact ⟨(k+1,i136),vw,aW,⟨_,(.drop (.refl _)),by rw[hcn,←hpush _ _ (GH hk1 (by simpa using c6))];rfl⟩,hk2,by dsimp only;omega⟩
       ·refine ze<|bi<|za (zc ji Z Z0 (by decide) Z Z)<|za (zj (c:=.own _ _) Z6 Z ⟨_,.t1⟩ Z)<|za (qj Zu jv Z ⟨_,.head⟩ Z)<|yf (rows:=[[_,_,_,_,_,_,_]]) oS Z Z Z Z Z<|ym (k:=7) jl type60 Z Z Z Z Z (fun _=>.t2) hjl (by decide) Z (by show (_+_)*96≤_;simp<;>omega) (by simp<;>omega)<|fun i136=>za (zc ji Z Z0 (by decide) Z Z)<|yg (l:=[_]) (new:=[_,_,_]) Z0 Z Z Z Z Z Z .t1 Z Z<|z7<|bi<|aC Z Z<|aa Z<|z7 ?_
        exact ⟨(k+1,i136),vw,aW,⟨_,(.drop (.refl _)),by rw[hcn,←hpush _ _ (Jc hk1 (by simpa using c6))];rfl⟩,hk2,by dsimp only;omega⟩
      ·have hk1:¬b.term.kind=1:=by simpa using c5
       refine d5 5 Z Z Z c5<|d5 6 Z Z Z c5<|d5 7 Z Z Z c5<|d5 8 Z Z Z c5<|d5 9 Z Z Z c5<|d5 10 Z Z Z c5<|d5 11 Z Z Z c5<|d5 12 Z Z Z c5<|d5 13 Z Z Z c5<|d5 14 Z Z Z c5<|d5 15 Z Z Z c5<|d5 16 Z Z Z c5<|d5 17 Z Z Z c5<|d5 18 Z Z Z c5<|d5 19 Z Z Z c5<|d5 20 Z Z Z c5<|d5 21 Z Z Z c5<|ak 22 Z (Ds Z c5 Z)<|eG<|yp Z Z<|ze<|bi<|za (zc ji Z Z0 (by decide) Z Z)<|za (zj (c:=.own _ _) Z6 Z ⟨_,.t1⟩ Z)<|za (qj Zu jv Z ⟨_,.head⟩ Z)<|yf (rows:=[[_,_,_,_,_,_,_]]) oS Z Z Z Z Z<|ym (k:=7) jl type60 Z Z Z Z Z (fun _=>.t2) hjl (by decide) Z (by show (_+_)*96≤_;simp<;>omega) (by simp<;>omega)<|fun i136=>za (zc ji Z Z0 (by decide) Z Z)<|yg (l:=[_]) (new:=[_,_,_]) Z0 Z Z Z Z Z Z .t1 Z Z<|z7<|bi<|aC Z Z<|aa Z<|z7 ?_
       exact ⟨(k+1,i136),vw,aW,⟨_,(.drop (.refl _)),by rw[hcn,←hpush _ _ (Jd hk1)];rfl⟩,hk2,by dsimp only;omega⟩
  ·obtain rfl:k=f.blocks.length:=by omega
   have hpr:Ew f f.blocks.length=(bh f).blocks:=rfl
   rw[hpr]
   refine yc (aX.knowC (off:=2) (rows:=(bh f).blocks.map bk) .t1 .head Z (by intro r hr;obtain ⟨z,_,rfl⟩:=List.mem_map.1 hr;rfl) (by decide) (by rw[qx,←hpr,xK]))<|zz<|zb<|ah<|za (qj js jk Z ⟨_,.head⟩ Z)<|zi (hjo) Z<|za (yn Z Z)<|z7<|yp Z Z<|ze<|ah<|za (qj js jk Z ⟨_,.head⟩ Z)<|zt jk Z Z Z Z Z Z .t3 Z<|aw Z<|z7<|zf<|dh.c1t (y:=.int _ _) Z Z ⟨_,.t3⟩ js jk Z ?_
   rfl
end
section
open Go.Proofs.Tryz
end
section
open Go.Proofs.Tryz
section
variable {E:World} {P:Program} {n:Nat} {env:aO} {O O' O'':OL}
end
end
section
open Go.Proofs.Tryz
open Go.Proofs Go.Lib Go.Shelf Go.RowKit
theorem Kn:iJ prog 58 #[(0,1),(1,1),(2,2)] [.int .i64 0,.int .i64 0,.int .i64 0,.int .i64 0]:=⟨_,_,jg,zeroValue58,fun w=>by kernel_rfl,rfl⟩
variable {E:World}
set_option maxRecDepth 20000
theorem kg {α:Type} {P R:List α} {n:Nat} (h:P.length=n) (j:Nat):(P++R).drop (n+j)=R.drop j:=by
 subst h;rw[List.drop_append,List.drop_eq_nil_of_le (by omega),List.nil_append,Nat.add_sub_cancel_left]
theorem uy {α:Type} {P R:List α} {n:Nat} (h:P.length=n) (j:Nat):(P++R).take (n+j)=P++R.take j:=by
 subst h;rw[List.take_append,List.take_of_length_le (by omega),Nat.add_sub_cancel_left]
theorem py (l:List aB):((l.map bk).flatten).length=l.length*7:=dE (k:=7) (fun _=>rfl) l
theorem CQ {l:List Int} {f:ab} {k:Nat} {b:aB} (h:f.blocks[k]?=some b):(aL l f).blocks[k]?=some (eW l k b):=by
 have e:(aL l f).blocks[k]?=(f.blocks[k]?).map (eW l k):=fF k
 rw[e,h];rfl
theorem kH {l:List Int} {f:ab}:(aL l f).blocks.length=f.blocks.length:=mH
theorem wb {l:List Int} {f:ab} {k:Nat} {b:aB} (h:f.blocks[k]?=some b):(aL l f).blocks.take (k+1)=(aL l f).blocks.take k++[eW l k b]:=by
 obtain ⟨h1,h2⟩:=List.getElem?_eq_some_iff.1 (CQ (l:=l) h)
 rw[qr h1,h2]
theorem wc {l:List Int} {f:ab} {k:Nat} (h:k≤f.blocks.length):((aL l f).blocks.take k).length=k:=by rw[w3,kH];omega
theorem wd {l:List Int} {f:ab} (h:small f):small (aL l f):=by
 obtain ⟨h1,h2,h3,h4,h5⟩:=h
 refine ⟨h1,h2,by rw[kH];exact h3,h4,fun c hc=>?_⟩
 obtain ⟨k,hk⟩:=List.getElem?_of_mem hc
 have e:(aL l f).blocks[k]?=(f.blocks[k]?).map (eW l k):=fF k
 rw[e] at hk
 obtain ⟨b,hb,rfl⟩:=Option.map_eq_some_iff.1 hk
 exact h5 b (w0 hb)
theorem Je {l:List Int} {k:Nat} (h:k<l.length):l[k]?=some ((l[k]?).getD 0):=by rw[qq h];rfl
end
section
open Go.Proofs.Tryz
open Go.Proofs Go.Lib Go.Shelf Go.RowKit
variable {E:World}
set_option maxRecDepth 20000
theorem Ey {l:List Int} {f:ab} {k:Nat} {b:aB} (h:f.blocks[k]?=some b):((aL l f).blocks.take k++f.blocks.drop k)=(aL l f).blocks.take k++b::f.blocks.drop (k+1):=by
 obtain ⟨h1,rfl⟩:=List.getElem?_eq_some_iff.1 h
 rw[←List.drop_eq_getElem_cons h1]
set_option maxHeartbeats 8000000 in
theorem CR (f:ab) (hf:small f) (hL:aj E) (ht:(aT f&&cO f)=true) (l:List Int) (hl:l.length=f.blocks.length):aZ prog E 7 [.agg (bQ f),.fro 1 (l.map b5)] (.tup [.agg (bQ (bh (aL l f))),.int .i64 0]):=by
 obtain ⟨hf1,hf2,hf3,hf4,hf5⟩:=id hf
 have htj:=(w6 _ _).mp ht
 have hty:=lY (E:=E) f hf hL
 rw[if_pos ht] at hty
 have hpr:=CP (E:=E) (aL l f) (wd hf) hL (da htj.1) (j7 htj.1 ((gG f).1 htj.2))
 refine zo func7 Z (by decide) Z<|ah<|yb (cs:=_) Z Z Z<|zy (cs:=[.raw (.slice none 0 0),.raw (.slice none 0 0),.raw (.slice none 0 0)]) Zq Z Z<|fun i4=>aw Z<|z7<|zb<|ah<|ac js jk Z Z<|zi (hty) Z<|aw Z<|z7<|ah<|aa Z<|za (yn Z Z)<|z7<|yp Z Z<|ze<|zb<|ah<|bC Z<|ae jd Z<|aq ji Z Z0 Z Z<|aM Z6 Z<|ae jl Z<|za (yn Z Z)<|z7<|yp Z (by rw[hl];simp)<|ze<|ah<|ac js jk Z Z<|yu Z (zu (.r (.rest _))) ((ry f hf).exact) ?_
 rintro r25 O25 ⟨ib,rfl,rfl,_⟩
 refine zy (cs:=[.raw (.slice none 0 0),.raw (.slice none 0 0),.raw (.slice none 0 0)]) Zq Z Z<|fun i7=>zt jk Z Z Z Z Z Z .head Z<|z7<|zb<|ah<|bC Z<|ae jd Z<|aa Z<|z7<|yc (zn (zp .t2))<|yc (zn (zp .t1))<|yc (zn (zp .t2)) ?_
 have hz:(aL l f).blocks.take 0++f.blocks.drop 0=f.blocks:=by rw[List.take_zero,List.drop_zero];rfl
 refine zg<|y7 (γ:=Nat) [4,7,26,27] (fun k=>[(28,.int .i64 k)]) (fun k=>[(ib,.grow 7 60 (((aL l f).blocks.take k++f.blocks.drop k).map bk).flatten),(i7,.cells 26 [.fro 2 (f.vars.map b7),.fro 1 (f.params.map b5),.own ib f.blocks.length]),(i4,.cells 26 [.raw (.slice none 0 0),.raw (.slice none 0 0),.raw (.slice none 0 0)])]) (fun k=>k≤f.blocks.length) (fun k=>f.blocks.length - k) 0 aW ⟨_,(.refl _),by rw[hz]<;>rfl⟩ (qt _) ?_
 rintro k hk
 refine ah<|ay Z Z<|z7<|zb<|zm Z (fun ck=>?_) (fun ck=>?_)
 ·have hk2:k<f.blocks.length:=by simp at ck;omega
  obtain ⟨b,hb⟩:∃b,f.blocks[k]?=some b:=⟨_,qq hk2⟩
  have hbm:=w0 hb
  have hlk:=Je (l:=l) (k:=k) (by omega)
  obtain ⟨w,hw⟩:∃w,(l[k]?).getD 0=w:=⟨_,rfl⟩
  rw[hw] at hlk
  have hfb:eW l k b={ b with term:=bI w b.term }:=by unfold eW;rw[hw]
  obtain ⟨P,hP⟩:∃P,(((aL l f).blocks.take k).map bk).flatten=P:=⟨_,rfl⟩
  obtain ⟨S,hS⟩:∃S,((f.blocks.drop (k+1)).map bk).flatten=S:=⟨_,rfl⟩
  have hPl:P.length=k*7:=by rw[←hP,py,wc hk]
  have hSl:S.length=(f.blocks.length - (k+1))*7:=by rw[←hS,py,List.length_drop]
  have hcell:(((aL l f).blocks.take k++f.blocks.drop k).map bk).flatten=P++(([.str b.name,.fro 3 (b.phis.map bd),.fro 4 (b.insts.map bz),.int .i64 b.term.kind,.int .i64 b.term.var,.int .i64 b.term.to0,.int .i64 b.term.to1]:List AV)++S):=by
   rw[Ey hb,List.map_append,List.flatten_append,hP,List.map_cons,List.flatten_cons,hS];rfl
  have hcl:∀a c d e,(P++(([.str b.name,.fro 3 (b.phis.map bd),.fro 4 (b.insts.map bz),a,c,d,e]:List AV)++S)).length=f.blocks.length*7:=fun a c d e=>by
   rw[qw,qw,hPl,hSl]
   show k*7+(7+_)=_
   omega
  have hnext:(((aL l f).blocks.take (k+1)++f.blocks.drop (k+1)).map bk).flatten=P++(([.str b.name,.fro 3 (b.phis.map bd),.fro 4 (b.insts.map bz),.int .i64 (bI w b.term).kind,.int .i64 (bI w b.term).var,.int .i64 (bI w b.term).to0,.int .i64 (bI w b.term).to1]:List AV)++S):=by
   rw[wb hb,hfb,qs,List.map_append,List.flatten_append,hP,List.singleton_append,List.map_cons,List.flatten_cons,hS];rfl
  rw[hcell]
  refine ze<|zb<|zg<|ah<|aa Z<|za (cH k jd je Z Z Z hlk)<|aE jj Z<|aw Z<|aw Z<|z7<|ah<|za (zc ji Z Z0 (by decide) Z Z)<|za (zj (c:=.own _ _) Z6 Z ⟨_,.t1⟩ Z)<|aa Z<|za (Gv.idxO (j:=k) jl jv Z Z Z ⟨_,.head⟩ (fun h=>by have:=hcl (.int .i64 0) (.int .i64 0) (.int .i64 0) (.int .i64 0);have h2:=congrArg List.length h;simp at h2) hk2)<|za (zc jh Z Z4 (by decide) Z Z)<|za (DS Z)<|z7<|ah<|bn Z<|az Z<|za (zc jg Z Zn (by decide) Z Z)<|za (Gv.load1G (c:=_) Zs Z ⟨_,.head⟩ (kg hPl 3))<|ax Z Z<|ai Z<|zk (s:=43) Z (fun c1=>?_) (fun c1=>?_)
  ·have h1:b.term.kind=1:=by simpa using c1
   refine z8 Z Z c1<|aa Z<|z8 Z Z c1<|ax Z Z<|z8 Z Z c1<|ai Z<|zk (s:=46) Z (fun c2=>?_) (fun c2=>?_)
   ·have h2:w=1:=by simpa using c2
    have e:bI w b.term=⟨0,0,b.term.to0,0⟩:=by unfold bI;rw[if_pos h1,if_pos h2]
    rw[e] at hnext
    refine z6 Z Z c2<|z6 Z Z c2<|z8 Z Z c1<|ap Z c2 Z<|ap Z c1 Z<|z7<|yt Z Z<|bi<|bn Z<|bn Z<|aa Z<|za (Gv.sub Z Z (by unfold ko;omega))<|az Z<|za (zc jg Z Z2 (by decide) Z Z)<|za (qb (j:=0) ju je Z Z (by omega) (by decide) Z)<|za (Gv.load1G (c:=_) jj Z ⟨_,.head⟩ (kg hPl 5))<|za (Gv.buildA (cps:=[(0,[_]),(1,[_])]) (rs:=[_,_]) Gc Z Z Z)<|za (ya (cps:=[(2,[_,_])]) (rs:=[.int .i64 0,.int .i64 0,_,_]) Kn Z Z Z)<|az Z<|ao.storeG (l:=[_,_,_,_]) (new:=(((aL l f).blocks.take (k+1)++f.blocks.drop (k+1)).map bk).flatten) Z4 Z Z Z Z Z Z .head (show k*7+3+4≤_ from Nat.le_trans (m:=f.blocks.length*7) (by omega) (Nat.le_of_eq (hcl _ _ _ _).symm)) (by decide) (by rw[hnext];show List.take (k*7+3) _++_++List.drop (k*7+3+4) _=_;rw[uy hPl 3,Nat.add_assoc,kg hPl (3+4),qs,qs];rfl)<|z7<|bi<|aC Z Z<|aa Z<|z7 ?_
    exact ⟨k+1,gY,aW,aN,hk2,by omega⟩
   ·have h2:¬w=1:=by simpa using c2
    refine z8 Z Z c2<|aa Z<|z8 Z Z c2<|ax Z Z<|z8 Z Z c1<|al Z c2 Z<|ap Z c1 Z<|z7<|zr Z (fun c3=>?_) (fun c3=>?_)
    ·have h3:w=2:=by simpa using c3
     have e:bI w b.term=⟨0,0,b.term.to1,0⟩:=by unfold bI;rw[if_pos h1,if_neg h2,if_pos h3]
     rw[e] at hnext
     refine bi<|bn Z<|bn Z<|aa Z<|za (Gv.sub Z Z (by unfold ko;omega))<|az Z<|za (zc jg Z Z2 (by decide) Z Z)<|za (qb (j:=1) ju je Z Z (by omega) (by decide) Z)<|za (Gv.load1G (c:=_) jj Z ⟨_,.head⟩ (kg hPl 6))<|za (Gv.buildA (cps:=[(0,[_]),(1,[_])]) (rs:=[_,_]) Gc Z Z Z)<|za (ya (cps:=[(2,[_,_])]) (rs:=[.int .i64 0,.int .i64 0,_,_]) Kn Z Z Z)<|az Z<|ao.storeG (l:=[_,_,_,_]) (new:=(((aL l f).blocks.take (k+1)++f.blocks.drop (k+1)).map bk).flatten) Z4 Z Z Z Z Z Z .head (show k*7+3+4≤_ from Nat.le_trans (m:=f.blocks.length*7) (by omega) (Nat.le_of_eq (hcl _ _ _ _).symm)) (by decide) (by rw[hnext];show List.take (k*7+3) _++_++List.drop (k*7+3+4) _=_;rw[uy hPl 3,Nat.add_assoc,kg hPl (3+4),qs,qs];rfl)<|z7<|bi<|aC Z Z<|aa Z<|z7 ?_
     exact ⟨k+1,gY,aW,aN,hk2,by omega⟩
    ·have h3:¬w=2:=by simpa using c3
     have e:bI w b.term=b.term:=by unfold bI;rw[if_pos h1,if_neg h2,if_neg h3]
     rw[e] at hnext
     refine ze<|bi<|aC Z Z<|aa Z<|z7 ?_
     exact ⟨k+1,gY,aW,⟨_,(.refl _),by rw[hnext]<;>rfl⟩,hk2,by omega⟩
  ·have h1:¬b.term.kind=1:=by simpa using c1
   have e:bI w b.term=b.term:=by unfold bI;rw[if_neg h1]
   rw[e] at hnext
   refine z6 Z Z c1<|z6 Z Z c1<|z6 Z Z c1<|zd Z Z<|zd Z Z<|z6 Z Z c1<|al Z c1 Z<|z7<|yp Z Z<|ze<|bi<|aC Z Z<|aa Z<|z7 ?_
   exact ⟨k+1,gY,aW,⟨_,(.refl _),by rw[hnext]<;>rfl⟩,hk2,by omega⟩
 ·obtain rfl:k=f.blocks.length:=by simp at ck;omega
  have he:(aL l f).blocks.take f.blocks.length++f.blocks.drop f.blocks.length=(aL l f).blocks:=by rw[List.take_of_length_le (Nat.le_of_eq kH),List.drop_length,List.append_nil]
  rw[he]
  refine yc (aX.knowC (off:=2) (rows:=(aL l f).blocks.map bk) .head .head Z (by intro r hr;obtain ⟨z,_,rfl⟩:=List.mem_map.1 hr;rfl) (by decide) (by rw[qx,kH]))<|zz<|ah<|za (qj js jk Z ⟨_,.head⟩ Z)<|zi (hpr) Z<|za (Gv.extract (v:=.agg _) Z Z)<|za (DT Z Z)<|zt jk Z Z Z Z Z Z .t1 Z<|aw Z<|z7<|zf<|dh.c1t (y:=.int _ _) Z Z ⟨_,.t1⟩ js jk Z ?_
  rfl
end
end Go.Proofs.YtjpnhkmfhlnpcaaGreatDoor
