/- A program whose branches go as a row says, as the program and the document make it. Of programs that are little. -/
import Derived.Test.YtjpnhkmfhlnpcaaGreatDoorJh
import Derived.Test.YtjpnhkmfhlnpcaaGreatDoorJj
import Derived.Test.YtjpnhkmfhlnpcaaGreatDoorJi
import Derived.Test.YtjpnhkmfhlnpcaaGreatDoorJd
import Derived.Test.YtjpnhkmfhlnpcaaGreatDoorJg
set_option linter.unusedVariables false
set_option linter.unusedSimpArgs false
set_option linter.unusedSectionVars false
namespace Go.Proofs.YtjpnhkmfhlnpcaaGreatDoor
section
open Go.Proofs.Tryz
open Go.Proofs Go.Lib Go.Shelf Go.RowKit
variable {E:World}
set_option maxRecDepth 20000
theorem dv:∀l:List Int,cI l=(l.map bh).flatten
 |[]=>rfl
 |x::l=>by rw[List.map_cons,List.flatten_cons,←dv l];rfl
def be (nm:Int→Int) (fr:List Int) (p:bM) (k:Nat):List (Int × Int):=((gy p).take k).filter fun z=>decide (z.1∈fr∧0≤nm z.1)
theorem wt (p:bM) (fr num:List Int) (nm:Int→Int) (hl:p.from_.length=p.args.length) (hl2:p.args.length≤1000) (hfr:fr.length≤100000) (hn:∀b∈p.from_,0≤b∧num[b.toNat]?=some (nm b)) :
  aT prog E 42 [.agg (aL p),.fro 1 (fr.map bh),.fro 1 (num.map bh)] (.agg (aL (bS nm fr p))):=by
 have hpl:(gy p).length=p.args.length:=by unfold gy;rw[List.length_zip,hl];omega
 refine zo func42 Z (by decide) Z<|ai<|y9 (cs:=_) Z Z Z<|zp (cs:=[.int .i64 0,.raw (.slice none 0 0),.raw (.slice none 0 0)]) jz Z Z<|fun i6=>z7<|ai<|ap jc Z j9 Z Z<|aF jf Z<|za (zw (cps:=[(0,[_])]) (rs:=[_,.raw (.slice none 0 0),.raw (.slice none 0 0)]) AM Z Z Z)<|zp (cs:=[.int .i64 0,.raw (.slice none 0 0),.raw (.slice none 0 0)]) jz Z Z<|fun i7=>zm jp Z Z Z Z Z Z .head Z<|z7<|zb<|ai<|ap jc Z je Z Z<|aP jm Z<|ac j4 Z<|aa Z<|z7<|bJ (off:=1) (k:=1) (T:=3) (fun _=>.head) Z<|fun ia=>bJ (off:=2) (k:=1) (T:=3) (fun _=>.t1) Z<|fun ib=>zz (zn (zq .t1))<|zz (zn (zq .t2))<|zh<|y7 (γ:=Nat × Nat × Nat) [1,2,3,6,7,14,15] (fun g=>[(16,.int .i64 g.1)]) (fun g=>[(i7,.cells 73 [.int .i64 p.dst,.own g.2.1 (be nm fr p g.1).length,.own g.2.2 (be nm fr p g.1).length]),(g.2.1,.grow 1 3 (cI ((be nm fr p g.1).map (·.2)))),(g.2.2,.grow 1 3 (cI ((be nm fr p g.1).map fun z=>nm z.1))),(i6,.cells 73 [.int .i64 0,.raw (.slice none 0 0),.raw (.slice none 0 0)])]) (fun g=>g.1≤p.from_.length) (fun g=>p.from_.length - g.1) (0,ia,ib) aV aU (q5 _) ?_
 rintro ⟨k,ia,ib⟩ hk
 try dsimp only at *
 refine ai<|ay Z Z<|z7<|zb<|zt Z (fun ck=>?_) (fun ck=>?_)
 ·have hk2:k<p.from_.length:=by omega
  obtain ⟨b,hb⟩:∃b,p.from_[k]=b:=⟨_,rfl⟩
  obtain ⟨a,ha⟩:∃a,p.args[k]=a:=⟨_,rfl⟩
  have hgf:p.from_[k]?=some b:=by rw[q2 hk2,hb]
  have hga:p.args[k]?=some a:=by rw[q2 (by omega),ha]
  obtain ⟨n0,hnb⟩:=hn b (hb▸q6 hk2)
  have hz:(gy p).take (k+1)=(gy p).take k++[(b,a)]:=by
   have e:(gy p)[k]?=some (b,a):=by
    unfold gy
    rw[List.getElem?_zip_eq_some]
    exact ⟨hgf,hga⟩
   rw[List.take_add_one,e];rfl
  have hno:¬(b∈fr∧0≤nm b)→be nm fr p (k+1)=be nm fr p k:=fun h=>by
   unfold be
   rw[hz,List.filter_append,List.filter_cons,if_neg (by simpa using h)];simp
  have hye:b∈fr∧0≤nm b→be nm fr p (k+1)=be nm fr p k++[(b,a)]:=fun h=>by
   unfold be
   rw[hz,List.filter_append,List.filter_cons,if_pos (by simpa using h)];rfl
  refine zf<|zb<|zh<|ai<|aa Z<|za (dG k j4 j9 Z Z Z hgf)<|aF jf Z<|aw Z<|aw Z<|z7<|ai<|aX Z<|aa Z<|ze (mf fr b (by omega)) Z<|aj Z<|zk (s:=24) Z (fun c1=>?_) (fun c1=>?_)
  ·refine z8 Z Z c1<|aX Z<|z8 Z Z c1<|aa Z<|z8 Z Z c1<|za (dG b.toNat j4 j9 Z Z (by omega) hnb)<|z8 Z Z c1<|aF jf Z<|z8 Z Z c1<|za (Gv.geq Z Z)<|ak Z c1 Z<|z7<|zt Z (fun c2=>?_) (fun c2=>?_)
   ·have hc:b∈fr∧0≤nm b:=⟨by simpa using c1,by omega⟩
    have hkl:(be nm fr p k).length≤k:=by unfold be;refine Nat.le_trans (List.length_filter_le _ _) ?_;rw[qc];omega
    have h1:(cI ((be nm fr p k).map fun z=>nm z.1)).length=(be nm fr p k).length*1:=by rw[cC,q9];omega
    have h2:(cI ((be nm fr p k).map (·.2))).length=(be nm fr p k).length*1:=by rw[cC,q9];omega
    have e1:cI ((be nm fr p k).map fun z=>nm z.1)++[AV.int .i64 (nm b)]=cI ((be nm fr p (k+1)).map fun z=>nm z.1):=by rw[hye hc,List.map_append,←lM];rfl
    have e2:cI ((be nm fr p k).map (·.2))++[AV.int .i64 a]=cI ((be nm fr p (k+1)).map (·.2)):=by rw[hye hc,List.map_append,←lM];rfl
    have e3:(be nm fr p (k+1)).length=(be nm fr p k).length+1:=by rw[hye hc,q8];rfl
    refine yn (γ:=Nat × Nat) [1,2,3,6,7,14,15,16] (fun g=>[]) (fun g=>[(i7,.cells 73 [.int .i64 p.dst,.own g.1 (be nm fr p (k+1)).length,.own g.2 (be nm fr p (k+1)).length]),(g.1,.grow 1 3 (cI ((be nm fr p (k+1)).map (·.2)))),(g.2,.grow 1 3 (cI ((be nm fr p (k+1)).map fun z=>nm z.1))),(i6,.cells 73 [.int .i64 0,.raw (.slice none 0 0),.raw (.slice none 0 0)])]) (fun g=>True) ?_ (fun _ _ h=>h) ?_
    ·refine ya (fun j=>Nat.beq j 18||Nat.beq j 20) (by kernel_rfl) Z (yh (.r (.rest _)))<|aN 0 Z (zd jc Z je (by decide) Z Z)<|aN 1 Z (zj (c:=.own _ _) jm Z ⟨_,.head⟩ Z)<|aN 2 Z (Am Z)<|aN 3 Z (kq Z)<|aN 4 Z (dG b.toNat j4 j9 Z Z (by omega) hnb)<|aN 5 Z (mK jf Z)<|aN 8 Z (zd jc Z je (by decide) Z Z)<|aN 9 Z (zj (c:=.own _ _) jm Z ⟨_,.head⟩ Z)<|bz.takeK (i:=10) Z (by kernel_rfl) (by kernel_rfl) (by kernel_rfl) (by kernel_rfl) (f9 jc Z je Z Z)<|bz.takeK (i:=11) Z (by kernel_rfl) (by kernel_rfl) (by kernel_rfl) (by kernel_rfl) (lx jm Z)<|bz.takeK (i:=12) Z (by kernel_rfl) (by kernel_rfl) (by kernel_rfl) (by kernel_rfl) (kq Z)<|bz.takeK (i:=13) Z (by kernel_rfl) (by kernel_rfl) (by kernel_rfl) (by kernel_rfl) (dG k j4 j9 Z Z Z hga)<|bz.takeK (i:=14) Z (by kernel_rfl) (by kernel_rfl) (by kernel_rfl) (by kernel_rfl) (mK jf Z)<|yv (i:=6) (j:=15) Z Z (by kernel_rfl) ?_ ?_
     ·refine y8 (rows:=[[_]]) eL Z Z Z Z Z<|z7<|yv (i:=7) (j:=15) Z Z (by kernel_rfl) ?_ ?_
      ·refine zr (k:=1) j4 Z4 Z Z Z Z Z (fun _=>.t1) h1 (by decide) Z (by show (_+1)*8≤_;omega) (by show _+1≤_;omega)<|fun i38=>z7<|aN 17 Z (zd jc Z je (by decide) Z Z)<|cP 15 Z<|y8 (rows:=[[_]]) eL Z Z Z Z Z<|z7<|cP 16 Z<|zr (k:=1) j4 Z4 Z Z Z Z Z (fun _=>.head) h2 (by decide) Z (by show (_+1)*8≤_;omega) (by show _+1≤_;omega)<|fun i47=>z7<|yc<|ye (i:=18) Z (by kernel_rfl) (by kernel_rfl)<|yb (l:=[_]) (new:=[_,_,_]) je Z Z Z Z Z Z .head Z Z<|z7<|ye (i:=19) Z (by kernel_rfl) (by kernel_rfl)<|za (zd jc Z je (by decide) Z Z)<|z7<|ye (i:=20) Z (by kernel_rfl) (by kernel_rfl)<|yb (l:=[_]) (new:=[_,_,_]) je Z Z Z Z Z Z .head Z Z<|z7<|yf (by kernel_rfl) ?_
       exact ⟨(i47,i38),qi,trivial,⟨_,(.refl _),by rw[←e1,←e2,e3];rfl⟩,trivial⟩
      ·refine y8 (rows:=[[_]]) eL Z Z Z Z Z<|z7<|cP 7 Z<|zr (k:=1) j4 Z4 Z Z Z Z Z (fun _=>.t1) h1 (by decide) Z (by show (_+1)*8≤_;omega) (by show _+1≤_;omega)<|fun i38=>z7<|aN 17 Z (zd jc Z je (by decide) Z Z)<|cP 16 Z<|zr (k:=1) j4 Z4 Z Z Z Z Z (fun _=>.head) h2 (by decide) Z (by show (_+1)*8≤_;omega) (by show _+1≤_;omega)<|fun i47=>z7<|yc<|ye (i:=18) Z (by kernel_rfl) (by kernel_rfl)<|yb (l:=[_]) (new:=[_,_,_]) je Z Z Z Z Z Z .head Z Z<|z7<|ye (i:=19) Z (by kernel_rfl) (by kernel_rfl)<|za (zd jc Z je (by decide) Z Z)<|z7<|ye (i:=20) Z (by kernel_rfl) (by kernel_rfl)<|yb (l:=[_]) (new:=[_,_,_]) je Z Z Z Z Z Z .head Z Z<|z7<|yf (by kernel_rfl) ?_
       exact ⟨(i47,i38),qi,trivial,⟨_,(.refl _),by rw[←e1,←e2,e3];rfl⟩,trivial⟩
     ·refine y8 (rows:=[[_]]) eL Z Z Z Z Z<|z7<|cP 6 Z<|y8 (rows:=[[_]]) eL Z Z Z Z Z<|z7<|cP 7 Z<|zr (k:=1) j4 Z4 Z Z Z Z Z (fun _=>.t1) h1 (by decide) Z (by show (_+1)*8≤_;omega) (by show _+1≤_;omega)<|fun i38=>z7<|aN 17 Z (zd jc Z je (by decide) Z Z)<|cP 16 Z<|zr (k:=1) j4 Z4 Z Z Z Z Z (fun _=>.head) h2 (by decide) Z (by show (_+1)*8≤_;omega) (by show _+1≤_;omega)<|fun i47=>z7<|yc<|ye (i:=18) Z (by kernel_rfl) (by kernel_rfl)<|yb (l:=[_]) (new:=[_,_,_]) je Z Z Z Z Z Z .head Z Z<|z7<|ye (i:=19) Z (by kernel_rfl) (by kernel_rfl)<|za (zd jc Z je (by decide) Z Z)<|z7<|ye (i:=20) Z (by kernel_rfl) (by kernel_rfl)<|yb (l:=[_]) (new:=[_,_,_]) je Z Z Z Z Z Z .head Z Z<|z7<|yf (by kernel_rfl) ?_
      exact ⟨(i47,i38),qi,trivial,⟨_,(.refl _),by rw[←e1,←e2,e3];rfl⟩,trivial⟩
    ·rintro ⟨ia,ib⟩ _
     refine bg<|aB Z Z<|aa Z<|z7 ?_
     exact ⟨(k+1,ia,ib),gY,aV,aU,hk2,by dsimp only;omega⟩
   ·have hc:¬(b∈fr∧0≤nm b):=fun h=>by omega
    refine zf<|bg<|aB Z Z<|aa Z<|z7 ?_
    exact ⟨(k+1,ia,ib),gY,aV,⟨_,(.refl _),by rw[hno hc]⟩,hk2,by dsimp only;omega⟩
  ·have hc:¬(b∈fr∧0≤nm b):=fun h=>by simp[h.1] at c1
   refine z6 Z Z c1<|z6 Z Z c1<|z6 Z Z c1<|z6 Z Z c1<|z6 Z Z c1<|al Z c1 Z<|z7<|yd Z Z<|zf<|bg<|aB Z Z<|aa Z<|z7 ?_
   exact ⟨(k+1,ia,ib),gY,aV,⟨_,(.refl _),by rw[hno hc]⟩,hk2,by dsimp only;omega⟩
 ·obtain rfl:k=p.from_.length:=by omega
  have hkt:be nm fr p p.from_.length=ff nm fr p:=by unfold be ff;rw[List.take_of_length_le (by omega)]
  rw[hkt,dv,dv]
  refine zz (yq (off:=1) (rows:=((ff nm fr p).map (·.2)).map bh) .t1 .head Z (by intro r hr;obtain ⟨z,_,rfl⟩:=List.mem_map.1 hr;rfl) (by decide) (by simp))<|zz (yq (off:=2) (rows:=((ff nm fr p).map fun z=>nm z.1).map bh) .t1 .head Z (by intro r hr;obtain ⟨z,_,rfl⟩:=List.mem_map.1 hr;rfl) (by decide) (by simp))<|zy<|ai<|za (yr Zf jp Z ⟨_,.head⟩ Z)<|zm jp Z Z Z Z Z Z .t1 Z<|z7<|zg<|dh.c1 Z ⟨_,.t1⟩ Zf jp Z ?_
  rfl
end
section
open Go.Proofs.Tryz
variable {α:Type}
def mg (k:Int):List (Int × List α)→List α
 |[]=>[]
 |(k',r)::es=>if k=k' then r else mg k es
def ms (k:Int) (r:List α):List (Int × List α)→List (Int × List α)
 |[]=>[(k,r)]
 |(k',r')::es=>if k=k' then (k,r)::es else (k',r')::ms k r es
def kv (k:Int):Value:=.int .i64 k
section
variable {E:World} {P:Program} {ops:Array Oper} {K:aK→OL→Prop} {env:aK} {O O' O'':OL} {rest:List Oper} {n:Nat}
variable {d ty:Nat} {pos:String} {af:Array Edge} {x y z:Operand} {t u e T kt:TypeId} {b:Nat}
end
end
section
open Go.Proofs.Tryz
open Go.Proofs
section
variable {E:World} {P:Program} {ops:Array Oper} {K:aK→OL→Prop} {env:aK} {O O' O'':OL} {rest:List Oper} {n:Nat}
variable {d ty:Nat} {pos:String} {af:Array Edge} {x y z:Operand} {t u e T:TypeId}
end
end
section
open Go.Proofs.Tryz
open Go.Proofs
end
section
open Go.Proofs.Tryz
open Go.Proofs
end
section
open Go.Proofs.Tryz
def wu (X:OL):bo:=.heapG (fun I L=>∃L',bA I X L'∧L.Perm L') fun I J L h hp=>by obtain ⟨L',h1,h2⟩:=hp;exact ⟨L',h1.mono h,h2⟩
section
variable {E:World} {env:aK} {O O1 O':OL} {m i:Nat} {o:bo} {X X':OL}
theorem bc.bagNew:bc E env O env ((0,wu [])::O):=fun I F ρ w h1 ⟨ht,L,hL,hS⟩=>⟨I,.refl _,h1,ht,L,⟨[],L,rfl,⟨[],rfl,.refl _⟩,hL⟩,hS⟩
theorem bc.bagOut (hX:X.Perm ((i,o)::X')) (hO:fe O m (wu X) (wu X') O'):bc E env O env ((i,o)::O'):=fun I F ρ w h1 ⟨ht,L,hL,hS⟩=>by
 obtain ⟨A,B,hp,⟨L',hA,hpA⟩,hback⟩:=hO.rep hL
 obtain ⟨L2,h2,h3⟩:=hA.perm hX
 obtain ⟨C,D,rfl,h4,h5⟩:=h2
 obtain ⟨L3,h6,h7⟩:=hback (G.le.refl I) (A':=D) ⟨D,h5,.refl _⟩
 refine ⟨I,.refl _,h1,ht,C++L3,⟨C,L3,Z,h4,h6⟩,hS.perm (List.Perm.append_right F ?_)⟩
 refine (h7.append_left C).trans ?_
 rw[←q4]
 exact (((hpA.trans h3).append_right B).symm).trans hp.symm
theorem bc.bagIn (hP:cS O i o O1) (hX:((i,o)::X).Perm X') (hO:fe O1 m (wu X) (wu X') O'):bc E env O env O':=fun I F ρ w h1 ⟨ht,L,hL,hS⟩=>by
 obtain ⟨A,B,hp,hA,hB⟩:=hP.rep hL
 obtain ⟨A2,B2,hp2,⟨L',h3,h4⟩,hback⟩:=hO.rep hB
 obtain ⟨L4,h5,h6⟩:=(show bA I ((i,o)::X) (A++L') from ⟨A,L',rfl,hA,h3⟩).perm hX
 obtain ⟨L5,h7,h8⟩:=hback (G.le.refl I) (A':=A++A2) ⟨L4,h5,(h4.append_left A).trans h6⟩
 refine ⟨I,.refl _,h1,ht,L5,h7,hS.perm (List.Perm.append_right F ?_)⟩
 refine h8.trans ?_
 rw[q4]
 exact ((hp2.append_left A).symm).trans hp.symm
end
section
variable {E:World} {env:aK} {O O1 O':OL} {m i k:Nat} {T:TypeId} {cs cs':List AV} {X:OL}
end
end
section
open Go.Proofs.Tryz
open Go.Proofs Go.Lib Go.Shelf Go.RowKit
set_option maxRecDepth 20000
variable {E:World}
theorem pE {α β γ:Type} (g:α→β→γ) {xs:List α} {ys:List β} {k:Nat} (a:α) (h:xs.length=k) (hk:k<ys.length):List.zipWith g (xs++[a]) (ys.take (k+1))=List.zipWith g xs (ys.take k)++[g a ys[k]]:=by
 rw[q3 hk,List.zipWith_append (by rw[qc];omega)];rfl
end
section
open Go.Proofs.Tryz
open Go.Proofs Go.Lib Go.Shelf Go.RowKit
set_option maxRecDepth 20000
variable {E:World}
def blkP (i:Nat) (b:az):List AV:=[.str b.name,.own i b.phis.length,.fro 4 (b.insts.map aZ),.int .i64 b.term.kind,.int .i64 b.term.var,.int .i64 b.term.to0,.int .i64 b.term.to1]
def eg (ids:List Nat) (bs:List az):List AV:=(List.zipWith blkP ids bs).flatten
def Bg (i:Nat) (b:az):Nat × bo:=(i,.grow 3 73 (b.phis.map aL).flatten)
def eV (ids:List Nat) (bs:List az):OL:=List.zipWith Bg ids bs
theorem rh {ids:List Nat} {bs:List az} {k:Nat} (a:Nat) (h:ids.length=k) (hk:k<bs.length):eg ids (bs.take k)++[blkP a bs[k]].flatten=eg (ids++[a]) (bs.take (k+1)):=by
 unfold eg;rw[pE blkP a h hk,List.flatten_append]
theorem ri {ids:List Nat} {bs:List az} {k:Nat} (a:Nat) (h:ids.length=k) (hk:k<bs.length):(Bg a bs[k]::eV ids (bs.take k)).Perm (eV (ids++[a]) (bs.take (k+1))):=by
 unfold eV;rw[pE Bg a h hk];exact (List.perm_append_comm (l₁:=[_]))
theorem iH (i:Nat) (ids:List Nat) (b:az) (bs:List az):eg (i::ids) (b::bs)=blkP i b++eg ids bs:=by unfold eg;rw[List.zipWith_cons_cons,List.flatten_cons]
theorem gR:∀{ids:List Nat} {bs:List az},ids.length=bs.length→(eg ids bs).length=bs.length*7
 |[],[],_=>rfl
 |i::ids,b::bs,h=>by
  have:=gR (ids:=ids) (bs:=bs) (by simpa using h)
  rw[iH,q8,this,List.length_cons,Nat.add_mul]
  show 7+_=_
  omega
theorem nw:∀{ids:List Nat} {bs:List az} {p i:Nat} {b:az},ids[p]?=some i→bs[p]?=some b→((eg ids bs).drop (p*7)).take 7=blkP i b
 |[],_,p,_,_,h,_=>by simp at h
 |_::_,[],p,_,_,_,h=>by simp at h
 |j::ids,c::bs,0,i,b,h1,h2=>by
  simp at h1 h2
  subst h1 h2
  rw[iH];rfl
 |j::ids,c::bs,p+1,i,b,h1,h2=>by
  have h:=nw (ids:=ids) (bs:=bs) (p:=p) (i:=i) (b:=b) (by simpa using h1) (by simpa using h2)
  rw[iH,show (p+1)*7=(p*7)+7 by omega]
  exact h
set_option maxHeartbeats 4000000 in
theorem wv (f:ae) (hf:small f):bV prog E 21 [.agg (bC f)] [] (fun x O'=>∃g:Nat × List Nat,x=.agg [.fro 2 (f.vars.map ba),.fro 1 (f.params.map bh),.own g.1 f.blocks.length]∧O'=[(g.1,.grow 7 60 (eg g.2 f.blocks)),(0,wu (eV g.2 f.blocks))]∧g.2.length=f.blocks.length):=by
 refine bV.exact (γ:=Nat × List Nat) (x:=fun g=>.agg [.fro 2 (f.vars.map ba),.fro 1 (f.params.map bh),.own g.1 f.blocks.length]) (M:=fun g=>[(g.1,.grow 7 60 (eg g.2 f.blocks)),(0,wu (eV g.2 f.blocks))]) (p:=fun g=>g.2.length=f.blocks.length) ?_
 obtain ⟨hf1,hf2,hf3,hf4,hf5⟩:=hf
 refine zo func21 Z (by decide) Z<|ai<|y9 (cs:=_) Z Z Z<|zp (cs:=[.raw (.slice none 0 0),.raw (.slice none 0 0),.raw (.slice none 0 0)]) jq Z Z<|fun i2=>z7<|zb<|yn (γ:=Nat) [1,2] (fun i=>[(3,.po i 0)]) (fun i=>[(i,.cells 26 [.fro 2 (f.vars.map ba),.fro 1 (f.params.map bh),.raw (.slice none 0 0)]),(i2,.cells 26 [.raw (.slice none 0 0),.raw (.slice none 0 0),.raw (.slice none 0 0)])]) (fun i=>True) ?_ (fun _ _ h=>h) ?_
 ·refine ya (fun j=>Nat.beq j 8) (by kernel_rfl) Z (yh (.rest _))<|aN 0 Z (f9 j6 Z Za Z Z)<|aN 1 Z (lx Zi Z)<|aN 3 Z (f9 j6 Z je Z Z)<|aN 4 Z (lx jm Z)<|yv (i:=2) (j:=7) Z Z (by kernel_rfl) ?_ ?_
  ·refine ze (fh _ (by omega)) Z<|z7<|yv (i:=5) (j:=7) Z Z (by kernel_rfl) ?_ ?_
   ·refine ze (bF _ (by omega)) Z<|z7<|aN 6 Z (zw (cps:=[(0,[_]),(1,[_])]) (rs:=[_,_,.raw (.slice none 0 0)]) eM Z Z Z)<|cP 7 Z<|zp (cs:=[.raw (.slice none 0 0),.raw (.slice none 0 0),.raw (.slice none 0 0)]) jq Z Z<|fun i3=>z7<|yc<|ye (i:=8) Z (by kernel_rfl) (by kernel_rfl)<|zm j8 Z Z Z Z Z Z .head Z<|z7<|yf (by kernel_rfl) ?_
    exact ⟨i3,fF,aV,aU,trivial⟩
   ·refine zp (cs:=[.raw (.slice none 0 0),.raw (.slice none 0 0),.raw (.slice none 0 0)]) jq Z Z<|fun i3=>z7<|cP 5 Z<|ze (bF _ (by omega)) Z<|z7<|aN 6 Z (zw (cps:=[(0,[_]),(1,[_])]) (rs:=[_,_,.raw (.slice none 0 0)]) eM Z Z Z)<|yc<|ye (i:=8) Z (by kernel_rfl) (by kernel_rfl)<|zm j8 Z Z Z Z Z Z .head Z<|z7<|yf (by kernel_rfl) ?_
    exact ⟨i3,fF,aV,aU,trivial⟩
  ·refine zp (cs:=[.raw (.slice none 0 0),.raw (.slice none 0 0),.raw (.slice none 0 0)]) jq Z Z<|fun i3=>z7<|cP 2 Z<|ze (fh _ (by omega)) Z<|z7<|cP 5 Z<|ze (bF _ (by omega)) Z<|z7<|aN 6 Z (zw (cps:=[(0,[_]),(1,[_])]) (rs:=[_,_,.raw (.slice none 0 0)]) eM Z Z Z)<|yc<|ye (i:=8) Z (by kernel_rfl) (by kernel_rfl)<|zm j8 Z Z Z Z Z Z .head Z<|z7<|yf (by kernel_rfl) ?_
   exact ⟨i3,fF,aV,aU,trivial⟩
 ·rintro i3 _
  refine zb<|ai<|ap j6 Z ji Z Z<|aP js Z<|ac ja Z<|aa Z<|z7<|bJ (off:=2) (k:=7) (T:=60) (fun _=>.head) Z<|fun ib=>zz bc.bagNew<|zz (zn (zq .t1))<|zh<|y7 (γ:=Nat × Nat × List Nat) [2,3,19,20] (fun g=>[(21,.int .i64 g.1)]) (fun g=>[(g.2.1,.grow 7 60 (eg g.2.2 (f.blocks.take g.1))),(0,wu (eV g.2.2 (f.blocks.take g.1))),(i3,.cells 26 [.fro 2 (f.vars.map ba),.fro 1 (f.params.map bh),.own g.2.1 g.1]),(i2,.cells 26 [.raw (.slice none 0 0),.raw (.slice none 0 0),.raw (.slice none 0 0)])]) (fun g=>g.1≤f.blocks.length∧g.2.2.length=g.1) (fun g=>f.blocks.length - g.1) (0,ib,[]) aV aU (⟨q5 _,Z⟩) ?_
  rintro ⟨k,ib,ids⟩ ⟨hk,hids⟩
  try dsimp only at *
  refine ai<|ay Z Z<|z7<|zb<|zt Z (fun ck=>?_) (fun ck=>?_)
  ·have hk2:k<f.blocks.length:=by omega
   obtain ⟨hb0,hb1,hb2,hb3,hb4⟩:=hf5 _ (q6 hk2)
   refine zf<|zb<|zh<|ai<|za (yk ja jj Z Z Z (q2 (by omega)))<|ab Z7 jj Z Z<|zp (cs:=[.str ⟨#[]⟩,.raw (.slice none 0 0),.raw (.slice none 0 0),.int .i64 0,.int .i64 0,.int .i64 0,.int .i64 0]) ju Z Z<|fun i5=>zm jj Z Z Z Z Z Z .head Z<|z7<|ai<|za (zd j5 Z jy (by decide) Z Z)<|za (zj (c:=.str _) Z1 Z ⟨_,.head⟩ Z)<|za (zd j5 Z jn (by decide) Z Z)<|za (Gv.loadAC (l:=[_,_,_,_]) Zo jn Z ⟨_,.head⟩ Z Z)<|za (zw (cps:=[(0,[_]),(3,[_,_,_,_])]) (rs:=[_,.raw (.slice none 0 0),.raw (.slice none 0 0),_,_,_,_]) Db Z Z Z)<|zp (cs:=[.str ⟨#[]⟩,.raw (.slice none 0 0),.raw (.slice none 0 0),.int .i64 0,.int .i64 0,.int .i64 0,.int .i64 0]) ju Z Z<|fun i6=>zm jj Z Z Z Z Z Z .head Z<|z7<|zb<|ai<|za (zd j5 Z jw (by decide) Z Z)<|za (zj (c:=.fro _ _) Z8 Z ⟨_,.t1⟩ Z)<|ac jl Z<|aa Z<|z7<|bJ (off:=1) (k:=3) (T:=73) (fun _=>.head) Z<|fun ip=>zz (zn (zq .t1))<|zh<|y7 (γ:=Nat × Nat) [2,3,5,6,19,20,21,31,32] (fun g=>[(33,.int .i64 g.1)]) (fun g=>[(i6,.cells 60 [.str f.blocks[k].name,.own g.2 g.1,.raw (.slice none 0 0),.int .i64 f.blocks[k].term.kind,.int .i64 f.blocks[k].term.var,.int .i64 f.blocks[k].term.to0,.int .i64 f.blocks[k].term.to1]),(g.2,.grow 3 73 ((f.blocks[k].phis.take g.1).map aL).flatten),(i5,.cells 60 (aE f.blocks[k])),(ib,.grow 7 60 (eg ids (f.blocks.take k))),(0,wu (eV ids (f.blocks.take k))),(i3,.cells 26 [.fro 2 (f.vars.map ba),.fro 1 (f.params.map bh),.own ib k]),(i2,.cells 26 [.raw (.slice none 0 0),.raw (.slice none 0 0),.raw (.slice none 0 0)])]) (fun g=>g.1≤f.blocks[k].phis.length) (fun g=>f.blocks[k].phis.length - g.1) (0,ip) aV aU (q5 _) ?_
   rintro ⟨m,ip⟩ hm
   try dsimp only at *
   refine ai<|ay Z Z<|z7<|zb<|zt Z (fun cm=>?_) (fun cm=>?_)
   ·have hm2:m<f.blocks[k].phis.length:=by omega
    obtain ⟨hp1,hp2⟩:=hb3 _ (q6 hm2)
    refine zf<|zb<|zh<|ai<|za (yk jl jp Z Z Z (q2 (by omega)))<|ab Zf jp Z Z<|zp (cs:=[.int .i64 0,.raw (.slice none 0 0),.raw (.slice none 0 0)]) jz Z Z<|fun i8=>zm jp Z Z Z Z Z Z .head Z<|z7<|ya (fun j=>Nat.beq j 14) (by kernel_rfl) Z (yh (.r (.r (.rest _))))<|aN 0 Z (zd j5 Z jw (by decide) Z Z)<|aN 1 Z (zj (c:=.own _ _) Z8 Z ⟨_,.t1⟩ Z)<|aN 2 Z (zd jc Z j9 (by decide) Z Z)<|aN 3 Z (zj (c:=.int _ _) jf Z ⟨_,.head⟩ Z)<|aN 4 Z (zd jc Z je (by decide) Z Z)<|aN 5 Z (zj (c:=.fro _ _) jm Z ⟨_,.head⟩ Z)<|aN 7 Z (zd jc Z je (by decide) Z Z)<|aN 8 Z (zj (c:=.fro _ _) jm Z ⟨_,.head⟩ Z)<|cP 6 Z<|ze (bF _ (by omega)) Z<|z7<|cP 9 Z<|ze (bF _ (by omega)) Z<|z7<|aN 10 Z (zw (cps:=[(0,[_]),(1,[_]),(2,[_])]) (rs:=[_,_,_]) AM Z Z Z)<|cP 11 Z<|y8 (rows:=[[_,_,_]]) qz Z Z Z Z Z<|z7<|cP 12 Z<|zr (k:=3) jl type73 Z Z Z Z Z (fun _=>.head) (by rw[bW (k:=3) (fun _=>rfl),qc,Nat.min_eq_left hm]) (by decide) Z (by show (_+_)*56≤_;simp<;>omega) (by simp<;>omega)<|fun i49=>z7<|aN 13 Z (zd j5 Z jw (by decide) Z Z)<|yc<|ye (i:=14) Z (by kernel_rfl) (by kernel_rfl)<|yb (l:=[_]) (new:=[_,_,_,_,_,_,_]) jw Z Z Z Z Z Z .t1 Z Z<|z7<|yf (by kernel_rfl)<|bg<|aB Z Z ?_
    refine aa Z<|z7 ?_
    exact ⟨(m+1,i49),ne,aV,⟨_,(.drop (.refl _)),by rw[←dB (q3 hm2)];rfl⟩,hm2,by dsimp only;omega⟩
   ·obtain rfl:m=f.blocks[k].phis.length:=by omega
    refine zy<|zb<|ai<|za (zd j5 Z Z0 (by decide) Z Z)<|za (zj (c:=.fro _ _) Ze Z ⟨_,.t2⟩ Z)<|ac jo Z<|aa Z<|z7<|bJ (off:=2) (k:=4) (T:=69) (fun _=>.head) Z<|fun ii=>zh<|y7 (γ:=Nat × Nat) [2,3,6,19,20,21,53,54] (fun g=>[(55,.int .i64 g.1)]) (fun g=>[(g.2,.grow 4 69 ((f.blocks[k].insts.take g.1).map aZ).flatten),(i6,.cells 60 [.str f.blocks[k].name,.own ip f.blocks[k].phis.length,.own g.2 g.1,.int .i64 f.blocks[k].term.kind,.int .i64 f.blocks[k].term.var,.int .i64 f.blocks[k].term.to0,.int .i64 f.blocks[k].term.to1]),(ip,.grow 3 73 (f.blocks[k].phis.map aL).flatten),(i5,.cells 60 (aE f.blocks[k])),(ib,.grow 7 60 (eg ids (f.blocks.take k))),(0,wu (eV ids (f.blocks.take k))),(i3,.cells 26 [.fro 2 (f.vars.map ba),.fro 1 (f.params.map bh),.own ib k]),(i2,.cells 26 [.raw (.slice none 0 0),.raw (.slice none 0 0),.raw (.slice none 0 0)])]) (fun g=>g.1≤f.blocks[k].insts.length) (fun g=>f.blocks[k].insts.length - g.1) (0,ii) aV ⟨_,(.refl _),by rw[q7];rfl⟩ (q5 _) ?_
    rintro ⟨m,ii⟩ hm
    try dsimp only at *
    refine ai<|ay Z Z<|z7<|zb<|zt Z (fun cm=>?_) (fun cm=>?_)
    ·have hm2:m<f.blocks[k].insts.length:=by omega
     have hp1:=hb4 _ (q6 hm2)
     refine zf<|zb<|zh<|ai<|za (yk jo jt Z Z Z (q2 (by omega)))<|ab Zm jt Z Z<|zp (cs:=[.int .i64 0,.int .i64 0,.raw (.slice none 0 0),.int .i64 0]) Zg Z Z<|fun i10=>zm jt Z Z Z Z Z Z .head Z<|z7<|ai<|za (zd jd Z je (by decide) Z Z)<|za (zj (c:=.fro _ _) jm Z ⟨_,.head⟩ Z)<|ze (bF _ (by omega)) Z<|za (zd jd Z je (by decide) Z Z)<|yb (l:=[_]) (new:=[_,_,_,_]) je Z Z Z Z Z Z .head Z Z<|z7<|bg<|za (zd j5 Z Z0 (by decide) Z Z)<|za (zj (c:=.own _ _) Ze Z ⟨_,.t2⟩ Z)<|za (yr Zm jt Z ⟨_,.head⟩ Z)<|y8 (rows:=[[_,_,_,_]]) qB Z Z Z Z Z<|zr (k:=4) jo type69 Z Z Z Z Z (fun _=>.t1) (by rw[bW (k:=4) (fun _=>rfl),qc,Nat.min_eq_left hm]) (by decide) Z (by show (_+_)*48≤_;simp<;>omega) (by simp<;>omega)<|fun i67=>za (zd j5 Z Z0 (by decide) Z Z)<|yb (l:=[_]) (new:=[_,_,_,_,_,_,_]) Z0 Z Z Z Z Z Z .t2 Z Z<|z7<|bg<|aB Z Z<|aa Z<|z7 ?_
     exact ⟨(m+1,i67),qi,aV,⟨_,(.drop (.refl _)),by rw[←dB (q3 hm2)];rfl⟩,hm2,by dsimp only;omega⟩
    ·obtain rfl:m=f.blocks[k].insts.length:=by omega
     rw[q7]
     refine zy<|zz (yq (off:=2) (rows:=f.blocks[k].insts.map aZ) .head .head Z (by simp[bh,ba,aL,aZ,aE]) (by decide) (by simp))<|bg<|za (zd j6 Z ji (by decide) Z Z)<|za (zj (c:=.own _ _) js Z ⟨_,.t5⟩ Z)<|za (yr Z7 jj Z ⟨_,.head⟩ Z)<|y8 (rows:=[[_,_,_,_,_,_,_]]) iy Z Z Z Z Z<|zr (k:=7) ja type60 Z Z Z Z Z (fun _=>.t3) (by rw[gR (by rw[qc];omega),qc,Nat.min_eq_left hk]) (by decide) Z (by show (_+_)*96≤_;simp<;>omega) (by simp<;>omega)<|fun i74=>za (zd j6 Z ji (by decide) Z Z)<|yb (l:=[_]) (new:=[_,_,_]) ji Z Z Z Z Z Z .t5 Z Z<|z7<|zz (bc.bagIn (X':=eV (ids++[ip]) (f.blocks.take (k+1))) .t1 (ri ip hids hk2) .t3)<|bg<|aB Z Z<|aa Z<|z7 ?_
     exact ⟨(k+1,i74,ids++[ip]),fv,aV,⟨_,(.drop (.drop (.refl _))),by rw[←rh ip hids hk2];rfl⟩,⟨hk2,by simp[hids]⟩,by dsimp only;omega⟩
  ·obtain rfl:k=f.blocks.length:=by omega
   rw[q7]
   refine zy<|ai<|za (yr jh j8 Z ⟨_,.t2⟩ Z)<|zm j8 Z Z Z Z Z Z .t3 Z<|z7<|zg<|dh.c1 Z ⟨_,.t3⟩ jh j8 Z ?_
   exact ⟨(ib,ids),rfl,⟨_,.keep (.keep (.drop (.drop (.refl _)))),rfl⟩,hids⟩
end
section
open Go.Proofs.Tryz
open Go.Proofs Go.Lib Go.Shelf Go.RowKit
variable {E:World}
set_option maxRecDepth 20000
def dH (f:ae) (k:Nat):Nat:=((List.range k).filter fun (b:Nat)=>decide ((b:Int)∈eh f)).length
theorem dD (f:ae) (k:Nat):dH f (k+1)=dH f k+if (k:Int)∈eh f then 1 else 0:=by
 unfold dH
 rw[List.range_succ,List.filter_append,q8,List.filter_cons]
 congr 1
 by_cases h:(k:Int)∈eh f
 ·rw[if_pos h,if_pos (qe h)];rfl
 ·rw[if_neg h,if_neg (by simpa using h)];rfl
theorem k8 (f:ae) (k:Nat):dH f k≤k:=by unfold dH;refine Nat.le_trans (List.length_filter_le _ _) ?_;rw[List.length_range];omega
theorem Df {f:ae} (hE:bk f) {k:Nat} (h:(k:Int)∈eh f):(gB f)[dH f k]?=some k:=by
 have hk:=bm hE.grph.toEOk h
 obtain ⟨d,hd⟩:∃d,f.blocks.length=k+(d+1):=⟨f.blocks.length - k - 1,by omega⟩
 unfold gB dH
 rw[hd,List.range_add,List.filter_append,List.getElem?_append_right (Nat.le_refl _),Nat.sub_self,List.range_succ_eq_map,List.map_cons,List.filter_cons,if_pos (by simpa using h)];rfl
theorem n5 {f:ae} (hE:bk f) (k:Nat):bO f k=if (k:Int)∈eh f then (dH f k:Int) else -1:=by
 by_cases h:(k:Int)∈eh f
 ·rw[if_pos h];exact nX hE (Df hE h)
 ·rw[if_neg h];unfold bO;rw[if_neg h]
def fA (f:ae) (k:Nat):List Int:=(List.range f.blocks.length).map fun (b:Nat)=>if b<k then bO f b else 0
theorem gF (f:ae) (k:Nat):(fA f k).length=f.blocks.length:=by unfold fA;simp
theorem ww (f:ae):fA f 0=List.replicate f.blocks.length 0:=by
 apply List.ext_getElem
 ·simp[fA]
 ·intro i h1 h2;simp[fA]
theorem pF {f:ae} {k i:Nat} (h:i<(fA f k).length):(fA f k)[i]=if i<k then bO f i else 0:=by
 simp[fA]
theorem pG {f:ae} {k:Nat} (h:k<f.blocks.length):(fA f k).set k (bO f k)=fA f (k+1):=by
 apply List.ext_getElem
 ·simp[fA]
 ·intro i h1 h2
  rw[List.getElem_set,pF,pF]
  by_cases e:k=i
  ·subst e;rw[if_pos rfl,if_pos (by omega)]
  ·rw[if_neg e]
   by_cases hl:i<k
   ·rw[if_pos hl,if_pos (by omega)]
   ·rw[if_neg hl,if_neg (by omega)]
theorem mh {f:ae} {b:Int} (h0:0≤b) (h1:b<f.blocks.length):(fA f f.blocks.length)[b.toNat]?=some (bO f b):=by
 unfold fA
 rw[qa,List.getElem?_range (by omega)]
 show some (if b.toNat<_ then bO f (b.toNat:Int) else 0)=_
 rw[if_pos (by omega),Int.toNat_of_nonneg h0]
def mX (f:ae) (k:Nat):List az:=((List.range k).filter fun (b:Nat)=>decide ((b:Int)∈eh f)).map fun b=>eP (bO f) (cY f b) (bu f b)
theorem k9 (f:ae) (k:Nat):(mX f k).length=dH f k:=q9 ..
theorem jD (f:ae) (k:Nat):mX f (k+1)=mX f k++if (k:Int)∈eh f then[eP (bO f) (cY f k) (bu f k)] else[]:=by
 unfold mX
 rw[List.range_succ,List.filter_append,List.map_append,List.filter_cons]
 congr 1
 by_cases h:(k:Int)∈eh f
 ·rw[if_pos h,if_pos (qe h)];rfl
 ·rw[if_neg h,if_neg (by simpa using h)];rfl
def eT (f:ae) (b:az) (g:Nat):Int × Int:=(if 0<g then bO f (((aO b.term)[0]?).getD 0) else b.term.to0,if 1<g then bO f (((aO b.term)[1]?).getD 0) else b.term.to1)
def n6 (f:ae) (k:Nat) (b:az) (m:Nat):List bM:=(b.phis.take m).map (bS (bO f) (cY f k))++b.phis.drop m
theorem Bh {f:ae} {b:az} (h1:b.term.kind=1) (h2:b.term.to0=b.term.to1):(⟨b.term.kind,b.term.var,(eT f b (aO b.term).length).1,(eT f b (aO b.term).length).1⟩:b9)=gX id (bO f) b.term:=by
 have e:aO b.term=[b.term.to0]:=by unfold aO;rw[if_neg (by omega),if_pos h1,if_pos h2]
 unfold eT gX
 rw[e,if_neg (show ¬b.term.kind=0 by omega),if_pos h1,←h2];rfl
theorem Dg {f:ae} {b:az} (h1:b.term.kind=1) (h2:¬b.term.to0=b.term.to1):(⟨b.term.kind,b.term.var,(eT f b (aO b.term).length).1,(eT f b (aO b.term).length).2⟩:b9)=gX id (bO f) b.term:=by
 have e:aO b.term=[b.term.to0,b.term.to1]:=by unfold aO;rw[if_neg (by omega),if_pos h1,if_neg h2]
 unfold eT gX
 rw[e,if_neg (show ¬b.term.kind=0 by omega),if_pos h1];rfl
theorem Dh {f:ae} {b:az} (h1:¬b.term.kind=1):(⟨b.term.kind,b.term.var,(eT f b (aO b.term).length).1,(eT f b (aO b.term).length).2⟩:b9)=gX id (bO f) b.term:=by
 unfold gX
 by_cases h0:b.term.kind=0
 ·have e:aO b.term=[b.term.to0]:=by unfold aO;rw[if_pos h0]
  unfold eT
  rw[e,if_pos h0];rfl
 ·have e:aO b.term=[]:=by unfold aO;rw[if_neg h0,if_neg h1]
  unfold eT
  rw[e,if_neg h0,if_neg h1];rfl
theorem pH {f:ae} {k:Nat} {b:az} {m:Nat} (hm:m<b.phis.length):((n6 f k b m).map aL).flatten=(((b.phis.take m).map (bS (bO f) (cY f k))).map aL).flatten++(aL b.phis[m]++((b.phis.drop (m+1)).map aL).flatten):=by
 unfold n6
 rw[List.drop_eq_getElem_cons hm,List.map_append,List.flatten_append,List.map_cons,List.flatten_cons]
theorem n7 {f:ae} {k:Nat} {b:az} {m:Nat} (hm:m<b.phis.length):((((b.phis.take m).map (bS (bO f) (cY f k))).map aL).flatten).length=m*3:=by
 rw[bW (k:=3) (fun _=>rfl),q9,qc,Nat.min_eq_left (by omega)]
theorem Bi {f:ae} {k:Nat} {b:az} {m:Nat} (hm:m<b.phis.length):((((n6 f k b m).map aL).flatten).drop (m*3)).take 3=aL b.phis[m]:=by
 rw[pH hm,List.drop_left' (n7 hm)]
 exact List.take_left' rfl
theorem Bj {f:ae} {k:Nat} {b:az} {m:Nat} (hm:m<b.phis.length):(((n6 f k b m).map aL).flatten).take (m*3)++aL (bS (bO f) (cY f k) b.phis[m])++(((n6 f k b m).map aL).flatten).drop (m*3+3)=((n6 f k b (m+1)).map aL).flatten:=by
 rw[pH hm,List.take_left' (n7 hm),←List.drop_drop,List.drop_left' (n7 hm),List.drop_left' (show (aL b.phis[m]).length=3 from rfl)]
 unfold n6
 rw[q3 hm]
 simp only[List.map_append,List.map_cons,List.map_nil,List.flatten_append,List.flatten_cons,List.flatten_nil,List.append_nil,q4]
set_option maxHeartbeats 8000000 in
theorem wx (f:ae) (hf:small f) (hL:ah E) (ht:aS f=true) (hpt:aS (bt f)=true∧eb (bt f)):aT prog E 22 [.agg (bC f)] (.tup [.agg (bC (bt f)),.int .i64 0]):=by
 have hn:=hf.2.2.1
 have hE:=eS ht
 have hS:=eR ht
 have hfr:∀{k:Nat},(cY f k).length≤100000:=fun {k}=>by
  have h1:=List.Nodup.length_le_of_subset (l₂:=cV f.blocks.length) (cR (fun b=>cf f b) f.blocks.length k).1 fun x hx=>by
   have h2:=(bI hE.grph.toEOk hE.grph.out).1 hx
   refine fH.2 (Classical.byContradiction fun hn=>?_)
   rw[hE.grph.out x hn] at h2;cases h2
  rw[dS] at h1
  show (bn _ _ _).length≤_
  omega
 have hright:=iG (E:=E) f hf hL
 rw[ht] at hright
 have hjo:=eu (E:=E) (bt f) (kB hf) hL
 rw[hpt.1,(kx _).2 hpt.2] at hjo
 have hjo:aT prog E 20 [.agg (bC (bt f))] (.int .i64 0):=hjo
 refine zo func22 Z (by decide) Z<|ai<|y9 (cs:=_) Z Z Z<|zp (cs:=[.raw (.slice none 0 0),.raw (.slice none 0 0),.raw (.slice none 0 0)]) jq Z Z<|fun i2=>aw Z<|z7<|zb<|ai<|ab jh j8 Z Z<|ze (hright) Z<|aH Z<|z7<|yd Z Z<|zf<|zb<|ya (fun j=>false) (by kernel_rfl) Z (yh (.rest _))<|aN 0 Z (yo jh j8 Z Z)<|aN 2 Z (yo jh j8 Z Z)<|cP 1 Z<|ze (qW f hE hn) Z<|z7<|cP 3 Z<|ze (ir f hE (by omega)) Z<|z7<|aN 4 Z (w8 Z)<|aN 5 Z (w8 Z)<|kV<|ai<|ap j6 Z ji Z Z<|aP js Z<|ac ja Z<|ao.makeI (m:=f.blocks.length) j4 Z4 Z Z Z Z Z (by simp) (by simp) (by show (8:Int)*_≤_;omega) (by omega)<|fun i27=>za (mQ Z)<|aw Z<|z7<|zb<|ai<|za (iL Z)<|za (Gv.lenO j4 Z) ?_
 refine aa Z<|z7<|zh<|y7 (γ:=Nat) [1,2,4,5,6,29] (fun g=>[(30,.int .i64 g),(7,.int .i64 (dH f g))]) (fun g=>[(i27,.grow 1 3 (cI (fA f g))),(i2,.cells 26 [.raw (.slice none 0 0),.raw (.slice none 0 0),.raw (.slice none 0 0)])]) (fun g=>g≤f.blocks.length) (fun g=>f.blocks.length - g) 0 fF ⟨_,(.refl _),by rw[ww];rfl⟩ (q5 _) ?_
 rintro k hk
 refine ai<|ay Z Z<|z7<|zb<|zt Z (fun ck=>?_) (fun ck=>?_)
 ·have hk2:k<f.blocks.length:=by omega
  have hcl:=k8 f k
  have hgb:=lI (E:=au f) hE.grph.toEOk hk2
  refine zf<|zb<|zh<|ai<|aa Z<|aw Z<|z7<|ai<|za (iL Z)<|aa Z<|za (Gv.idxI (j:=k) j4 j9 Z Z Z ⟨_,.head⟩ (by rw[cC,gF]) hk2)<|ao.storeI (j:=k) j9 Z Z .head (by rw[gF];exact hk2)<|z7<|ai<|aX Z<|aa Z<|za (dG k jx Z9 Z Z Z hgb)<|za (Gv.load1F (c:=.bool _) isAgg4 Z)<|z7<|zt Z (fun cr=>?_) (fun cr=>?_)
  ·have cr:(k:Int)∈eh f:=by first|exact cr|(have h:=cr;simp at h;exact h)
   have hset:((fA f k).set k (-1)).set k (dH f k:Int)=fA f (k+1):=by rw[List.set_set,←pG hk2,n5 hE,if_pos cr]
   refine ai<|za (iL Z)<|aa Z<|aa Z<|za (Gv.idxI (j:=k) j4 j9 Z Z Z ⟨_,.head⟩ (by rw[cC,List.length_set,gF]) hk2)<|ao.storeI (j:=k) j9 Z Z .head (by rw[List.length_set,gF];exact hk2)<|z7<|bg<|aa Z<|aB Z Z<|aw Z<|z7<|bg<|aB Z Z<|aa Z<|z7 ?_
   exact ⟨k+1,Ax,⟨rfl,congrArg (AV.int .i64) (by rw[dD,if_pos cr];push_cast;rfl),trivial⟩,⟨_,(.refl _),by rw[←hset]⟩,hk2,by omega⟩
  ·have cr:¬(k:Int)∈eh f:=by first|exact cr|(have h:=cr;simp at h;exact h)
   have hset:(fA f k).set k (-1)=fA f (k+1):=by rw[←pG hk2,n5 hE,if_neg cr]
   refine zf<|bg<|aB Z Z<|aa Z<|z7 ?_
   exact ⟨k+1,Ax,⟨rfl,congrArg (AV.int .i64) (by rw[dD,if_neg cr];push_cast;omega),trivial⟩,⟨_,(.refl _),by rw[←hset]⟩,hk2,by omega⟩
 ·obtain rfl:k=f.blocks.length:=by omega
  refine zz (bc.knowI (t:=6) Z .head (gF f _))<|zy<|ai<|ab jh j8 Z Z<|ze (qE f hf) Z<|zp (cs:=[.raw (.slice none 0 0),.raw (.slice none 0 0),.raw (.slice none 0 0)]) jq Z Z<|fun i9=>zm j8 Z Z Z Z Z Z .head Z<|z7<|ai<|za (zd j6 Z ji (by decide) Z Z)<|yb (l:=[_]) (new:=[_,_,_]) ji Z Z Z Z Z Z .head Z Z<|z7<|zb<|ai<|ab jh j8 Z Z<|ao.callA Z (yh (.r (.r (.rest _)))) (wv f hf) ?_
  rintro r51 O51 ⟨⟨ib,ids⟩,rfl,rfl,hids⟩
  refine za (Gv.field1 (v:=.own _ _) j6 Z js Z Z)<|za (Gv.lenO ja Z)<|aa Z<|z7<|bJ (off:=2) (k:=7) (T:=60) (fun _=>.t2) Z<|fun jb=>zz (zn (zq .t4))<|zz (zn (zq .t3))<|zz (zn (zq .t3))<|zz (zn (zq .t3))<|zz (zn (zq .t4))<|zh<|y7 (γ:=Nat × Nat) [1,2,4,5,6,9,52,53] (fun g=>[(54,.int .i64 g.1)]) (fun g=>[(i9,.cells 26 [.fro 2 (f.vars.map ba),.fro 1 (f.params.map bh),.own g.2 (dH f g.1)]),(g.2,.grow 7 60 ((mX f g.1).map aE).flatten),(ib,.grow 7 60 (eg ids f.blocks)),(0,wu (eV (ids.drop g.1) (f.blocks.drop g.1))),(i2,.cells 26 [.raw (.slice none 0 0),.raw (.slice none 0 0),.raw (.slice none 0 0)])]) (fun g=>g.1≤f.blocks.length) (fun g=>f.blocks.length - g.1) (0,jb) aV aU (q5 _) ?_
  rintro ⟨k,jb⟩ hk
  try dsimp only at *
  refine ai<|ay Z Z<|z7<|zb<|zt Z (fun ck=>?_) (fun ck=>?_)
  ·have hk2:k<f.blocks.length:=by omega
   obtain ⟨b,hb⟩:∃b,f.blocks[k]=b:=⟨_,rfl⟩
   have hgb:f.blocks[k]?=some b:=by rw[q2 hk2,hb]
   obtain ⟨ip,hip⟩:∃ip,ids[k]?=some ip:=⟨_,q2 (by omega)⟩
   have hne:eg ids f.blocks≠[]:=fun h=>by have:=congrArg List.length h;rw[gR hids] at this;simp at this;omega
   have hout:eV (ids.drop k) (f.blocks.drop k)=Bg ip b::eV (ids.drop (k+1)) (f.blocks.drop (k+1)):=by
    obtain ⟨hi1,hi2⟩:=List.getElem?_eq_some_iff.1 hip
    rw[List.drop_eq_getElem_cons hi1,List.drop_eq_getElem_cons hk2,hi2,hb];rfl
   refine zf<|zb<|zh<|ai<|aa Z<|za (Gv.idxO (j:=k) ja jj Z Z Z ⟨_,.t2⟩ hne hk2)<|za (Gv.loadAG (l:=[_,_,_,_,_,_,_]) Z7 jj Z ⟨_,.t2⟩ hne (by rw[gR hids];show k*7+7≤_;omega) (nw hip hgb))<|zp (cs:=[.str ⟨#[]⟩,.raw (.slice none 0 0),.raw (.slice none 0 0),.int .i64 0,.int .i64 0,.int .i64 0,.int .i64 0]) ju Z Z<|fun i11=>aw Z<|zm jj Z Z Z Z Z Z .head Z<|z7<|zb<|ai<|aX Z<|aa Z<|za (dG k jx Z9 Z Z Z (lI (E:=au f) hE.grph.toEOk hk2))<|za (Gv.load1F (c:=.bool _) isAgg4 Z)<|aH Z<|z7<|zz (bc.bagOut (i:=ip) (o:=.grow 3 73 (b.phis.map aL).flatten) (X':=eV (ids.drop (k+1)) (f.blocks.drop (k+1))) ((by rw[hout];exact List.Perm.refl _)) .t4)<|zu Z (fun cr=>?_) (fun cr=>?_)
   ·have cr:¬(k:Int)∈eh f:=by first|exact cr|(have h:=cr;simp at h;exact h)
    refine zz (bc.drop .head)<|zy<|bg<|aB Z Z<|aa Z<|z7 ?_
    exact ⟨(k+1,jb),qi,aV,⟨_,(.drop (.refl _)),by rw[jD,dD,if_neg cr,if_neg cr,List.append_nil];rfl⟩,hk2,by dsimp only;omega⟩
   ·have cr:(k:Int)∈eh f:=by first|exact cr|(have h:=cr;simp at h;exact h)
    refine zf<|zb<|ai<|za (zd j5 Z jw (by decide) Z Z)<|za (zj (c:=.own _ _) Z8 Z ⟨_,.t1⟩ Z)<|za (Gv.lenO jl Z)<|aa Z<|z7 ?_
    have hbk:bu f k=b:=eQ hgb
    obtain ⟨hb0,hb1,hb2,hb3,hb4⟩:=hf.2.2.2.2 b (hb▸q6 hk2)
    have hphl:∀m,(n6 f k b m).length=b.phis.length:=fun m=>by unfold n6;rw[q8,q9,qc,List.length_drop];omega
    have hpcl:∀m,(((n6 f k b m).map aL).flatten).length=b.phis.length*3:=fun m=>by rw[bW (k:=3) (fun _=>rfl),hphl]
    refine zh<|y7 (γ:=Nat) [1,2,4,5,6,9,10,11,52,53,54,65,66] (fun g=>[(67,.int .i64 g)]) (fun g=>[(ip,.grow 3 73 ((n6 f k b g).map aL).flatten),(i11,.cells 60 [.str b.name,.own ip b.phis.length,.fro 4 (b.insts.map aZ),.int .i64 b.term.kind,.int .i64 b.term.var,.int .i64 b.term.to0,.int .i64 b.term.to1]),(i9,.cells 26 [.fro 2 (f.vars.map ba),.fro 1 (f.params.map bh),.own jb (dH f k)]),(jb,.grow 7 60 ((mX f k).map aE).flatten),(ib,.grow 7 60 (eg ids f.blocks)),(0,wu (eV (ids.drop (k+1)) (f.blocks.drop (k+1)))),(i2,.cells 26 [.raw (.slice none 0 0),.raw (.slice none 0 0),.raw (.slice none 0 0)])]) (fun g=>g≤b.phis.length) (fun g=>b.phis.length - g) 0 aV aU (q5 _) ?_
    rintro m hm
    refine ai<|ay Z Z<|z7<|zb<|zt Z (fun cm=>?_) (fun cm=>?_)
    ·have hm2:m<b.phis.length:=by omega
     obtain ⟨p,hp⟩:∃p,b.phis[m]=p:=⟨_,rfl⟩
     have hpm:p∈(bu f k).phis:=by rw[hbk,←hp];exact q6 hm2
     have hps:=fx hS (x:=k) (by omega) (by omega) hpm
     have hpl:=hb3 p (by rw[←hp];exact q6 hm2)
     have hpn:((n6 f k b m).map aL).flatten≠[]:=fun h=>by have:=hpcl m;rw[h] at this;simp at this;omega
     have hrow:((((n6 f k b m).map aL).flatten).drop (m*3)).take 3=aL p:=by rw[←hp];exact Bi hm2
     have hset:(((n6 f k b m).map aL).flatten).take (m*3)++aL (bS (bO f) (cY f k) p)++(((n6 f k b m).map aL).flatten).drop (m*3+3)=((n6 f k b (m+1)).map aL).flatten:=by rw[←hp];exact Bj hm2
     have hng:∀c∈p.from_,0≤c∧(fA f f.blocks.length)[c.toNat]?=some (bO f c):=fun c hc=>by
      have h7:=List.all_eq_true.1 hps.2.2.2.2 c hc
      unfold cW at h7
      simp only[qg,qh] at h7
      exact ⟨h7.1,mh h7.1 h7.2⟩
     refine zf<|zb<|zh<|ai<|aa Z<|za (Gv.idxO (j:=m) jl jp Z Z Z ⟨_,.head⟩ hpn hm2)<|za (Gv.loadAG (l:=[_,_,_]) Zf jp Z ⟨_,.head⟩ hpn (by rw[hpcl];show m*3+3≤_;omega) hrow)<|zp (cs:=[.int .i64 0,.raw (.slice none 0 0),.raw (.slice none 0 0)]) jz Z Z<|fun i13=>aw Z<|zm jp Z Z Z Z Z Z .head Z<|z7<|ya (fun j=>Nat.beq j 11) (by kernel_rfl) Z (yh (.r (.l (.r (.rest _)))))<|aN 0 Z (zd j5 Z jw (by decide) Z Z)<|aN 1 Z (zj (c:=.own _ _) Z8 Z ⟨_,.t1⟩ Z)<|aN 2 Z (kq Z)<|aN 3 Z (yr Zf jp Z ⟨_,.head⟩ Z)<|aN 4 Z (Am Z)<|aN 5 Z (kq Z)<|aN 6 Z (dG k underlying89 je Z Z Z (l9 f hk2))<|aN 7 Z (lx jm Z)<|aN 8 Z (Am Z)<|cP 9 Z<|ze (wt p (cY f k) (fA f f.blocks.length) (bO f) hps.2.1.symm hpl.1 hfr hng) Z<|z7<|cP 10 Z<|za (Gv.idxO (j:=m) jl jp Z Z Z ⟨_,.head⟩ hpn hm2)<|z7<|yc<|ye (i:=11) Z (by kernel_rfl) (by kernel_rfl)<|ao.storeG (l:=[_,_,_]) (new:=((n6 f k b (m+1)).map aL).flatten) jp Z Z Z Z Z Z .t2 (by rw[hpcl];show m*3+3≤_;omega) (by decide) hset<|z7<|yf (by kernel_rfl)<|zz (zn (zq .t7))<|zz (zn (zq .t7))<|zz (zn (zq .t7))<|zz (zn (zq .t7))<|zz (zn (zq .t7))<|zz (zn (zq .t6))<|zz (zn (zq .t7))<|bg ?_
     refine aB Z Z<|aa Z<|z7 ?_
     exact ⟨m+1,⟨rfl,rfl,rfl,rfl,rfl,rfl,rfl,rfl,rfl,rfl,rfl,rfl,rfl,trivial⟩,aV,⟨_,(.keep (.keep (.keep (.keep (.keep (.keep (.keep (.drop (.refl _))))))))),rfl⟩,hm2,by omega⟩
    ·obtain rfl:m=b.phis.length:=by omega
     have hpe:n6 f k b b.phis.length=b.phis.map (bS (bO f) (cY f k)):=by unfold n6;rw[q7,List.drop_length,List.append_nil]
     rw[hpe]
     have hel:=jS b.term
     have her:=hE.rng b (hb▸q6 hk2)
     refine zz (yq (off:=1) (rows:=(b.phis.map (bS (bO f) (cY f k))).map aL) .head .head Z (by intro r hr;obtain ⟨z,_,rfl⟩:=List.mem_map.1 hr;rfl) (by decide) (by rw[q9,q9]))<|zy<|zb<|ai<|za (zd j5 Z jn (by decide) Z Z)<|za (Gv.loadAC (l:=[_,_,_,_]) Zo jn Z ⟨_,.head⟩ Z Z)<|ze (jV b.term) Z<|ac j4 Z<|aa Z<|z7<|zh<|y7 (γ:=Nat) [1,2,4,5,6,9,10,11,52,53,54,86,87] (fun g=>[(88,.int .i64 g)]) (fun g=>[(i11,.cells 60 [.str b.name,.fro 3 ((b.phis.map (bS (bO f) (cY f k))).map aL),.fro 4 (b.insts.map aZ),.int .i64 b.term.kind,.int .i64 b.term.var,.int .i64 (eT f b g).1,.int .i64 (eT f b g).2]),(i9,.cells 26 [.fro 2 (f.vars.map ba),.fro 1 (f.params.map bh),.own jb (dH f k)]),(jb,.grow 7 60 ((mX f k).map aE).flatten),(ib,.grow 7 60 (eg ids f.blocks)),(0,wu (eV (ids.drop (k+1)) (f.blocks.drop (k+1)))),(i2,.cells 26 [.raw (.slice none 0 0),.raw (.slice none 0 0),.raw (.slice none 0 0)])]) (fun g=>g≤(aO b.term).length) (fun g=>(aO b.term).length - g) 0 aV aU (q5 _) ?_
     rintro j hj
     refine ai<|ay Z Z<|z7<|zb<|zt Z (fun cj=>?_) (fun cj=>?_)
     ·have hj2:j<(aO b.term).length:=by omega
      obtain ⟨x,hx⟩:∃x,(aO b.term)[j]=x:=⟨_,rfl⟩
      have hgx:(aO b.term)[j]?=some x:=by rw[q2 hj2,hx]
      have hxr:=her x (hx▸q6 hj2)
      have hj01:j=0∨j=1:=by omega
      refine zf<|zb<|zh<|ai<|aa Z<|za (dG j j4 j9 Z Z Z hgx)<|aF jf Z<|aw Z<|aw Z<|z7 ?_
      rcases hj01 with rfl|rfl
      ·have he1:eT f b (0+1)=(bO f x,(eT f b 0).2):=by unfold eT;rw[hgx];rfl
       refine bg<|aa Z<|aX Z<|aa Z<|za (dG x.toNat j4 j9 Z Z (by omega) (mh hxr.1 hxr.2))<|aF jf Z<|za (zd j5 Z jn (by decide) Z Z)<|za (zd j7 Z jr (by decide) Z Z)<|za (q1 (j:=0) jg j9 Z Z Z (by decide) Z)<|yb (l:=[_]) (new:=[_,_,_,_,_,_,_]) j9 Z Z Z Z Z Z .head Z Z<|z7<|bg<|aB Z Z<|aa Z<|z7 ?_
       exact ⟨0+1,⟨rfl,rfl,rfl,rfl,rfl,rfl,rfl,rfl,rfl,rfl,rfl,rfl,rfl,trivial⟩,aV,⟨_,(.refl _),by rw[he1];rfl⟩,hj2,by omega⟩
      ·have he2:eT f b (1+1)=((eT f b 1).1,bO f x):=by unfold eT;rw[hgx];rfl
       refine bg<|aa Z<|aX Z<|aa Z<|za (dG x.toNat j4 j9 Z Z (by omega) (mh hxr.1 hxr.2))<|aF jf Z<|za (zd j5 Z jn (by decide) Z Z)<|za (zd j7 Z jr (by decide) Z Z)<|za (q1 (j:=1) jg j9 Z Z Z (by decide) Z)<|yb (l:=[_]) (new:=[_,_,_,_,_,_,_]) j9 Z Z Z Z Z Z .head Z Z<|z7<|bg<|aB Z Z<|aa Z<|z7 ?_
       exact ⟨1+1,⟨rfl,rfl,rfl,rfl,rfl,rfl,rfl,rfl,rfl,rfl,rfl,rfl,rfl,trivial⟩,aV,⟨_,(.refl _),by rw[he2];rfl⟩,hj2,by omega⟩
     ·obtain rfl:j=(aO b.term).length:=by omega
      have hpush:∀t0 t1:Int,(⟨b.term.kind,b.term.var,t0,t1⟩:b9)=gX id (bO f) b.term→((mX f k).map aE).flatten++[AV.str b.name,.fro 3 ((b.phis.map (bS (bO f) (cY f k))).map aL),.fro 4 (b.insts.map aZ),.int .i64 b.term.kind,.int .i64 b.term.var,.int .i64 t0,.int .i64 t1]=((mX f (k+1)).map aE).flatten:=fun t0 t1 h=>by
       rw[jD,if_pos cr,List.map_append,List.flatten_append,hbk]
       congr 1
       show _=([aE (eP (bO f) (cY f k) b)]:List (List AV)).flatten
       unfold eP
       rw[←h];rfl
      have hcl:=k8 f k
      have hcn:dH f (k+1)=dH f k+1:=by rw[dD,if_pos cr]
      have hjl:(((mX f k).map aE).flatten).length=dH f k*7:=by rw[bW (k:=7) (fun _=>rfl),k9]
      refine zy<|zb<|zb<|ya (fun j=>false) (by kernel_rfl) Z (yh (.r (.rest _)))<|aN 0 Z (zd j5 Z jn (by decide) Z Z)<|aN 1 Z (zd j7 Z Z2 (by decide) Z Z)<|aN 2 Z (zj (c:=.int _ _) Z6 Z ⟨_,.head⟩ Z)<|aN 3 Z (Gv.eqlI Z Z)<|aN 4 Z (Av Z)<|bz.case (s:=106) Z (fun c5=>?_) (fun c5=>?_)
      ·have hk1:b.term.kind=1:=by simpa using c5
       refine fu 5 Z Z Z c5 (f9 j6 Z ji Z Z)<|fu 6 Z Z Z c5 (lx js Z)<|fu 7 Z Z Z c5 (kq Z)<|fu 8 Z Z Z c5 (dG k ja jj Z Z Z hgb)<|fu 9 Z Z Z c5 (f9 j5 Z jn Z Z)<|fu 10 Z Z Z c5 (f9 j7 Z jr Z Z)<|fu 11 Z Z Z c5 (yl (j:=0) jg j9 Z Z Z (by decide) Z)<|fu 12 Z Z Z c5 (mK jf Z)<|fu 13 Z Z Z c5 (f9 j6 Z ji Z Z)<|fu 14 Z Z Z c5 (lx js Z)<|fu 15 Z Z Z c5 (kq Z)<|fu 16 Z Z Z c5 (dG k ja jj Z Z Z hgb)<|fu 17 Z Z Z c5 (f9 j5 Z jn Z Z)<|fu 18 Z Z Z c5 (f9 j7 Z jr Z Z)<|fu 19 Z Z Z c5 (yl (j:=1) jg j9 Z Z Z (by decide) Z)<|fu 20 Z Z Z c5 (mK jf Z)<|fu 21 Z Z Z c5 (Gv.eqlI Z Z)<|aN 22 Z (Aw Z c5 Z)<|kV<|zu Z (fun c6=>?_) (fun c6=>?_)
       ·refine bg<|za (zd j5 Z jn (by decide) Z Z)<|za (zd j7 Z jr (by decide) Z Z)<|za (q1 (j:=0) jg j9 Z Z Z (by decide) Z)<|za (zj (c:=.int _ _) jf Z ⟨_,.head⟩ Z)<|za (zd j5 Z jn (by decide) Z Z)<|za (zd j7 Z jr (by decide) Z Z)<|za (q1 (j:=1) jg j9 Z Z Z (by decide) Z)<|yb (l:=[_]) (new:=[_,_,_,_,_,_,_]) j9 Z Z Z Z Z Z .head Z Z<|z7<|bg<|za (zd j6 Z ji (by decide) Z Z)<|za (zj (c:=.own _ _) js Z ⟨_,.t1⟩ Z)<|za (yr Z7 jj Z ⟨_,.head⟩ Z)<|y8 (rows:=[[_,_,_,_,_,_,_]]) iy Z Z Z Z Z<|zr (k:=7) ja type60 Z Z Z Z Z (fun _=>.t2) hjl (by decide) Z (by show (_+_)*96≤_;simp<;>omega) (by simp<;>omega)<|fun i136=>za (zd j6 Z ji (by decide) Z Z)<|yb (l:=[_]) (new:=[_,_,_]) ji Z Z Z Z Z Z .t1 Z Z<|z7<|bg<|aB Z Z<|aa Z<|z7 ?_
        exact ⟨(k+1,i136),qi,aV,⟨_,(.drop (.refl _)),by rw[hcn,←hpush _ _ (Bh hk1 (by simpa using c6))];rfl⟩,hk2,by dsimp only;omega⟩
       ·refine zf<|bg<|za (zd j6 Z ji (by decide) Z Z)<|za (zj (c:=.own _ _) js Z ⟨_,.t1⟩ Z)<|za (yr Z7 jj Z ⟨_,.head⟩ Z)<|y8 (rows:=[[_,_,_,_,_,_,_]]) iy Z Z Z Z Z<|zr (k:=7) ja type60 Z Z Z Z Z (fun _=>.t2) hjl (by decide) Z (by show (_+_)*96≤_;simp<;>omega) (by simp<;>omega)<|fun i136=>za (zd j6 Z ji (by decide) Z Z)<|yb (l:=[_]) (new:=[_,_,_]) ji Z Z Z Z Z Z .t1 Z Z<|z7<|bg<|aB Z Z<|aa Z<|z7 ?_
        exact ⟨(k+1,i136),qi,aV,⟨_,(.drop (.refl _)),by rw[hcn,←hpush _ _ (Dg hk1 (by simpa using c6))];rfl⟩,hk2,by dsimp only;omega⟩
      ·have hk1:¬b.term.kind=1:=by simpa using c5
       refine dR 5 Z Z Z c5<|dR 6 Z Z Z c5<|dR 7 Z Z Z c5<|dR 8 Z Z Z c5<|dR 9 Z Z Z c5<|dR 10 Z Z Z c5<|dR 11 Z Z Z c5<|dR 12 Z Z Z c5<|dR 13 Z Z Z c5<|dR 14 Z Z Z c5<|dR 15 Z Z Z c5<|dR 16 Z Z Z c5<|dR 17 Z Z Z c5<|dR 18 Z Z Z c5<|dR 19 Z Z Z c5<|dR 20 Z Z Z c5<|dR 21 Z Z Z c5<|aN 22 Z (CG Z c5 Z)<|kV<|yd Z Z<|zf<|bg<|za (zd j6 Z ji (by decide) Z Z)<|za (zj (c:=.own _ _) js Z ⟨_,.t1⟩ Z)<|za (yr Z7 jj Z ⟨_,.head⟩ Z)<|y8 (rows:=[[_,_,_,_,_,_,_]]) iy Z Z Z Z Z<|zr (k:=7) ja type60 Z Z Z Z Z (fun _=>.t2) hjl (by decide) Z (by show (_+_)*96≤_;simp<;>omega) (by simp<;>omega)<|fun i136=>za (zd j6 Z ji (by decide) Z Z)<|yb (l:=[_]) (new:=[_,_,_]) ji Z Z Z Z Z Z .t1 Z Z<|z7<|bg<|aB Z Z<|aa Z<|z7 ?_
       exact ⟨(k+1,i136),qi,aV,⟨_,(.drop (.refl _)),by rw[hcn,←hpush _ _ (Dh hk1)];rfl⟩,hk2,by dsimp only;omega⟩
  ·obtain rfl:k=f.blocks.length:=by omega
   have hpr:mX f f.blocks.length=(bt f).blocks:=rfl
   rw[hpr]
   refine zz (yq (off:=2) (rows:=(bt f).blocks.map aE) .t1 .head Z (by intro r hr;obtain ⟨z,_,rfl⟩:=List.mem_map.1 hr;rfl) (by decide) (by rw[q9,←hpr,k9]))<|zy<|zb<|ai<|za (yr jh j8 Z ⟨_,.head⟩ Z)<|ze (hjo) Z<|aG Z Z<|z7<|yd Z Z<|zf<|ai<|za (yr jh j8 Z ⟨_,.head⟩ Z)<|zm j8 Z Z Z Z Z Z .t3 Z<|aw Z<|z7<|zg<|dh.c1t (y:=.int _ _) Z Z ⟨_,.t3⟩ jh j8 Z ?_
   rfl
end
section
open Go.Proofs.Tryz
end
section
open Go.Proofs.Tryz
section
variable {E:World} {P:Program} {n:Nat} {env:aK} {O O' O'':OL}
end
end
section
open Go.Proofs.Tryz
open Go.Proofs Go.Lib Go.Shelf Go.RowKit
theorem Bk:gj prog 58 #[(0,1),(1,1),(2,2)] [.int .i64 0,.int .i64 0,.int .i64 0,.int .i64 0]:=⟨_,_,j7,zeroValue58,fun w=>by kernel_rfl,rfl⟩
variable {E:World}
set_option maxRecDepth 20000
theorem gG {α:Type} {P R:List α} {n:Nat} (h:P.length=n) (j:Nat):(P++R).drop (n+j)=R.drop j:=by
 subst h;rw[List.drop_append,List.drop_eq_nil_of_le (by omega),List.nil_append,Nat.add_sub_cancel_left]
theorem pI {α:Type} {P R:List α} {n:Nat} (h:P.length=n) (j:Nat):(P++R).take (n+j)=P++R.take j:=by
 subst h;rw[List.take_append,List.take_of_length_le (by omega),Nat.add_sub_cancel_left]
theorem iI (l:List az):((l.map aE).flatten).length=l.length*7:=bW (k:=7) (fun _=>rfl) l
theorem rj (l:List az) (x:az):(((l++[x]).map aE).flatten)=((l.map aE).flatten)++aE x:=by rw[List.map_append,List.flatten_append];simp
theorem wy {l:List Int} {f:ae} {k:Nat} {b:az} (h:f.blocks[k]?=some b):(bp l f).blocks[k]?=some (fy l k b):=by
 have e:(bp l f).blocks[k]?=(f.blocks[k]?).map (fy l k):=fP k
 rw[e,h];rfl
theorem eD {l:List Int} {f:ae}:(bp l f).blocks.length=f.blocks.length:=l6
theorem mj {l:List Int} {f:ae} {k:Nat} {b:az} (h:f.blocks[k]?=some b):(bp l f).blocks.take (k+1)=(bp l f).blocks.take k++[fy l k b]:=by
 obtain ⟨h1,h2⟩:=List.getElem?_eq_some_iff.1 (wy (l:=l) h)
 rw[q3 h1,h2]
theorem ml {l:List Int} {f:ae} {k:Nat} (h:k≤f.blocks.length):((bp l f).blocks.take k).length=k:=by rw[qc,eD];omega
theorem iJ {l:List Int} {f:ae} (h:small f):small (bp l f):=by
 obtain ⟨h1,h2,h3,h4,h5⟩:=h
 refine ⟨h1,h2,by rw[eD];exact h3,h4,fun c hc=>?_⟩
 obtain ⟨k,hk⟩:=List.getElem?_of_mem hc
 have e:(bp l f).blocks[k]?=(f.blocks[k]?).map (fy l k):=fP k
 rw[e] at hk
 obtain ⟨b,hb,rfl⟩:=Option.map_eq_some_iff.1 hk
 exact h5 b (qb hb)
theorem xW {l:List Int} {k:Nat} (h:k<l.length):l[k]?=some ((l[k]?).getD 0):=by rw[q2 h];rfl
set_option maxHeartbeats 8000000 in
theorem rk (f:ae) (hf:small f) (l:List Int) (hl:l.length=f.blocks.length) (hp:aT prog E 26 [.agg (bC (bp l f))] (.agg (bC (bt (bp l f))))):aT prog E 10 [.agg (bC f),.fro 1 (l.map bh)] (.agg (bC (bt (bp l f)))):=by
 obtain ⟨hf1,hf2,hf3,hf4,hf5⟩:=id hf
 refine zo func10 Z (by decide) Z<|ai<|y9 (cs:=_) Z Z Z<|zp (cs:=[.raw (.slice none 0 0),.raw (.slice none 0 0),.raw (.slice none 0 0)]) jq Z Z<|fun i4=>z7<|ai<|ab jh j8 Z Z<|zp (cs:=[.raw (.slice none 0 0),.raw (.slice none 0 0),.raw (.slice none 0 0)]) jq Z Z<|fun i5=>zm j8 Z Z Z Z Z Z .head Z<|z7<|ai<|za (zd j6 Z ji (by decide) Z Z)<|yb (l:=[_]) (new:=[_,_,_]) ji Z Z Z Z Z Z .head Z Z<|z7<|bJ (off:=2) (k:=7) (T:=60) (fun _=>.head) Z<|fun ib=>zb<|ai<|ap j6 Z ji Z Z<|aP js Z<|ac ja Z<|aa Z<|z7<|zz (zn (zq .t2))<|zz (zn (zq .t2))<|zz (zn (zq .t2))<|zh<|y7 (γ:=Nat × Nat) [1,4,5,11,12] (fun g=>[(13,.int .i64 g.1)]) (fun g=>[(g.2,.grow 7 60 (((bp l f).blocks.take g.1).map aE).flatten),(i5,.cells 26 [.fro 2 (f.vars.map ba),.fro 1 (f.params.map bh),.own g.2 g.1]),(i4,.cells 26 [.raw (.slice none 0 0),.raw (.slice none 0 0),.raw (.slice none 0 0)])]) (fun g=>g.1≤f.blocks.length) (fun g=>f.blocks.length - g.1) (0,ib) aV aU (q5 _) ?_
 rintro ⟨k,ib⟩ hk
 try dsimp only at *
 refine ai<|ay Z Z<|z7<|zb<|zt Z (fun ck=>?_) (fun ck=>?_)
 ·have hk2:k<f.blocks.length:=by simp at ck;omega
  obtain ⟨b,hb⟩:∃b,f.blocks[k]?=some b:=⟨_,q2 hk2⟩
  have hbm:=qb hb
  obtain ⟨hb0,hb1,hb2,hb3,hb4⟩:=hf5 b hbm
  have hbf:=iI ((bp l f).blocks.take k)
  rw[ml (l:=l) hk] at hbf
  have hlk:=xW (l:=l) (k:=k) (by omega)
  obtain ⟨w,hw⟩:∃w,(l[k]?).getD 0=w:=⟨_,rfl⟩
  rw[hw] at hlk
  have hfb:fy l k b={ b with term:=bT w b.term }:=by unfold fy;rw[hw]
  refine zf<|zb<|zh<|ai<|aa Z<|za (dG k ja jj Z Z Z hb)<|ab Z7 jj Z Z<|zp (cs:=[.str ⟨#[]⟩,.raw (.slice none 0 0),.raw (.slice none 0 0),.int .i64 0,.int .i64 0,.int .i64 0,.int .i64 0]) ju Z Z<|fun i7=>aw Z<|zm jj Z Z Z Z Z Z .head Z<|z7<|zb<|ai<|za (zd j5 Z jn (by decide) Z Z)<|za (zd j7 Z Z2 (by decide) Z Z)<|za (zj (c:=.int _ _) Z6 Z ⟨_,.head⟩ Z)<|aq Z Z<|z7<|yn (γ:=Unit) [1,4,5,7,11,12,13] (fun u=>[]) (fun u=>[(i7,.cells 60 [.str b.name,.fro 3 (b.phis.map aL),.fro 4 (b.insts.map aZ),.int .i64 (bT w b.term).kind,.int .i64 (bT w b.term).var,.int .i64 (bT w b.term).to0,.int .i64 (bT w b.term).to1]),(ib,.grow 7 60 (((bp l f).blocks.take k).map aE).flatten),(i5,.cells 26 [.fro 2 (f.vars.map ba),.fro 1 (f.params.map bh),.own ib k]),(i4,.cells 26 [.raw (.slice none 0 0),.raw (.slice none 0 0),.raw (.slice none 0 0)])]) (fun u=>True) ?_ (fun _ _ h=>h) ?_
  ·refine zu Z (fun c1=>?_) (fun c1=>?_)
   ·have h1:b.term.kind=1:=by simpa using c1
    refine ai<|aX Z<|aa Z<|za (dG k j4 j9 Z Z Z hlk)<|aF jf Z<|z7<|zh<|ai<|aq Z Z<|ad Z<|z7<|zu Z (fun c2=>?_) (fun c2=>?_)
    ·have h2:w=1:=by simpa using c2
     have e:bT w b.term=⟨0,0,b.term.to0,0⟩:=by unfold bT;rw[if_pos h1,if_pos h2]
     rw[e]
     refine bg<|za (zd j5 Z jn (by decide) Z Z)<|za (zd j7 Z jr (by decide) Z Z)<|za (q1 (j:=0) jg j9 Z Z Z (by decide) Z)<|za (zj (c:=.int _ _) jf Z ⟨_,.head⟩ Z)<|za (Gv.buildA (cps:=[(0,[_])]) (rs:=[_,.int .i64 0]) vT Z Z Z)<|za (zw (cps:=[(2,[_,_])]) (rs:=[.int .i64 0,.int .i64 0,_,_]) Bk Z Z Z)<|za (zd j5 Z jn (by decide) Z Z)<|yb (l:=[_,_,_,_]) (new:=[_,_,_,_,_,_,_]) jn Z Z Z Z Z Z .head Z Z<|z7 ?_
     exact ⟨(),(by repeat (first|with_reducible exact yj _ _|refine br.up rfl ?_|exact gY)),trivial,aU,trivial⟩
    ·have h2:¬w=1:=by simpa using c2
     refine ai<|aq Z Z<|ad Z<|z7<|zu Z (fun c3=>?_) (fun c3=>?_)
     ·have h3:w=2:=by simpa using c3
      have e:bT w b.term=⟨0,0,b.term.to1,0⟩:=by unfold bT;rw[if_pos h1,if_neg h2,if_pos h3]
      rw[e]
      refine bg<|za (zd j5 Z jn (by decide) Z Z)<|za (zd j7 Z jr (by decide) Z Z)<|za (q1 (j:=1) jg j9 Z Z Z (by decide) Z)<|za (zj (c:=.int _ _) jf Z ⟨_,.head⟩ Z)<|za (Gv.buildA (cps:=[(0,[_])]) (rs:=[_,.int .i64 0]) vT Z Z Z)<|za (zw (cps:=[(2,[_,_])]) (rs:=[.int .i64 0,.int .i64 0,_,_]) Bk Z Z Z)<|za (zd j5 Z jn (by decide) Z Z)<|yb (l:=[_,_,_,_]) (new:=[_,_,_,_,_,_,_]) jn Z Z Z Z Z Z .head Z Z<|z7 ?_
      exact ⟨(),(by repeat (first|with_reducible exact yj _ _|refine br.up rfl ?_|exact gY)),trivial,aU,trivial⟩
     ·have h3:¬w=2:=by simpa using c3
      have e:bT w b.term=b.term:=by unfold bT;rw[if_pos h1,if_neg h2,if_neg h3]
      rw[e]
      refine zf ?_
      exact ⟨(),(by repeat (first|with_reducible exact yj _ _|refine br.up rfl ?_|exact gY)),trivial,aU,trivial⟩
   ·have h1:¬b.term.kind=1:=by simpa using c1
    have e:bT w b.term=b.term:=by unfold bT;rw[if_neg h1]
    rw[e]
    refine zf ?_
    exact ⟨(),(by repeat (first|with_reducible exact yj _ _|refine br.up rfl ?_|exact gY)),trivial,aU,trivial⟩
  ·rintro _ _
   refine bg<|za (zd j6 Z ji (by decide) Z Z)<|za (zj (c:=.own _ _) js Z ⟨_,.t2⟩ Z)<|za (yr Z7 jj Z ⟨_,.head⟩ Z)<|y8 (rows:=[[_,_,_,_,_,_,_]]) iy Z Z Z Z Z<|zr (k:=7) ja type60 Z Z Z Z Z (fun _=>.t1) hbf (by decide) Z (by show (_+_)*96≤_;simp<;>omega) (by simp<;>omega)<|fun i48=>za (zd j6 Z ji (by decide) Z Z)<|yb (l:=[_]) (new:=[_,_,_]) ji Z Z Z Z Z Z .t2 Z Z<|z7<|bg<|aB Z Z<|aa Z<|z7 ?_
   exact ⟨(k+1,i48),Ao,aV,⟨_,(.drop (.refl _)),by dsimp only;rw[mj hb,rj,hfb];rfl⟩,hk2,by dsimp only;omega⟩
 ·obtain rfl:k=f.blocks.length:=by simp at ck;omega
  have he:(bp l f).blocks.take f.blocks.length=(bp l f).blocks:=List.take_of_length_le (Nat.le_of_eq eD)
  rw[he]
  refine zz (yq (off:=2) (rows:=(bp l f).blocks.map aE) .head .head Z (by intro r hr;obtain ⟨z,_,rfl⟩:=List.mem_map.1 hr;rfl) (by decide) (by rw[q9,eD]))<|zy<|ai<|za (yr jh j8 Z ⟨_,.head⟩ Z)<|ze (hp) Z<|zm j8 Z Z Z Z Z Z .t1 Z<|z7<|zg<|dh.c1 Z ⟨_,.t1⟩ jh j8 Z ?_
  rfl
end
end Go.Proofs.YtjpnhkmfhlnpcaaGreatDoor
