/- The tree of what is above what, made. Of programs that are little. -/
import Derived.Test.YthphijnnbfjikaaGreatDoorJl
set_option linter.unusedVariables false
set_option linter.unusedSimpArgs false
set_option linter.unusedSectionVars false
namespace Go.Proofs.YthphijnnbfjikaaGreatDoor
open Go.Proofs.Tryz
open Go.Proofs Go.Lib Go.Shelf Go.RowKit
theorem bI:eD prog 103 #[(0,1),(1,1),(2,1),(3,1)] [.raw (.slice none 0 0),.raw (.slice none 0 0),.raw (.slice none 0 0),.raw (.slice none 0 0)]:=⟨_,_,Z1,zeroValue103,fun w=>by kernel_rfl,rfl⟩
variable {E:World}
set_option maxRecDepth 20000
def fE (S:Int→List Int) (n q:Nat):List Int:=(((ap S n).drop 1).take q).foldl (sf (bS S n)) (ed n)
theorem vz {S:Int→List Int} {n q:Nat} (h:q<((ap S n).drop 1).length):fE S n (q+1)=sf (bS S n) (fE S n q) ((ap S n).drop 1)[q]:=by
 unfold fE;rw[qk h,List.foldl_append];rfl
theorem Ag (S:Int→List Int) (n:Nat):fE S n ((ap S n).drop 1).length=bN S n:=by unfold fE bN;rw[qo,List.drop_one]
theorem qy (S:Int→List Int) (n q:Nat):(fE S n q).length=n:=by unfold fE;rw[lT (fun l x=>sg _ l x),kj]
theorem El {S:Int→List Int} {n:Nat} (hE:EOk S n) {b:Int} (hb:b∈(ap S n).drop 1):b≠0:=by
 have h1:=ki hE
 have h2:=gf hE
 cases h:ap S n with
 |nil=>rw[h] at h1;simp at h1
 |cons z zs=>
  rw[h] at h1 h2 hb
  simp at h1
  subst h1
  intro e
  subst e
  exact (List.nodup_cons.1 h2).1 (by simpa using hb)
theorem Ah {S:Int→List Int} {n:Nat} (hE:EOk S n):0<(ap S n).length:=by
 have h1:=ki hE
 cases h:ap S n with
 |nil=>rw[h] at h1;simp at h1
 |cons z zs=>simp
def sd (N:List Int) (k:Nat):List (Int × Int):=((ee k).filter fun b=>decide (gi N b≠-1)).map fun b=>(gi N b,b)
theorem tO (N:List Int) (k:Nat):sd N (k+1)=sd N k++if gi N (k:Int)≠-1 then[(gi N (k:Int),(k:Int))] else[]:=by
 unfold sd;rw[lV,List.filter_append,List.map_append]
 by_cases h:gi N (k:Int)=-1<;>simp[h]
theorem Em (N:List Int) (k:Nat):(sd N k).length≤k:=by
 unfold sd;rw[qq];exact Nat.le_trans (List.length_filter_le _ _) (by rw[gJ];exact Nat.le_refl _)
def xe (f:ac):List (List Int):=bB f.blocks.length (sd (ba (ah f) f.blocks.length) f.blocks.length)
theorem CP {S:Int→List Int} {n:Nat} (hG:gA S n) {b:Int} (h0:0≤b) (hb:gi (ba S n) b≠-1):b∈ap S n∧gi (ba S n) b∈ap S n:=by
 by_cases e:b=0
 ·rw[e,rS hG.npos] at hb;exact absurd rfl hb
 ·rw[fe h0 e] at hb ⊢
  have:=hG.exact.inv.mem b hb
  exact ⟨this,(hG.near_mem this e).1⟩
set_option maxHeartbeats 4000000 in
theorem En (f:ac) (hf:small f) (hL:aE E) (ht:bf f=true):aU prog E 16 [.agg (b9 f)] []
  fun r O=>(∃fr,r9 f.blocks.length fr∧r=.tup [oN f (mF eI (xe f)) (mF eI fr),.int .i64 0])∧O=[]:=by
 have hE:=dK ht
 have hn:=hf.2.2.1
 have hG:=hE.grph
 have hpos:=hG.npos
 have hol:=eV hG
 have hop:=Ah hG.toEOk
 have hnear:=rT (E:=E) f hE hn
 have hfr:=fun t a b fb T x=>tN (E:=E) f hE hn t a b fb T x _ (r9.begin f.blocks.length)
 have hprd:=tE f hf hL ht
 have hord:=tF f hf hL ht
 have hrng:∀z∈ap (ah f) f.blocks.length,0≤z∧z<f.blocks.length:=fun z hz=>dm hG.toEOk hz
 refine zk func16 Z (by decide) Z<|ae<|zy (cs:=_) Z Z Z<|z7 (mS Z)<|aq Z<|z6<|ae<|ab jx js Z Z<|zg (hord) Z<|z7 (um Z)<|z6<|ze<|ae<|bh Z<|au jh Z<|ak Z Z<|z6<|yn Z (by simp;exact List.ne_nil_of_length_pos hop)<|zi<|ze<|zw (fun j=>false) (by kernel_rfl) Z (zn (.rest _))<|ao 0 Z (eh jt Z Zj Z Z)<|ao 1 Z (lA Zn Z)<|ao 2 Z (Gv.lenM jw Z)<|ao 3 Z (yl jx js Z Z)<|aL 4 Z<|zg (hprd) Z<|z6<|ao 5 Z (H5 Z)<|ao 6 Z (um Z)<|bO<|ze<|ym (γ:=Nat × Nat × Nat × Nat × Nat) [4,5,6] (fun g=>[(7,.po g.1 0)]) (fun g=>[(g.1,.cells 103 [.own g.2.2.2.2 f.blocks.length,.own g.2.1 f.blocks.length,dg g.2.2.1 f.blocks.length,dg g.2.2.2.1 f.blocks.length]),(g.2.1,.grow 1 3 (cI (List.replicate f.blocks.length (-1)))),(0,cu eI 24 3 g.2.2.1 (List.replicate f.blocks.length [])),(0,cu eI 24 3 g.2.2.2.1 (List.replicate f.blocks.length [])),(g.2.2.2.2,.grow 1 3 (cI (ba (ah f) f.blocks.length)))]) (fun g=>True) ?_ (fun _ _ h=>h) ?_
 ·refine zw (fun j=>false) (by kernel_rfl) Z (zn (.rest _))<|ao 0 Z (C7 Z)<|ao 1 Z (C7 Z)<|ao 2 Z (fC Z)<|ao 5 Z (fC Z)<|ao 7 Z (fC Z)<|ao 9 Z (fC Z)<|bt.four (i:=3) (j:=4) (m:=8) (q:=10) Z Z Z Z (by kernel_rfl) ?_ ?_ ?_ ?_
  ·refine zq Z (zn (.rest _)) (hnear) ?_
   rintro r25 O25 ⟨i25,rfl,rfl⟩
   refine z6<|qh (i:=4) (j:=8) (m:=10) Z Z Z (by kernel_rfl) ?_ ?_ ?_
   ·refine zr (rows:=[[_]]) bT Z Z Z Z Z<|z6<|qh (i:=6) (j:=8) (m:=10) Z Z Z (by kernel_rfl) ?_ ?_ ?_
    ·refine zq Z (zn (.r (.rest _))) (aB (-1) f.blocks.length (by omega) hpos) ?_
     rintro r28 O28 ⟨i28,rfl,rfl⟩
     refine z6<|yg (i:=8) (j:=10) Z Z (by kernel_rfl) ?_ ?_
     ·refine zu (m:=f.blocks.length) jj Z4 Z Z Z Z Z (by simp) (by simp) (by show (24:Int)*_≤_;omega) (by omega) eI 3<|fun b30=>z6<|aL 10 Z<|zu (m:=f.blocks.length) jj Z4 Z Z Z Z Z (by simp) (by simp) (by show (24:Int)*_≤_;omega) (by omega) eI 3<|fun b32=>z6<|ao 11 Z (zt (cps:=[(0,[_]),(1,[_]),(2,[_]),(3,[_])]) (rs:=[_,_,_,_]) bI Z Z Z)<|aL 12 Z<|yi (cs:=_) Z Z Z Z<|fun i34=>zc (zb (zd .t4))<|zc (zb (zd .t2))<|zc (zb (zd .t3))<|zc (zb (zd .t4))<|zc (zb (zd .t4))<|z6<|ao 13 Z (f9 Z)<|bO ?_
      exact ⟨(i34,i28,b30,b32,i25),bX,aT,aJ,trivial⟩
     ·refine zu (m:=f.blocks.length) jj Z4 Z Z Z Z Z (by simp) (by simp) (by show (24:Int)*_≤_;omega) (by omega) eI 3<|fun b32=>z6<|aL 8 Z<|zu (m:=f.blocks.length) jj Z4 Z Z Z Z Z (by simp) (by simp) (by show (24:Int)*_≤_;omega) (by omega) eI 3<|fun b30=>z6<|ao 11 Z (zt (cps:=[(0,[_]),(1,[_]),(2,[_]),(3,[_])]) (rs:=[_,_,_,_]) bI Z Z Z)<|aL 12 Z<|yi (cs:=_) Z Z Z Z<|fun i34=>zc (zb (zd .t4))<|zc (zb (zd .t3))<|zc (zb (zd .t3))<|zc (zb (zd .t4))<|zc (zb (zd .t4))<|z6<|ao 13 Z (f9 Z)<|bO ?_
      exact ⟨(i34,i28,b30,b32,i25),bX,aT,aJ,trivial⟩
    ·refine zu (m:=f.blocks.length) jj Z4 Z Z Z Z Z (by simp) (by simp) (by show (24:Int)*_≤_;omega) (by omega) eI 3<|fun b30=>z6<|yg (i:=6) (j:=10) Z Z (by kernel_rfl) ?_ ?_
     ·refine zq Z (zn (.r (.r (.rest _)))) (aB (-1) f.blocks.length (by omega) hpos) ?_
      rintro r28 O28 ⟨i28,rfl,rfl⟩
      refine z6<|aL 10 Z<|zu (m:=f.blocks.length) jj Z4 Z Z Z Z Z (by simp) (by simp) (by show (24:Int)*_≤_;omega) (by omega) eI 3<|fun b32=>z6<|ao 11 Z (zt (cps:=[(0,[_]),(1,[_]),(2,[_]),(3,[_])]) (rs:=[_,_,_,_]) bI Z Z Z)<|aL 12 Z<|yi (cs:=_) Z Z Z Z<|fun i34=>zc (zb (zd .t4))<|zc (zb (zd .t2))<|zc (zb (zd .t4))<|zc (zb (zd .t4))<|zc (zb (zd .t4))<|z6<|ao 13 Z (f9 Z)<|bO ?_
      exact ⟨(i34,i28,b30,b32,i25),bX,aT,aJ,trivial⟩
     ·refine zu (m:=f.blocks.length) jj Z4 Z Z Z Z Z (by simp) (by simp) (by show (24:Int)*_≤_;omega) (by omega) eI 3<|fun b32=>z6<|aL 6 Z<|zq Z (zn (.r (.r (.r (.rest _))))) (aB (-1) f.blocks.length (by omega) hpos) ?_
      rintro r28 O28 ⟨i28,rfl,rfl⟩
      refine z6<|ao 11 Z (zt (cps:=[(0,[_]),(1,[_]),(2,[_]),(3,[_])]) (rs:=[_,_,_,_]) bI Z Z Z)<|aL 12 Z<|yi (cs:=_) Z Z Z Z<|fun i34=>zc (zb (zd .t4))<|zc (zb (zd .t3))<|zc (zb (zd .t4))<|zc (zb (zd .t4))<|zc (zb (zd .t4))<|z6<|ao 13 Z (f9 Z)<|bO ?_
      exact ⟨(i34,i28,b30,b32,i25),bX,aT,aJ,trivial⟩
    ·refine zu (m:=f.blocks.length) jj Z4 Z Z Z Z Z (by simp) (by simp) (by show (24:Int)*_≤_;omega) (by omega) eI 3<|fun b32=>z6<|yg (i:=6) (j:=8) Z Z (by kernel_rfl) ?_ ?_
     ·refine zq Z (zn (.r (.r (.rest _)))) (aB (-1) f.blocks.length (by omega) hpos) ?_
      rintro r28 O28 ⟨i28,rfl,rfl⟩
      refine z6<|aL 8 Z<|zu (m:=f.blocks.length) jj Z4 Z Z Z Z Z (by simp) (by simp) (by show (24:Int)*_≤_;omega) (by omega) eI 3<|fun b30=>z6<|ao 11 Z (zt (cps:=[(0,[_]),(1,[_]),(2,[_]),(3,[_])]) (rs:=[_,_,_,_]) bI Z Z Z)<|aL 12 Z<|yi (cs:=_) Z Z Z Z<|fun i34=>zc (zb (zd .t4))<|zc (zb (zd .t4))<|zc (zb (zd .t3))<|zc (zb (zd .t4))<|zc (zb (zd .t4))<|z6<|ao 13 Z (f9 Z)<|bO ?_
      exact ⟨(i34,i28,b30,b32,i25),bX,aT,aJ,trivial⟩
     ·refine zu (m:=f.blocks.length) jj Z4 Z Z Z Z Z (by simp) (by simp) (by show (24:Int)*_≤_;omega) (by omega) eI 3<|fun b30=>z6<|aL 6 Z<|zq Z (zn (.r (.r (.r (.rest _))))) (aB (-1) f.blocks.length (by omega) hpos) ?_
      rintro r28 O28 ⟨i28,rfl,rfl⟩
      refine z6<|ao 11 Z (zt (cps:=[(0,[_]),(1,[_]),(2,[_]),(3,[_])]) (rs:=[_,_,_,_]) bI Z Z Z)<|aL 12 Z<|yi (cs:=_) Z Z Z Z<|fun i34=>z6<|ao 13 Z (f9 Z)<|bO ?_
      exact ⟨(i34,i28,b30,b32,i25),bX,aT,aJ,trivial⟩
   ·refine zu (m:=f.blocks.length) jj Z4 Z Z Z Z Z (by simp) (by simp) (by show (24:Int)*_≤_;omega) (by omega) eI 3<|fun b30=>z6<|yg (i:=4) (j:=10) Z Z (by kernel_rfl) ?_ ?_
    ·refine zr (rows:=[[_]]) bT Z Z Z Z Z<|z6<|yg (i:=6) (j:=10) Z Z (by kernel_rfl) ?_ ?_
     ·refine zq Z (zn (.r (.r (.rest _)))) (aB (-1) f.blocks.length (by omega) hpos) ?_
      rintro r28 O28 ⟨i28,rfl,rfl⟩
      refine z6<|aL 10 Z<|zu (m:=f.blocks.length) jj Z4 Z Z Z Z Z (by simp) (by simp) (by show (24:Int)*_≤_;omega) (by omega) eI 3<|fun b32=>z6<|ao 11 Z (zt (cps:=[(0,[_]),(1,[_]),(2,[_]),(3,[_])]) (rs:=[_,_,_,_]) bI Z Z Z)<|aL 12 Z<|yi (cs:=_) Z Z Z Z<|fun i34=>zc (zb (zd .t4))<|zc (zb (zd .t2))<|zc (zb (zd .t4))<|zc (zb (zd .t4))<|zc (zb (zd .t4))<|z6<|ao 13 Z (f9 Z)<|bO ?_
      exact ⟨(i34,i28,b30,b32,i25),bX,aT,aJ,trivial⟩
     ·refine zu (m:=f.blocks.length) jj Z4 Z Z Z Z Z (by simp) (by simp) (by show (24:Int)*_≤_;omega) (by omega) eI 3<|fun b32=>z6<|aL 6 Z<|zq Z (zn (.r (.r (.r (.rest _))))) (aB (-1) f.blocks.length (by omega) hpos) ?_
      rintro r28 O28 ⟨i28,rfl,rfl⟩
      refine z6<|ao 11 Z (zt (cps:=[(0,[_]),(1,[_]),(2,[_]),(3,[_])]) (rs:=[_,_,_,_]) bI Z Z Z)<|aL 12 Z<|yi (cs:=_) Z Z Z Z<|fun i34=>zc (zb (zd .t4))<|zc (zb (zd .t3))<|zc (zb (zd .t4))<|zc (zb (zd .t4))<|zc (zb (zd .t4))<|z6<|ao 13 Z (f9 Z)<|bO ?_
      exact ⟨(i34,i28,b30,b32,i25),bX,aT,aJ,trivial⟩
    ·refine zu (m:=f.blocks.length) jj Z4 Z Z Z Z Z (by simp) (by simp) (by show (24:Int)*_≤_;omega) (by omega) eI 3<|fun b32=>z6<|aL 4 Z<|zr (rows:=[[_]]) bT Z Z Z Z Z<|z6<|aL 6 Z<|zq Z (zn (.r (.r (.r (.rest _))))) (aB (-1) f.blocks.length (by omega) hpos) ?_
     rintro r28 O28 ⟨i28,rfl,rfl⟩
     refine z6<|ao 11 Z (zt (cps:=[(0,[_]),(1,[_]),(2,[_]),(3,[_])]) (rs:=[_,_,_,_]) bI Z Z Z)<|aL 12 Z<|yi (cs:=_) Z Z Z Z<|fun i34=>zc (zb (zd .t4))<|zc (zb (zd .t3))<|zc (zb (zd .t4))<|zc (zb (zd .t4))<|zc (zb (zd .t4))<|z6<|ao 13 Z (f9 Z)<|bO ?_
     exact ⟨(i34,i28,b30,b32,i25),bX,aT,aJ,trivial⟩
   ·refine zu (m:=f.blocks.length) jj Z4 Z Z Z Z Z (by simp) (by simp) (by show (24:Int)*_≤_;omega) (by omega) eI 3<|fun b32=>z6<|yg (i:=4) (j:=8) Z Z (by kernel_rfl) ?_ ?_
    ·refine zr (rows:=[[_]]) bT Z Z Z Z Z<|z6<|yg (i:=6) (j:=8) Z Z (by kernel_rfl) ?_ ?_
     ·refine zq Z (zn (.r (.r (.rest _)))) (aB (-1) f.blocks.length (by omega) hpos) ?_
      rintro r28 O28 ⟨i28,rfl,rfl⟩
      refine z6<|aL 8 Z<|zu (m:=f.blocks.length) jj Z4 Z Z Z Z Z (by simp) (by simp) (by show (24:Int)*_≤_;omega) (by omega) eI 3<|fun b30=>z6<|ao 11 Z (zt (cps:=[(0,[_]),(1,[_]),(2,[_]),(3,[_])]) (rs:=[_,_,_,_]) bI Z Z Z)<|aL 12 Z<|yi (cs:=_) Z Z Z Z<|fun i34=>zc (zb (zd .t4))<|zc (zb (zd .t4))<|zc (zb (zd .t3))<|zc (zb (zd .t4))<|zc (zb (zd .t4))<|z6<|ao 13 Z (f9 Z)<|bO ?_
      exact ⟨(i34,i28,b30,b32,i25),bX,aT,aJ,trivial⟩
     ·refine zu (m:=f.blocks.length) jj Z4 Z Z Z Z Z (by simp) (by simp) (by show (24:Int)*_≤_;omega) (by omega) eI 3<|fun b30=>z6<|aL 6 Z<|zq Z (zn (.r (.r (.r (.rest _))))) (aB (-1) f.blocks.length (by omega) hpos) ?_
      rintro r28 O28 ⟨i28,rfl,rfl⟩
      refine z6<|ao 11 Z (zt (cps:=[(0,[_]),(1,[_]),(2,[_]),(3,[_])]) (rs:=[_,_,_,_]) bI Z Z Z)<|aL 12 Z<|yi (cs:=_) Z Z Z Z<|fun i34=>z6<|ao 13 Z (f9 Z)<|bO ?_
      exact ⟨(i34,i28,b30,b32,i25),bX,aT,aJ,trivial⟩
    ·refine zu (m:=f.blocks.length) jj Z4 Z Z Z Z Z (by simp) (by simp) (by show (24:Int)*_≤_;omega) (by omega) eI 3<|fun b30=>z6<|aL 4 Z<|zr (rows:=[[_]]) bT Z Z Z Z Z<|z6<|aL 6 Z<|zq Z (zn (.r (.r (.r (.rest _))))) (aB (-1) f.blocks.length (by omega) hpos) ?_
     rintro r28 O28 ⟨i28,rfl,rfl⟩
     refine z6<|ao 11 Z (zt (cps:=[(0,[_]),(1,[_]),(2,[_]),(3,[_])]) (rs:=[_,_,_,_]) bI Z Z Z)<|aL 12 Z<|yi (cs:=_) Z Z Z Z<|fun i34=>z6<|ao 13 Z (f9 Z)<|bO ?_
     exact ⟨(i34,i28,b30,b32,i25),bX,aT,aJ,trivial⟩
  ·refine zr (rows:=[[_]]) bT Z Z Z Z Z<|z6<|qh (i:=3) (j:=8) (m:=10) Z Z Z (by kernel_rfl) ?_ ?_ ?_
   ·refine zq Z (zn (.rest _)) (hnear) ?_
    rintro r25 O25 ⟨i25,rfl,rfl⟩
    refine z6<|qh (i:=6) (j:=8) (m:=10) Z Z Z (by kernel_rfl) ?_ ?_ ?_
    ·refine zq Z (zn (.r (.rest _))) (aB (-1) f.blocks.length (by omega) hpos) ?_
     rintro r28 O28 ⟨i28,rfl,rfl⟩
     refine z6<|yg (i:=8) (j:=10) Z Z (by kernel_rfl) ?_ ?_
     ·refine zu (m:=f.blocks.length) jj Z4 Z Z Z Z Z (by simp) (by simp) (by show (24:Int)*_≤_;omega) (by omega) eI 3<|fun b30=>z6<|aL 10 Z<|zu (m:=f.blocks.length) jj Z4 Z Z Z Z Z (by simp) (by simp) (by show (24:Int)*_≤_;omega) (by omega) eI 3<|fun b32=>z6<|ao 11 Z (zt (cps:=[(0,[_]),(1,[_]),(2,[_]),(3,[_])]) (rs:=[_,_,_,_]) bI Z Z Z)<|aL 12 Z<|yi (cs:=_) Z Z Z Z<|fun i34=>zc (zb (zd .t4))<|zc (zb (zd .t2))<|zc (zb (zd .t3))<|zc (zb (zd .t4))<|zc (zb (zd .t4))<|z6<|ao 13 Z (f9 Z)<|bO ?_
      exact ⟨(i34,i28,b30,b32,i25),bX,aT,aJ,trivial⟩
     ·refine zu (m:=f.blocks.length) jj Z4 Z Z Z Z Z (by simp) (by simp) (by show (24:Int)*_≤_;omega) (by omega) eI 3<|fun b32=>z6<|aL 8 Z<|zu (m:=f.blocks.length) jj Z4 Z Z Z Z Z (by simp) (by simp) (by show (24:Int)*_≤_;omega) (by omega) eI 3<|fun b30=>z6<|ao 11 Z (zt (cps:=[(0,[_]),(1,[_]),(2,[_]),(3,[_])]) (rs:=[_,_,_,_]) bI Z Z Z)<|aL 12 Z<|yi (cs:=_) Z Z Z Z<|fun i34=>zc (zb (zd .t4))<|zc (zb (zd .t3))<|zc (zb (zd .t3))<|zc (zb (zd .t4))<|zc (zb (zd .t4))<|z6<|ao 13 Z (f9 Z)<|bO ?_
      exact ⟨(i34,i28,b30,b32,i25),bX,aT,aJ,trivial⟩
    ·refine zu (m:=f.blocks.length) jj Z4 Z Z Z Z Z (by simp) (by simp) (by show (24:Int)*_≤_;omega) (by omega) eI 3<|fun b30=>z6<|yg (i:=6) (j:=10) Z Z (by kernel_rfl) ?_ ?_
     ·refine zq Z (zn (.r (.r (.rest _)))) (aB (-1) f.blocks.length (by omega) hpos) ?_
      rintro r28 O28 ⟨i28,rfl,rfl⟩
      refine z6<|aL 10 Z<|zu (m:=f.blocks.length) jj Z4 Z Z Z Z Z (by simp) (by simp) (by show (24:Int)*_≤_;omega) (by omega) eI 3<|fun b32=>z6<|ao 11 Z (zt (cps:=[(0,[_]),(1,[_]),(2,[_]),(3,[_])]) (rs:=[_,_,_,_]) bI Z Z Z)<|aL 12 Z<|yi (cs:=_) Z Z Z Z<|fun i34=>zc (zb (zd .t4))<|zc (zb (zd .t2))<|zc (zb (zd .t4))<|zc (zb (zd .t4))<|zc (zb (zd .t4))<|z6<|ao 13 Z (f9 Z)<|bO ?_
      exact ⟨(i34,i28,b30,b32,i25),bX,aT,aJ,trivial⟩
     ·refine zu (m:=f.blocks.length) jj Z4 Z Z Z Z Z (by simp) (by simp) (by show (24:Int)*_≤_;omega) (by omega) eI 3<|fun b32=>z6<|aL 6 Z<|zq Z (zn (.r (.r (.r (.rest _))))) (aB (-1) f.blocks.length (by omega) hpos) ?_
      rintro r28 O28 ⟨i28,rfl,rfl⟩
      refine z6<|ao 11 Z (zt (cps:=[(0,[_]),(1,[_]),(2,[_]),(3,[_])]) (rs:=[_,_,_,_]) bI Z Z Z)<|aL 12 Z<|yi (cs:=_) Z Z Z Z<|fun i34=>zc (zb (zd .t4))<|zc (zb (zd .t3))<|zc (zb (zd .t4))<|zc (zb (zd .t4))<|zc (zb (zd .t4))<|z6<|ao 13 Z (f9 Z)<|bO ?_
      exact ⟨(i34,i28,b30,b32,i25),bX,aT,aJ,trivial⟩
    ·refine zu (m:=f.blocks.length) jj Z4 Z Z Z Z Z (by simp) (by simp) (by show (24:Int)*_≤_;omega) (by omega) eI 3<|fun b32=>z6<|yg (i:=6) (j:=8) Z Z (by kernel_rfl) ?_ ?_
     ·refine zq Z (zn (.r (.r (.rest _)))) (aB (-1) f.blocks.length (by omega) hpos) ?_
      rintro r28 O28 ⟨i28,rfl,rfl⟩
      refine z6<|aL 8 Z<|zu (m:=f.blocks.length) jj Z4 Z Z Z Z Z (by simp) (by simp) (by show (24:Int)*_≤_;omega) (by omega) eI 3<|fun b30=>z6<|ao 11 Z (zt (cps:=[(0,[_]),(1,[_]),(2,[_]),(3,[_])]) (rs:=[_,_,_,_]) bI Z Z Z)<|aL 12 Z<|yi (cs:=_) Z Z Z Z<|fun i34=>zc (zb (zd .t4))<|zc (zb (zd .t4))<|zc (zb (zd .t3))<|zc (zb (zd .t4))<|zc (zb (zd .t4))<|z6<|ao 13 Z (f9 Z)<|bO ?_
      exact ⟨(i34,i28,b30,b32,i25),bX,aT,aJ,trivial⟩
     ·refine zu (m:=f.blocks.length) jj Z4 Z Z Z Z Z (by simp) (by simp) (by show (24:Int)*_≤_;omega) (by omega) eI 3<|fun b30=>z6<|aL 6 Z<|zq Z (zn (.r (.r (.r (.rest _))))) (aB (-1) f.blocks.length (by omega) hpos) ?_
      rintro r28 O28 ⟨i28,rfl,rfl⟩
      refine z6<|ao 11 Z (zt (cps:=[(0,[_]),(1,[_]),(2,[_]),(3,[_])]) (rs:=[_,_,_,_]) bI Z Z Z)<|aL 12 Z<|yi (cs:=_) Z Z Z Z<|fun i34=>z6<|ao 13 Z (f9 Z)<|bO ?_
      exact ⟨(i34,i28,b30,b32,i25),bX,aT,aJ,trivial⟩
   ·refine zu (m:=f.blocks.length) jj Z4 Z Z Z Z Z (by simp) (by simp) (by show (24:Int)*_≤_;omega) (by omega) eI 3<|fun b30=>z6<|yg (i:=3) (j:=10) Z Z (by kernel_rfl) ?_ ?_
    ·refine zq Z (zn (.r (.rest _))) (hnear) ?_
     rintro r25 O25 ⟨i25,rfl,rfl⟩
     refine z6<|yg (i:=6) (j:=10) Z Z (by kernel_rfl) ?_ ?_
     ·refine zq Z (zn (.r (.r (.rest _)))) (aB (-1) f.blocks.length (by omega) hpos) ?_
      rintro r28 O28 ⟨i28,rfl,rfl⟩
      refine z6<|aL 10 Z<|zu (m:=f.blocks.length) jj Z4 Z Z Z Z Z (by simp) (by simp) (by show (24:Int)*_≤_;omega) (by omega) eI 3<|fun b32=>z6<|ao 11 Z (zt (cps:=[(0,[_]),(1,[_]),(2,[_]),(3,[_])]) (rs:=[_,_,_,_]) bI Z Z Z)<|aL 12 Z<|yi (cs:=_) Z Z Z Z<|fun i34=>zc (zb (zd .t3))<|zc (zb (zd .t2))<|zc (zb (zd .t4))<|zc (zb (zd .t4))<|zc (zb (zd .t4))<|z6<|ao 13 Z (f9 Z)<|bO ?_
      exact ⟨(i34,i28,b30,b32,i25),bX,aT,aJ,trivial⟩
     ·refine zu (m:=f.blocks.length) jj Z4 Z Z Z Z Z (by simp) (by simp) (by show (24:Int)*_≤_;omega) (by omega) eI 3<|fun b32=>z6<|aL 6 Z<|zq Z (zn (.r (.r (.r (.rest _))))) (aB (-1) f.blocks.length (by omega) hpos) ?_
      rintro r28 O28 ⟨i28,rfl,rfl⟩
      refine z6<|ao 11 Z (zt (cps:=[(0,[_]),(1,[_]),(2,[_]),(3,[_])]) (rs:=[_,_,_,_]) bI Z Z Z)<|aL 12 Z<|yi (cs:=_) Z Z Z Z<|fun i34=>zc (zb (zd .t3))<|zc (zb (zd .t3))<|zc (zb (zd .t4))<|zc (zb (zd .t4))<|zc (zb (zd .t4))<|z6<|ao 13 Z (f9 Z)<|bO ?_
      exact ⟨(i34,i28,b30,b32,i25),bX,aT,aJ,trivial⟩
    ·refine zu (m:=f.blocks.length) jj Z4 Z Z Z Z Z (by simp) (by simp) (by show (24:Int)*_≤_;omega) (by omega) eI 3<|fun b32=>z6<|aL 3 Z<|zq Z (zn (.r (.r (.rest _)))) (hnear) ?_
     rintro r25 O25 ⟨i25,rfl,rfl⟩
     refine z6<|aL 6 Z<|zq Z (zn (.r (.r (.r (.rest _))))) (aB (-1) f.blocks.length (by omega) hpos) ?_
     rintro r28 O28 ⟨i28,rfl,rfl⟩
     refine z6<|ao 11 Z (zt (cps:=[(0,[_]),(1,[_]),(2,[_]),(3,[_])]) (rs:=[_,_,_,_]) bI Z Z Z)<|aL 12 Z<|yi (cs:=_) Z Z Z Z<|fun i34=>zc (zb (zd .t2))<|zc (zb (zd .t3))<|zc (zb (zd .t4))<|zc (zb (zd .t4))<|zc (zb (zd .t4))<|z6<|ao 13 Z (f9 Z)<|bO ?_
     exact ⟨(i34,i28,b30,b32,i25),bX,aT,aJ,trivial⟩
   ·refine zu (m:=f.blocks.length) jj Z4 Z Z Z Z Z (by simp) (by simp) (by show (24:Int)*_≤_;omega) (by omega) eI 3<|fun b32=>z6<|yg (i:=3) (j:=8) Z Z (by kernel_rfl) ?_ ?_
    ·refine zq Z (zn (.r (.rest _))) (hnear) ?_
     rintro r25 O25 ⟨i25,rfl,rfl⟩
     refine z6<|yg (i:=6) (j:=8) Z Z (by kernel_rfl) ?_ ?_
     ·refine zq Z (zn (.r (.r (.rest _)))) (aB (-1) f.blocks.length (by omega) hpos) ?_
      rintro r28 O28 ⟨i28,rfl,rfl⟩
      refine z6<|aL 8 Z<|zu (m:=f.blocks.length) jj Z4 Z Z Z Z Z (by simp) (by simp) (by show (24:Int)*_≤_;omega) (by omega) eI 3<|fun b30=>z6<|ao 11 Z (zt (cps:=[(0,[_]),(1,[_]),(2,[_]),(3,[_])]) (rs:=[_,_,_,_]) bI Z Z Z)<|aL 12 Z<|yi (cs:=_) Z Z Z Z<|fun i34=>zc (zb (zd .t3))<|zc (zb (zd .t4))<|zc (zb (zd .t3))<|zc (zb (zd .t4))<|zc (zb (zd .t4))<|z6<|ao 13 Z (f9 Z)<|bO ?_
      exact ⟨(i34,i28,b30,b32,i25),bX,aT,aJ,trivial⟩
     ·refine zu (m:=f.blocks.length) jj Z4 Z Z Z Z Z (by simp) (by simp) (by show (24:Int)*_≤_;omega) (by omega) eI 3<|fun b30=>z6<|aL 6 Z<|zq Z (zn (.r (.r (.r (.rest _))))) (aB (-1) f.blocks.length (by omega) hpos) ?_
      rintro r28 O28 ⟨i28,rfl,rfl⟩
      refine z6<|ao 11 Z (zt (cps:=[(0,[_]),(1,[_]),(2,[_]),(3,[_])]) (rs:=[_,_,_,_]) bI Z Z Z)<|aL 12 Z<|yi (cs:=_) Z Z Z Z<|fun i34=>zc (zb (zd .t3))<|zc (zb (zd .t4))<|zc (zb (zd .t4))<|zc (zb (zd .t4))<|zc (zb (zd .t4))<|z6<|ao 13 Z (f9 Z)<|bO ?_
      exact ⟨(i34,i28,b30,b32,i25),bX,aT,aJ,trivial⟩
    ·refine zu (m:=f.blocks.length) jj Z4 Z Z Z Z Z (by simp) (by simp) (by show (24:Int)*_≤_;omega) (by omega) eI 3<|fun b30=>z6<|aL 3 Z<|zq Z (zn (.r (.r (.rest _)))) (hnear) ?_
     rintro r25 O25 ⟨i25,rfl,rfl⟩
     refine z6<|aL 6 Z<|zq Z (zn (.r (.r (.r (.rest _))))) (aB (-1) f.blocks.length (by omega) hpos) ?_
     rintro r28 O28 ⟨i28,rfl,rfl⟩
     refine z6<|ao 11 Z (zt (cps:=[(0,[_]),(1,[_]),(2,[_]),(3,[_])]) (rs:=[_,_,_,_]) bI Z Z Z)<|aL 12 Z<|yi (cs:=_) Z Z Z Z<|fun i34=>zc (zb (zd .t2))<|zc (zb (zd .t4))<|zc (zb (zd .t4))<|zc (zb (zd .t4))<|zc (zb (zd .t4))<|z6<|ao 13 Z (f9 Z)<|bO ?_
     exact ⟨(i34,i28,b30,b32,i25),bX,aT,aJ,trivial⟩
  ·refine zu (m:=f.blocks.length) jj Z4 Z Z Z Z Z (by simp) (by simp) (by show (24:Int)*_≤_;omega) (by omega) eI 3<|fun b30=>z6<|qh (i:=3) (j:=4) (m:=10) Z Z Z (by kernel_rfl) ?_ ?_ ?_
   ·refine zq Z (zn (.r (.rest _))) (hnear) ?_
    rintro r25 O25 ⟨i25,rfl,rfl⟩
    refine z6<|yg (i:=4) (j:=10) Z Z (by kernel_rfl) ?_ ?_
    ·refine zr (rows:=[[_]]) bT Z Z Z Z Z<|z6<|yg (i:=6) (j:=10) Z Z (by kernel_rfl) ?_ ?_
     ·refine zq Z (zn (.r (.r (.rest _)))) (aB (-1) f.blocks.length (by omega) hpos) ?_
      rintro r28 O28 ⟨i28,rfl,rfl⟩
      refine z6<|aL 10 Z<|zu (m:=f.blocks.length) jj Z4 Z Z Z Z Z (by simp) (by simp) (by show (24:Int)*_≤_;omega) (by omega) eI 3<|fun b32=>z6<|ao 11 Z (zt (cps:=[(0,[_]),(1,[_]),(2,[_]),(3,[_])]) (rs:=[_,_,_,_]) bI Z Z Z)<|aL 12 Z<|yi (cs:=_) Z Z Z Z<|fun i34=>zc (zb (zd .t3))<|zc (zb (zd .t2))<|zc (zb (zd .t4))<|zc (zb (zd .t4))<|zc (zb (zd .t4))<|z6<|ao 13 Z (f9 Z)<|bO ?_
      exact ⟨(i34,i28,b30,b32,i25),bX,aT,aJ,trivial⟩
     ·refine zu (m:=f.blocks.length) jj Z4 Z Z Z Z Z (by simp) (by simp) (by show (24:Int)*_≤_;omega) (by omega) eI 3<|fun b32=>z6<|aL 6 Z<|zq Z (zn (.r (.r (.r (.rest _))))) (aB (-1) f.blocks.length (by omega) hpos) ?_
      rintro r28 O28 ⟨i28,rfl,rfl⟩
      refine z6<|ao 11 Z (zt (cps:=[(0,[_]),(1,[_]),(2,[_]),(3,[_])]) (rs:=[_,_,_,_]) bI Z Z Z)<|aL 12 Z<|yi (cs:=_) Z Z Z Z<|fun i34=>zc (zb (zd .t3))<|zc (zb (zd .t3))<|zc (zb (zd .t4))<|zc (zb (zd .t4))<|zc (zb (zd .t4))<|z6<|ao 13 Z (f9 Z)<|bO ?_
      exact ⟨(i34,i28,b30,b32,i25),bX,aT,aJ,trivial⟩
    ·refine zu (m:=f.blocks.length) jj Z4 Z Z Z Z Z (by simp) (by simp) (by show (24:Int)*_≤_;omega) (by omega) eI 3<|fun b32=>z6<|aL 4 Z<|zr (rows:=[[_]]) bT Z Z Z Z Z<|z6<|aL 6 Z<|zq Z (zn (.r (.r (.r (.rest _))))) (aB (-1) f.blocks.length (by omega) hpos) ?_
     rintro r28 O28 ⟨i28,rfl,rfl⟩
     refine z6<|ao 11 Z (zt (cps:=[(0,[_]),(1,[_]),(2,[_]),(3,[_])]) (rs:=[_,_,_,_]) bI Z Z Z)<|aL 12 Z<|yi (cs:=_) Z Z Z Z<|fun i34=>zc (zb (zd .t3))<|zc (zb (zd .t3))<|zc (zb (zd .t4))<|zc (zb (zd .t4))<|zc (zb (zd .t4))<|z6<|ao 13 Z (f9 Z)<|bO ?_
     exact ⟨(i34,i28,b30,b32,i25),bX,aT,aJ,trivial⟩
   ·refine zr (rows:=[[_]]) bT Z Z Z Z Z<|z6<|yg (i:=3) (j:=10) Z Z (by kernel_rfl) ?_ ?_
    ·refine zq Z (zn (.r (.rest _))) (hnear) ?_
     rintro r25 O25 ⟨i25,rfl,rfl⟩
     refine z6<|yg (i:=6) (j:=10) Z Z (by kernel_rfl) ?_ ?_
     ·refine zq Z (zn (.r (.r (.rest _)))) (aB (-1) f.blocks.length (by omega) hpos) ?_
      rintro r28 O28 ⟨i28,rfl,rfl⟩
      refine z6<|aL 10 Z<|zu (m:=f.blocks.length) jj Z4 Z Z Z Z Z (by simp) (by simp) (by show (24:Int)*_≤_;omega) (by omega) eI 3<|fun b32=>z6<|ao 11 Z (zt (cps:=[(0,[_]),(1,[_]),(2,[_]),(3,[_])]) (rs:=[_,_,_,_]) bI Z Z Z)<|aL 12 Z<|yi (cs:=_) Z Z Z Z<|fun i34=>zc (zb (zd .t3))<|zc (zb (zd .t2))<|zc (zb (zd .t4))<|zc (zb (zd .t4))<|zc (zb (zd .t4))<|z6<|ao 13 Z (f9 Z)<|bO ?_
      exact ⟨(i34,i28,b30,b32,i25),bX,aT,aJ,trivial⟩
     ·refine zu (m:=f.blocks.length) jj Z4 Z Z Z Z Z (by simp) (by simp) (by show (24:Int)*_≤_;omega) (by omega) eI 3<|fun b32=>z6<|aL 6 Z<|zq Z (zn (.r (.r (.r (.rest _))))) (aB (-1) f.blocks.length (by omega) hpos) ?_
      rintro r28 O28 ⟨i28,rfl,rfl⟩
      refine z6<|ao 11 Z (zt (cps:=[(0,[_]),(1,[_]),(2,[_]),(3,[_])]) (rs:=[_,_,_,_]) bI Z Z Z)<|aL 12 Z<|yi (cs:=_) Z Z Z Z<|fun i34=>zc (zb (zd .t3))<|zc (zb (zd .t3))<|zc (zb (zd .t4))<|zc (zb (zd .t4))<|zc (zb (zd .t4))<|z6<|ao 13 Z (f9 Z)<|bO ?_
      exact ⟨(i34,i28,b30,b32,i25),bX,aT,aJ,trivial⟩
    ·refine zu (m:=f.blocks.length) jj Z4 Z Z Z Z Z (by simp) (by simp) (by show (24:Int)*_≤_;omega) (by omega) eI 3<|fun b32=>z6<|aL 3 Z<|zq Z (zn (.r (.r (.rest _)))) (hnear) ?_
     rintro r25 O25 ⟨i25,rfl,rfl⟩
     refine z6<|aL 6 Z<|zq Z (zn (.r (.r (.r (.rest _))))) (aB (-1) f.blocks.length (by omega) hpos) ?_
     rintro r28 O28 ⟨i28,rfl,rfl⟩
     refine z6<|ao 11 Z (zt (cps:=[(0,[_]),(1,[_]),(2,[_]),(3,[_])]) (rs:=[_,_,_,_]) bI Z Z Z)<|aL 12 Z<|yi (cs:=_) Z Z Z Z<|fun i34=>zc (zb (zd .t2))<|zc (zb (zd .t3))<|zc (zb (zd .t4))<|zc (zb (zd .t4))<|zc (zb (zd .t4))<|z6<|ao 13 Z (f9 Z)<|bO ?_
     exact ⟨(i34,i28,b30,b32,i25),bX,aT,aJ,trivial⟩
   ·refine zu (m:=f.blocks.length) jj Z4 Z Z Z Z Z (by simp) (by simp) (by show (24:Int)*_≤_;omega) (by omega) eI 3<|fun b32=>z6<|yg (i:=3) (j:=4) Z Z (by kernel_rfl) ?_ ?_
    ·refine zq Z (zn (.r (.r (.rest _)))) (hnear) ?_
     rintro r25 O25 ⟨i25,rfl,rfl⟩
     refine z6<|aL 4 Z<|zr (rows:=[[_]]) bT Z Z Z Z Z<|z6<|aL 6 Z<|zq Z (zn (.r (.r (.r (.rest _))))) (aB (-1) f.blocks.length (by omega) hpos) ?_
     rintro r28 O28 ⟨i28,rfl,rfl⟩
     refine z6<|ao 11 Z (zt (cps:=[(0,[_]),(1,[_]),(2,[_]),(3,[_])]) (rs:=[_,_,_,_]) bI Z Z Z)<|aL 12 Z<|yi (cs:=_) Z Z Z Z<|fun i34=>zc (zb (zd .t2))<|zc (zb (zd .t3))<|zc (zb (zd .t4))<|zc (zb (zd .t4))<|zc (zb (zd .t4))<|z6<|ao 13 Z (f9 Z)<|bO ?_
     exact ⟨(i34,i28,b30,b32,i25),bX,aT,aJ,trivial⟩
    ·refine zr (rows:=[[_]]) bT Z Z Z Z Z<|z6<|aL 3 Z<|zq Z (zn (.r (.r (.rest _)))) (hnear) ?_
     rintro r25 O25 ⟨i25,rfl,rfl⟩
     refine z6<|aL 6 Z<|zq Z (zn (.r (.r (.r (.rest _))))) (aB (-1) f.blocks.length (by omega) hpos) ?_
     rintro r28 O28 ⟨i28,rfl,rfl⟩
     refine z6<|ao 11 Z (zt (cps:=[(0,[_]),(1,[_]),(2,[_]),(3,[_])]) (rs:=[_,_,_,_]) bI Z Z Z)<|aL 12 Z<|yi (cs:=_) Z Z Z Z<|fun i34=>zc (zb (zd .t2))<|zc (zb (zd .t3))<|zc (zb (zd .t4))<|zc (zb (zd .t4))<|zc (zb (zd .t4))<|z6<|ao 13 Z (f9 Z)<|bO ?_
     exact ⟨(i34,i28,b30,b32,i25),bX,aT,aJ,trivial⟩
  ·refine zu (m:=f.blocks.length) jj Z4 Z Z Z Z Z (by simp) (by simp) (by show (24:Int)*_≤_;omega) (by omega) eI 3<|fun b32=>z6<|qh (i:=3) (j:=4) (m:=8) Z Z Z (by kernel_rfl) ?_ ?_ ?_
   ·refine zq Z (zn (.r (.rest _))) (hnear) ?_
    rintro r25 O25 ⟨i25,rfl,rfl⟩
    refine z6<|yg (i:=4) (j:=8) Z Z (by kernel_rfl) ?_ ?_
    ·refine zr (rows:=[[_]]) bT Z Z Z Z Z<|z6<|yg (i:=6) (j:=8) Z Z (by kernel_rfl) ?_ ?_
     ·refine zq Z (zn (.r (.r (.rest _)))) (aB (-1) f.blocks.length (by omega) hpos) ?_
      rintro r28 O28 ⟨i28,rfl,rfl⟩
      refine z6<|aL 8 Z<|zu (m:=f.blocks.length) jj Z4 Z Z Z Z Z (by simp) (by simp) (by show (24:Int)*_≤_;omega) (by omega) eI 3<|fun b30=>z6<|ao 11 Z (zt (cps:=[(0,[_]),(1,[_]),(2,[_]),(3,[_])]) (rs:=[_,_,_,_]) bI Z Z Z)<|aL 12 Z<|yi (cs:=_) Z Z Z Z<|fun i34=>zc (zb (zd .t3))<|zc (zb (zd .t4))<|zc (zb (zd .t3))<|zc (zb (zd .t4))<|zc (zb (zd .t4))<|z6<|ao 13 Z (f9 Z)<|bO ?_
      exact ⟨(i34,i28,b30,b32,i25),bX,aT,aJ,trivial⟩
     ·refine zu (m:=f.blocks.length) jj Z4 Z Z Z Z Z (by simp) (by simp) (by show (24:Int)*_≤_;omega) (by omega) eI 3<|fun b30=>z6<|aL 6 Z<|zq Z (zn (.r (.r (.r (.rest _))))) (aB (-1) f.blocks.length (by omega) hpos) ?_
      rintro r28 O28 ⟨i28,rfl,rfl⟩
      refine z6<|ao 11 Z (zt (cps:=[(0,[_]),(1,[_]),(2,[_]),(3,[_])]) (rs:=[_,_,_,_]) bI Z Z Z)<|aL 12 Z<|yi (cs:=_) Z Z Z Z<|fun i34=>zc (zb (zd .t3))<|zc (zb (zd .t4))<|zc (zb (zd .t4))<|zc (zb (zd .t4))<|zc (zb (zd .t4))<|z6<|ao 13 Z (f9 Z)<|bO ?_
      exact ⟨(i34,i28,b30,b32,i25),bX,aT,aJ,trivial⟩
    ·refine zu (m:=f.blocks.length) jj Z4 Z Z Z Z Z (by simp) (by simp) (by show (24:Int)*_≤_;omega) (by omega) eI 3<|fun b30=>z6<|aL 4 Z<|zr (rows:=[[_]]) bT Z Z Z Z Z<|z6<|aL 6 Z<|zq Z (zn (.r (.r (.r (.rest _))))) (aB (-1) f.blocks.length (by omega) hpos) ?_
     rintro r28 O28 ⟨i28,rfl,rfl⟩
     refine z6<|ao 11 Z (zt (cps:=[(0,[_]),(1,[_]),(2,[_]),(3,[_])]) (rs:=[_,_,_,_]) bI Z Z Z)<|aL 12 Z<|yi (cs:=_) Z Z Z Z<|fun i34=>zc (zb (zd .t3))<|zc (zb (zd .t4))<|zc (zb (zd .t4))<|zc (zb (zd .t4))<|zc (zb (zd .t4))<|z6<|ao 13 Z (f9 Z)<|bO ?_
     exact ⟨(i34,i28,b30,b32,i25),bX,aT,aJ,trivial⟩
   ·refine zr (rows:=[[_]]) bT Z Z Z Z Z<|z6<|yg (i:=3) (j:=8) Z Z (by kernel_rfl) ?_ ?_
    ·refine zq Z (zn (.r (.rest _))) (hnear) ?_
     rintro r25 O25 ⟨i25,rfl,rfl⟩
     refine z6<|yg (i:=6) (j:=8) Z Z (by kernel_rfl) ?_ ?_
     ·refine zq Z (zn (.r (.r (.rest _)))) (aB (-1) f.blocks.length (by omega) hpos) ?_
      rintro r28 O28 ⟨i28,rfl,rfl⟩
      refine z6<|aL 8 Z<|zu (m:=f.blocks.length) jj Z4 Z Z Z Z Z (by simp) (by simp) (by show (24:Int)*_≤_;omega) (by omega) eI 3<|fun b30=>z6<|ao 11 Z (zt (cps:=[(0,[_]),(1,[_]),(2,[_]),(3,[_])]) (rs:=[_,_,_,_]) bI Z Z Z)<|aL 12 Z<|yi (cs:=_) Z Z Z Z<|fun i34=>zc (zb (zd .t3))<|zc (zb (zd .t4))<|zc (zb (zd .t3))<|zc (zb (zd .t4))<|zc (zb (zd .t4))<|z6<|ao 13 Z (f9 Z)<|bO ?_
      exact ⟨(i34,i28,b30,b32,i25),bX,aT,aJ,trivial⟩
     ·refine zu (m:=f.blocks.length) jj Z4 Z Z Z Z Z (by simp) (by simp) (by show (24:Int)*_≤_;omega) (by omega) eI 3<|fun b30=>z6<|aL 6 Z<|zq Z (zn (.r (.r (.r (.rest _))))) (aB (-1) f.blocks.length (by omega) hpos) ?_
      rintro r28 O28 ⟨i28,rfl,rfl⟩
      refine z6<|ao 11 Z (zt (cps:=[(0,[_]),(1,[_]),(2,[_]),(3,[_])]) (rs:=[_,_,_,_]) bI Z Z Z)<|aL 12 Z<|yi (cs:=_) Z Z Z Z<|fun i34=>zc (zb (zd .t3))<|zc (zb (zd .t4))<|zc (zb (zd .t4))<|zc (zb (zd .t4))<|zc (zb (zd .t4))<|z6<|ao 13 Z (f9 Z)<|bO ?_
      exact ⟨(i34,i28,b30,b32,i25),bX,aT,aJ,trivial⟩
    ·refine zu (m:=f.blocks.length) jj Z4 Z Z Z Z Z (by simp) (by simp) (by show (24:Int)*_≤_;omega) (by omega) eI 3<|fun b30=>z6<|aL 3 Z<|zq Z (zn (.r (.r (.rest _)))) (hnear) ?_
     rintro r25 O25 ⟨i25,rfl,rfl⟩
     refine z6<|aL 6 Z<|zq Z (zn (.r (.r (.r (.rest _))))) (aB (-1) f.blocks.length (by omega) hpos) ?_
     rintro r28 O28 ⟨i28,rfl,rfl⟩
     refine z6<|ao 11 Z (zt (cps:=[(0,[_]),(1,[_]),(2,[_]),(3,[_])]) (rs:=[_,_,_,_]) bI Z Z Z)<|aL 12 Z<|yi (cs:=_) Z Z Z Z<|fun i34=>zc (zb (zd .t2))<|zc (zb (zd .t4))<|zc (zb (zd .t4))<|zc (zb (zd .t4))<|zc (zb (zd .t4))<|z6<|ao 13 Z (f9 Z)<|bO ?_
     exact ⟨(i34,i28,b30,b32,i25),bX,aT,aJ,trivial⟩
   ·refine zu (m:=f.blocks.length) jj Z4 Z Z Z Z Z (by simp) (by simp) (by show (24:Int)*_≤_;omega) (by omega) eI 3<|fun b30=>z6<|yg (i:=3) (j:=4) Z Z (by kernel_rfl) ?_ ?_
    ·refine zq Z (zn (.r (.r (.rest _)))) (hnear) ?_
     rintro r25 O25 ⟨i25,rfl,rfl⟩
     refine z6<|aL 4 Z<|zr (rows:=[[_]]) bT Z Z Z Z Z<|z6<|aL 6 Z<|zq Z (zn (.r (.r (.r (.rest _))))) (aB (-1) f.blocks.length (by omega) hpos) ?_
     rintro r28 O28 ⟨i28,rfl,rfl⟩
     refine z6<|ao 11 Z (zt (cps:=[(0,[_]),(1,[_]),(2,[_]),(3,[_])]) (rs:=[_,_,_,_]) bI Z Z Z)<|aL 12 Z<|yi (cs:=_) Z Z Z Z<|fun i34=>zc (zb (zd .t2))<|zc (zb (zd .t4))<|zc (zb (zd .t4))<|zc (zb (zd .t4))<|zc (zb (zd .t4))<|z6<|ao 13 Z (f9 Z)<|bO ?_
     exact ⟨(i34,i28,b30,b32,i25),bX,aT,aJ,trivial⟩
    ·refine zr (rows:=[[_]]) bT Z Z Z Z Z<|z6<|aL 3 Z<|zq Z (zn (.r (.r (.rest _)))) (hnear) ?_
     rintro r25 O25 ⟨i25,rfl,rfl⟩
     refine z6<|aL 6 Z<|zq Z (zn (.r (.r (.r (.rest _))))) (aB (-1) f.blocks.length (by omega) hpos) ?_
     rintro r28 O28 ⟨i28,rfl,rfl⟩
     refine z6<|ao 11 Z (zt (cps:=[(0,[_]),(1,[_]),(2,[_]),(3,[_])]) (rs:=[_,_,_,_]) bI Z Z Z)<|aL 12 Z<|yi (cs:=_) Z Z Z Z<|fun i34=>zc (zb (zd .t2))<|zc (zb (zd .t4))<|zc (zb (zd .t4))<|zc (zb (zd .t4))<|zc (zb (zd .t4))<|z6<|ao 13 Z (f9 Z)<|bO ?_
     exact ⟨(i34,i28,b30,b32,i25),bX,aT,aJ,trivial⟩
 ·rintro ⟨i34,i28,b30,b32,i25⟩ _
  refine ae<|z7 (j7 Z)<|z7 (yj Z)<|z7 (y0 Z1 Z jr (by decide) Z Z)<|z7 (yd (c:=.own _ _) jv Z ⟨_,.head⟩ Z)<|z7 (yy (j:=0) jh jm Z Z Z ⟨_,.t1⟩ (by first|rfl|(simp[aV,aX];done)|(simp[aV,aX];omega)) hpos)<|ai.storeI (j:=0) jm Z Z .t1 (by first|omega|(simp;omega))<|z6<|ze<|ae<|bh Z<|z7 (Gv.cutLoM (j:=1) jh jm Z Z Z (by omega))<|au jh Z<|aa Z<|z6<|zj<|ya (γ:=Nat) [4,5,6,7,41,42] (fun q=>[(43,.int .i64 q)]) (fun q=>[(i34,.cells 103 [.own i25 f.blocks.length,.own i28 f.blocks.length,dg b30 f.blocks.length,dg b32 f.blocks.length]),(i28,.grow 1 3 (cI (fE (ah f) f.blocks.length q))),(0,cu eI 24 3 b30 (List.replicate f.blocks.length [])),(0,cu eI 24 3 b32 (List.replicate f.blocks.length [])),(i25,.grow 1 3 (cI (ba (ah f) f.blocks.length)))]) (fun q=>q≤((ap (ah f) f.blocks.length).drop 1).length∧∀x,-1≤gi (fE (ah f) f.blocks.length q) x∧gi (fE (ah f) f.blocks.length q) x≤q) (fun q=>((ap (ah f) f.blocks.length).drop 1).length - q) 0 aT aJ (⟨qm _,fun x=>by rw[show fE (ah f) f.blocks.length 0=ed f.blocks.length from rfl,kL hpos];dsimp only;split<;>omega⟩) ?_
  rintro q ⟨hq,hb⟩
  refine ae<|ax Z Z<|z6<|ze<|zp Z (fun cq=>?_) (fun cq=>?_)
  ·have hq2:q<((ap (ah f) f.blocks.length).drop 1).length:=by simpa using cq
   obtain ⟨b,hbe⟩:∃b,((ap (ah f) f.blocks.length).drop 1)[q]=b:=⟨_,rfl⟩
   have hbt:b∈(ap (ah f) f.blocks.length).drop 1:=hbe▸qn hq2
   have hbm:b∈ap (ah f) f.blocks.length:=List.mem_of_mem_drop hbt
   have hb0:=El hG.toEOk hbt
   obtain ⟨hbp,hbn⟩:=hrng b hbm
   have hnm:=(hG.near_mem hbm hb0).1
   rw[←fe hbp hb0] at hnm
   obtain ⟨hnp,hnn⟩:=hrng _ hnm
   have hgN:(ba (ah f) f.blocks.length)[b.toNat]?=some (gi (ba (ah f) f.blocks.length) b):=eU hbp (by rw[eu];omega)
   have hgL:(fE (ah f) f.blocks.length q)[(gi (ba (ah f) f.blocks.length) b).toNat]?=some (gi (fE (ah f) f.blocks.length q) (gi (ba (ah f) f.blocks.length) b)):=eU hnp (by rw[qy];omega)
   have hbb:=hb (gi (ba (ah f) f.blocks.length) b)
   have hsucc:fE (ah f) f.blocks.length (q+1)=(fE (ah f) f.blocks.length q).set b.toNat (gi (fE (ah f) f.blocks.length q) (gi (ba (ah f) f.blocks.length) b)+1):=by rw[vz hq2,hbe,fe hbp hb0];rfl
   have hlen:=qy (ah f) f.blocks.length q
   have hNl:=eu (ah f) f.blocks.length
   have hql:q≤1000:=by have:((ap (ah f) f.blocks.length).drop 1).length≤(ap (ah f) f.blocks.length).length:=(by simp);omega
   refine zi<|ze<|zj<|ae<|z7 (db q jh jm Z Z Z (by rw[qj hq2,hbe])) ?_
   refine aw jq Z<|aq Z<|z6<|zw (fun j=>Nat.beq j 20) (by kernel_rfl) Z (zn (.r (.l (.l (.l (.r (.rest _)))))))<|ao 0 Z (j7 Z)<|ao 1 Z (yj Z)<|ao 2 Z (y0 Z1 Z jr (by decide) Z Z)<|ao 3 Z (yd (c:=.own _ _) jv Z ⟨_,.head⟩ Z)<|ao 4 Z (fC Z)<|ao 5 Z (j7 Z)<|ao 6 Z (yj Z)<|ao 7 Z (y0 Z1 Z jr (by decide) Z Z)<|ao 8 Z (yd (c:=.own _ _) jv Z ⟨_,.head⟩ Z)<|ao 9 Z (j7 Z)<|ao 10 Z (yj Z)<|ao 11 Z (y0 Z1 Z jr (by decide) Z Z)<|ao 12 Z (yd (c:=.own _ _) jv Z ⟨_,.head⟩ Z)<|ao 13 Z (fC Z)<|ao 14 Z (yy (j:=b.toNat) jh jm Z Z (by omega) ⟨_,.t1⟩ (by first|rfl|(simp[aV,aX];done)|(simp[aV,aX];omega)) (by omega))<|ao 15 Z (q5 (j:=b.toNat) jq Z ⟨_,.t1⟩ hgN)<|aL 16 Z<|z7 (yy (j:=(gi (ba (ah f) f.blocks.length) b).toNat) jh jm Z Z (by omega) ⟨_,.head⟩ (by first|rfl|(simp[aV,aX];done)|(simp[aV,aX];omega)) (by omega))<|z6<|aL 17 Z<|z7 (q5 (j:=(gi (ba (ah f) f.blocks.length) b).toNat) jq Z ⟨_,.head⟩ hgL)<|z6<|ao 18 Z (H6 Z Z)<|aL 19 Z<|z7 (yy (j:=b.toNat) jh jm Z Z (by omega) ⟨_,.head⟩ (by first|rfl|(simp[aV,aX];done)|(simp[aV,aX];omega)) (by omega))<|z6<|yu<|yz (i:=20) Z (by kernel_rfl) (by kernel_rfl)<|ai.storeI (j:=b.toNat) jm Z Z .t2 (by first|omega|(simp;omega))<|zc (zb (zd .t1))<|zc (zb (zd .t4))<|zc (zb (zd .t4))<|zc (zb (zd .t4))<|zc (zb (zd .t4))<|z6<|yx (by kernel_rfl)<|bD ?_
   refine aQ Z Z<|aa Z<|z6 ?_
   exact ⟨q+1,AY,aT,⟨_,(.refl _),by rw[hsucc]⟩,⟨hq2,fun x=>by rw[hsucc,qC hbp (by omega)];have:=hb x;split<;>omega⟩,by omega⟩
  ·have hqn:q=((ap (ah f) f.blocks.length).drop 1).length:=by have h0:¬(q:Int)<(((ap (ah f) f.blocks.length).drop 1).length:Int):=(by simpa using cq);omega
   subst hqn
   rw[Ag]
   refine y8<|ze<|ae<|aa Z<|aa Z<|z6<|zj<|ya (γ:=Nat) [4,6,7,68] (fun k=>[(69,.int .i64 k)]) (fun k=>[(i34,.cells 103 [.own i25 f.blocks.length,.own i28 f.blocks.length,dg b30 f.blocks.length,dg b32 f.blocks.length]),(i28,.grow 1 3 (cI (bN (ah f) f.blocks.length))),(0,cu eI 24 3 b30 (bB f.blocks.length (sd (ba (ah f) f.blocks.length) k))),(0,cu eI 24 3 b32 (List.replicate f.blocks.length [])),(i25,.grow 1 3 (cI (ba (ah f) f.blocks.length)))]) (fun k=>k≤f.blocks.length) (fun k=>f.blocks.length - k) 0 aT ⟨_,(.refl _),by rw[nD];rfl⟩ (qm _) ?_
   rintro k hk
   refine ae<|ax Z Z<|z6<|ze<|zp Z (fun ck=>?_) (fun ck=>?_)
   ·have hk2:k<f.blocks.length:=by simp at ck;omega
    have hNl:=eu (ah f) f.blocks.length
    have hgN:(ba (ah f) f.blocks.length)[k]?=some (gi (ba (ah f) f.blocks.length) (k:Int)):=eU (x:=(k:Int)) (by omega) (by rw[eu];omega)
    have hel:=Em (ba (ah f) f.blocks.length) k
    refine zi<|ze<|zj<|ae<|aa Z<|aq Z<|z6<|ae<|z7 (j7 Z)<|z7 (yj Z)<|z7 (y0 Z1 Z jr (by decide) Z Z)<|z7 (yd (c:=.own _ _) jv Z ⟨_,.head⟩ Z)<|aa Z<|z7 (yy (j:=k) jh jm Z Z Z ⟨_,.t4⟩ (by first|rfl|(simp[aV,aX];done)|(simp[aV,aX];omega)) hk2)<|z7 (q5 (j:=k) jq Z ⟨_,.t4⟩ hgN)<|aq Z<|z6<|ae<|aa Z<|z7 (yw Z Z)<|z6<|zz Z (fun cn=>?_) (fun cn=>?_)
    ·have hne:gi (ba (ah f) f.blocks.length) (k:Int)≠-1:=by simpa using cn
     have hpm:=(CP hG (by omega) hne).2
     obtain ⟨hp0,hpn⟩:=hrng _ hpm
     obtain ⟨p,hpe⟩:∃p,gi (ba (ah f) f.blocks.length) (k:Int)=p:=⟨_,rfl⟩
     rw[hpe] at hne hpm hp0 hpn
     have hpl:p.toNat<(bB f.blocks.length (sd (ba (ah f) f.blocks.length) k)).length:=by rw[bJ];omega
     have hrl:=gN hpl
     have hsucc:sd (ba (ah f) f.blocks.length) (k+1)=sd (ba (ah f) f.blocks.length) k++[(p,(k:Int))]:=by rw[tO,hpe,if_pos hne]
     rw[hpe]
     refine ym (γ:=Unit) [4,6,7,68,69] (fun u=>[]) (fun u=>[(i34,.cells 103 [.own i25 f.blocks.length,.own i28 f.blocks.length,dg b30 f.blocks.length,dg b32 f.blocks.length]),(i28,.grow 1 3 (cI (bN (ah f) f.blocks.length))),(0,cu eI 24 3 b30 ((bB f.blocks.length (sd (ba (ah f) f.blocks.length) k)).set p.toNat ((bB f.blocks.length (sd (ba (ah f) f.blocks.length) k))[p.toNat]++[(k:Int)]))),(0,cu eI 24 3 b32 (List.replicate f.blocks.length [])),(i25,.grow 1 3 (cI (ba (ah f) f.blocks.length)))]) (fun u=>True) ?_ (fun _ _ h=>h) ?_
     ·refine zw (fun j=>Nat.beq j 16) (by kernel_rfl) Z (zn (.r (.l (.l (.l (.r (.rest _)))))))<|ao 0 Z (j7 Z)<|ao 1 Z (yj Z)<|ao 2 Z (y0 Z1 Z sizeOf58 (by decide) Z Z)<|ao 3 Z (yd (c:=dg _ _) isAgg58 Z ⟨_,.head⟩ Z)<|ao 4 Z (fC Z)<|ao 5 Z (j7 Z)<|ao 6 Z (yj Z)<|ao 7 Z (y0 Z1 Z sizeOf58 (by decide) Z Z)<|ao 8 Z (yd (c:=dg _ _) isAgg58 Z ⟨_,.head⟩ Z)<|ao 9 Z (fC Z)<|ao 10 Z (qf (j:=p.toNat) jj jr Z Z (by omega) (by omega))<|ao 12 Z (fC Z)<|yg (i:=11) (j:=13) Z Z (by kernel_rfl) ?_ ?_
      ·refine q3 (j:=p.toNat) (r:=(bB f.blocks.length (sd (ba (ah f) f.blocks.length) k))[p.toNat]) jv Z (qj hpl) (fun _=>.t1)<|fun i92=>z6<|aL 13 Z<|zr (rows:=[[_]]) bT Z Z Z Z Z<|z6<|aL 14 Z<|yp (k:=1) jh type3 Z Z Z Z Z (fun _=>.head) (by rw[eI.av_len];rfl) (by decide) Z (by show (_+1)*8≤_;omega) (by show _+1≤_;omega)<|fun i95=>z6<|ao 15 Z (qf (j:=p.toNat) jj jr Z Z (by omega) (by omega))<|yu<|yz (i:=16) Z (by kernel_rfl) (by kernel_rfl)<|qg (j:=p.toNat) (r:=(bB f.blocks.length (sd (ba (ah f) f.blocks.length) k))[p.toNat]++[(k:Int)]) jr Z Z (by omega) .t2 .t3 Z (eI.av_push _ _) (by simp)<|zc (zb (zd .t1))<|zc (zb (zd .t4))<|zc (zb (zd .t4))<|zc (zb (zd .t4))<|zc (zb (zd .t4))<|z6<|yx (by kernel_rfl) ?_
       exact ⟨(),oV,trivial,aJ,trivial⟩
      ·refine zr (rows:=[[_]]) bT Z Z Z Z Z<|z6<|aL 11 Z<|q3 (j:=p.toNat) (r:=(bB f.blocks.length (sd (ba (ah f) f.blocks.length) k))[p.toNat]) jv Z (qj hpl) (fun _=>.t1)<|fun i92=>z6<|aL 14 Z<|yp (k:=1) jh type3 Z Z Z Z Z (fun _=>.head) (by rw[eI.av_len];rfl) (by decide) Z (by show (_+1)*8≤_;omega) (by show _+1≤_;omega)<|fun i95=>z6<|ao 15 Z (qf (j:=p.toNat) jj jr Z Z (by omega) (by omega))<|yu<|yz (i:=16) Z (by kernel_rfl) (by kernel_rfl)<|qg (j:=p.toNat) (r:=(bB f.blocks.length (sd (ba (ah f) f.blocks.length) k))[p.toNat]++[(k:Int)]) jr Z Z (by omega) .t2 .t3 Z (eI.av_push _ _) (by simp)<|zc (zb (zd .t1))<|zc (zb (zd .t4))<|zc (zb (zd .t4))<|zc (zb (zd .t4))<|zc (zb (zd .t4))<|z6<|yx (by kernel_rfl) ?_
       exact ⟨(),oV,trivial,aJ,trivial⟩
     ·rintro _ _
      refine bD<|aQ Z Z<|aa Z<|z6 ?_
      exact ⟨k+1,mB,aT,⟨_,(.refl _),by rw[hsucc,iT hp0 hpl]⟩,hk2,by omega⟩
    ·have hne:gi (ba (ah f) f.blocks.length) (k:Int)=-1:=by simpa using cn
     have hsucc:sd (ba (ah f) f.blocks.length) (k+1)=sd (ba (ah f) f.blocks.length) k:=by rw[tO,if_neg (by rw[hne];simp)];simp
     refine zi<|bD<|aQ Z Z<|aa Z<|z6 ?_
     exact ⟨k+1,mB,aT,⟨_,(.refl _),by rw[hsucc]⟩,hk2,by omega⟩
   ·have hkn:k=f.blocks.length:=by simp at ck;omega
    subst hkn
    refine yh (zb (zd .t4))<|yh (zb (zd .t2))<|yh (zb (zd .t2))<|yh (zb (zd .t4))<|y8<|ae<|z7 (j7 Z)<|bh Z<|bh Z<|zq Z (zn (.l (.l (.l (.l (.r (.rest _))))))) (hfr _ _ _ _ 0 _) ?_
    rintro r101 O101 ⟨rfl,fr,hfr2,rfl⟩
    refine z6<|ae<|z7 (j7 Z)<|z7 (f9 Z)<|aq Z<|z6<|yh (aN.knowIC (off:=0) .t3 .t1 Z (eu _ _))<|yh (aN.knowIC (off:=1) .t2 .t1 Z hG.lev.len)<|yh (aN.nestKnowC (off:=2) .t2 .t1 Z (bJ _ _))<|yh (aN.nestKnowC (off:=3) .head .head Z hfr2.1)<|yh (yk (t:=2) Z .head)<|zh<|dB.t2 (x:=.pf _) (y:=.int _ _) Z Z ?_
    exact ⟨⟨fr,hfr2,rfl⟩,rfl⟩
def Hy (f:ac):AV:=oN f (mF eI (xe f)) .any
theorem tP (f:ac) (hf:small f) (hL:aE E) (ht:bf f=true):aF prog E 16 [.agg (b9 f)] (.tup [Hy f,.int .i64 0]):=
 (En f hf hL ht).weak fun x O h=>by
  obtain ⟨⟨fr,hfr,rfl⟩,rfl⟩:=h
  refine ⟨Z,fun I v hv=>?_⟩
  obtain ⟨vs,e,w0,us,e2,h0,hr⟩:=hv
  obtain ⟨b,off,ws,e3,hl,hk⟩:=h0
  obtain ⟨u0,t0,f0,a0,u1,t1,f1,a1,u2,t2,f2,a2,u3,t3,f3,a3,hz⟩:=hl
  exact ⟨vs,e,w0,us,e2,⟨b,off,ws,e3,⟨u0,t0,f0,a0,u1,t1,f1,a1,u2,t2,f2,a2,u3,t3,f3,trivial,hz⟩,hk⟩,hr⟩
end Go.Proofs.YthphijnnbfjikaaGreatDoor
