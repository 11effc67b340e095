/- The tree of what is above what, made. Of programs that are little. -/
import Derived.Test.YtbbonnfjealmpaaGreatDoorZk
set_option linter.unusedVariables false
set_option linter.unusedSimpArgs false
set_option linter.unusedSectionVars false
namespace Go.Proofs.YtbbonnfjealmpaaGreatDoor
open Go.Proofs.Tryz
open Go.Proofs Go.Lib Go.Shelf Go.RowKit
theorem cU:em prog 193 #[(0,1),(1,1),(2,1),(3,1)] [.n,.n,.n,.n]:=⟨_,_,Zi,zeroValue193,fun w=>by kernel_rfl,rfl⟩
variable {E:World}
set_option maxRecDepth 20000
def iy (S:Int→List Int) (n q:Nat):List Int:=(((aH S n).drop 1).take q).foldl (xc (cR S n)) (fO n)
theorem AQ {S:Int→List Int} {n q:Nat} (h:q<((aH S n).drop 1).length):iy S n (q+1)=xc (cR S n) (iy S n q) ((aH S n).drop 1)[q]:=by
 unfold iy;rw[qy h,List.foldl_append];rfl
theorem Dt (S:Int→List Int) (n:Nat):iy S n ((aH S n).drop 1).length=b9 S n:=by unfold iy b9;rw[w4,List.drop_one]
theorem uF (S:Int→List Int) (n q:Nat):(iy S n q).length=n:=by unfold iy;rw[oN (fun l x=>xd _ l x),m5]
theorem H8 {S:Int→List Int} {n:Nat} (hE:EOk S n) {b:Int} (hb:b∈(aH S n).drop 1):b≠0:=by
 have h1:=m3 hE
 have h2:=jN hE
 cases h:aH S n with
 |nil=>rw[h] at h1;simp at h1
 |cons z zs=>
  rw[h] at h1 h2 hb
  simp at h1
  subst h1
  intro e
  subst e
  exact (List.nodup_cons.1 h2).1 (by simpa using hb)
theorem Du {S:Int→List Int} {n:Nat} (hE:EOk S n):0<(aH S n).length:=by
 have h1:=m3 hE
 cases h:aH S n with
 |nil=>rw[h] at h1;simp at h1
 |cons z zs=>simp
def v7 (N:List Int) (k:Nat):List (Int × Int):=((aY k).filter fun b=>decide (gi N b≠-1)).map fun b=>(gi N b,b)
theorem xM (N:List Int) (k:Nat):v7 N (k+1)=v7 N k++if gi N (k:Int)≠-1 then[(gi N (k:Int),(k:Int))] else[]:=by
 unfold v7;rw[pn,List.filter_append,wb]
 by_cases h:gi N (k:Int)=-1<;>simp[h]
theorem H9 (N:List Int) (k:Nat):(v7 N k).length≤k:=by
 unfold v7;rw[w6];exact Nat.le_trans (List.length_filter_le _ _) (by rw[bR];exact Nat.le_refl _)
def Ce (f:ab):List (List Int):=cM f.blocks.length (v7 (bv (ah f) f.blocks.length) f.blocks.length)
theorem Fq {S:Int→List Int} {n:Nat} (hG:fP S n) {b:Int} (h0:0≤b) (hb:gi (bv S n) b≠-1):b∈aH S n∧gi (bv S n) b∈aH S n:=by
 by_cases e:b=0
 ·rw[e,vz hG.npos] at hb;exact absurd rfl hb
 ·rw[gJ h0 e] at hb ⊢
  have:=hG.exact.inv.mem b hb
  exact ⟨this,(hG.near_mem this e).1⟩
set_option maxHeartbeats 4000000 in
theorem Ia (f:ab) (hf:small f) (hL:bx E) (ht:bf f=true):bn prog E 74 [.agg (bw f)] []
  fun r O=>(∃fr,v6 f.blocks.length fr∧r=.tup [rX f (pM eI (Ce f)) (pM eI fr),.int .i64 0])∧O=[]:=by
 have hE:=dM ht
 have hn:=hf.2.2.1
 have hG:=hE.grph
 have hpos:=hG.npos
 have hol:=fZ hG
 have hop:=Du hG.toEOk
 have hnear:=vA (E:=E) f hE hn
 have hfr:=fun t a b fb T x=>xL (E:=E) f hE hn t a b fb T x _ (v6.begin f.blocks.length)
 have hprd:=xC f hf hL ht
 have hord:=xD f hf hL ht
 have hrng:∀z∈aH (ah f) f.blocks.length,0≤z∧z<f.blocks.length:=fun z hz=>cQ hG.toEOk hz
 refine zp func74 U (by decide) U<|ae<|y6 (cs:=_) U U U<|cE U<|am U<|z2<|ae<|ac Z0 ji U U<|ze (hord) U<|z8 (oA U)<|z2<|zb<|ae<|bd U<|aj j7 U<|ao U U<|z2<|yq U (by simp;exact List.ne_nil_of_length_pos hop)<|zf<|zb<|zr (fun j=>false) (by kernel_rfl) U (zo (.rest _))<|ai 0 U (db je U Zd U U)<|ai 1 U (gd Zf U)<|ai 2 U (Gv.lenM ju U)<|ai 3 U (yp Z0 ji U U)<|aN 4 U<|ze (hprd) U<|z2<|ai 5 U (BI U)<|ai 6 U (oA U)<|bI<|zb<|yb (γ:=Nat × Nat × Nat × Nat × Nat) [4,5,6] (fun g=>[(7,.po g.1 0)]) (fun g=>[(g.1,.cells 193 [.own g.2.2.2.2 f.blocks.length,.own g.2.1 f.blocks.length,eM g.2.2.1 f.blocks.length,eM g.2.2.2.1 f.blocks.length]),(g.2.1,.grow 1 3 (cI (List.replicate f.blocks.length (-1)))),(0,dK eI 23 3 g.2.2.1 (List.replicate f.blocks.length [])),(0,dK eI 23 3 g.2.2.2.1 (List.replicate f.blocks.length [])),(g.2.2.2.2,.grow 1 3 (cI (bv (ah f) f.blocks.length)))]) (fun g=>True) ?_ (fun _ _ h=>h) ?_
 ·refine zr (fun j=>false) (by kernel_rfl) U (zo (.rest _))<|ai 0 U (vZ U)<|ai 1 U (vZ U)<|ai 2 U (dx U)<|ai 5 U (dx U)<|ai 7 U (dx U)<|ai 9 U (dx U)<|bT.four (i:=3) (j:=4) (m:=8) (q:=10) U U U U (by kernel_rfl) ?_ ?_ ?_ ?_
  ·refine y3 U (zo (.rest _)) (hnear) ?_
   rintro r25 O25 ⟨i25,rfl,rfl⟩
   refine z2<|qk (i:=4) (j:=8) (m:=10) U U U (by kernel_rfl) ?_ ?_ ?_
   ·refine zx (rows:=[[_]]) cA U U U U U<|z2<|qk (i:=6) (j:=8) (m:=10) U U U (by kernel_rfl) ?_ ?_ ?_
    ·refine y3 U (zo (.r (.rest _))) (aS (-1) f.blocks.length (by omega) hpos) ?_
     rintro r28 O28 ⟨i28,rfl,rfl⟩
     refine z2<|yj (i:=8) (j:=10) U U (by kernel_rfl) ?_ ?_
     ·refine y9 (m:=f.blocks.length) jy Zo U U U U U (by simp) (by simp) (by show (24:Int)*_≤_;omega) (by omega) eI 3<|fun b30=>z2<|aN 10 U<|y9 (m:=f.blocks.length) jy Zo U U U U U (by simp) (by simp) (by show (24:Int)*_≤_;omega) (by omega) eI 3<|fun b32=>z2<|ai 11 U (zz (cps:=[(0,[_]),(1,[_]),(2,[_]),(3,[_])]) (rs:=[_,_,_,_]) cU U U U)<|aN 12 U<|yl (cs:=_) U U U U<|fun i34=>zd (za (zc .t4))<|zd (za (zc .t2))<|zd (za (zc .t3))<|zd (za (zc .t4))<|zd (za (zc .t4))<|z2<|ai 13 U (gu U)<|bI ?_
      exact ⟨(i34,i28,b30,b32,i25),bW,aL,aE,trivial⟩
     ·refine y9 (m:=f.blocks.length) jy Zo U U U U U (by simp) (by simp) (by show (24:Int)*_≤_;omega) (by omega) eI 3<|fun b32=>z2<|aN 8 U<|y9 (m:=f.blocks.length) jy Zo U U U U U (by simp) (by simp) (by show (24:Int)*_≤_;omega) (by omega) eI 3<|fun b30=>z2<|ai 11 U (zz (cps:=[(0,[_]),(1,[_]),(2,[_]),(3,[_])]) (rs:=[_,_,_,_]) cU U U U)<|aN 12 U<|yl (cs:=_) U U U U<|fun i34=>zd (za (zc .t4))<|zd (za (zc .t3))<|zd (za (zc .t3))<|zd (za (zc .t4))<|zd (za (zc .t4))<|z2<|ai 13 U (gu U)<|bI ?_
      exact ⟨(i34,i28,b30,b32,i25),bW,aL,aE,trivial⟩
    ·refine y9 (m:=f.blocks.length) jy Zo U U U U U (by simp) (by simp) (by show (24:Int)*_≤_;omega) (by omega) eI 3<|fun b30=>z2<|yj (i:=6) (j:=10) U U (by kernel_rfl) ?_ ?_
     ·refine y3 U (zo (.r (.r (.rest _)))) (aS (-1) f.blocks.length (by omega) hpos) ?_
      rintro r28 O28 ⟨i28,rfl,rfl⟩
      refine z2<|aN 10 U<|y9 (m:=f.blocks.length) jy Zo U U U U U (by simp) (by simp) (by show (24:Int)*_≤_;omega) (by omega) eI 3<|fun b32=>z2<|ai 11 U (zz (cps:=[(0,[_]),(1,[_]),(2,[_]),(3,[_])]) (rs:=[_,_,_,_]) cU U U U)<|aN 12 U<|yl (cs:=_) U U U U<|fun i34=>zd (za (zc .t4))<|zd (za (zc .t2))<|zd (za (zc .t4))<|zd (za (zc .t4))<|zd (za (zc .t4))<|z2<|ai 13 U (gu U)<|bI ?_
      exact ⟨(i34,i28,b30,b32,i25),bW,aL,aE,trivial⟩
     ·refine y9 (m:=f.blocks.length) jy Zo U U U U U (by simp) (by simp) (by show (24:Int)*_≤_;omega) (by omega) eI 3<|fun b32=>z2<|aN 6 U<|y3 U (zo (.r (.r (.r (.rest _))))) (aS (-1) f.blocks.length (by omega) hpos) ?_
      rintro r28 O28 ⟨i28,rfl,rfl⟩
      refine z2<|ai 11 U (zz (cps:=[(0,[_]),(1,[_]),(2,[_]),(3,[_])]) (rs:=[_,_,_,_]) cU U U U)<|aN 12 U<|yl (cs:=_) U U U U<|fun i34=>zd (za (zc .t4))<|zd (za (zc .t3))<|zd (za (zc .t4))<|zd (za (zc .t4))<|zd (za (zc .t4))<|z2<|ai 13 U (gu U)<|bI ?_
      exact ⟨(i34,i28,b30,b32,i25),bW,aL,aE,trivial⟩
    ·refine y9 (m:=f.blocks.length) jy Zo U U U U U (by simp) (by simp) (by show (24:Int)*_≤_;omega) (by omega) eI 3<|fun b32=>z2<|yj (i:=6) (j:=8) U U (by kernel_rfl) ?_ ?_
     ·refine y3 U (zo (.r (.r (.rest _)))) (aS (-1) f.blocks.length (by omega) hpos) ?_
      rintro r28 O28 ⟨i28,rfl,rfl⟩
      refine z2<|aN 8 U<|y9 (m:=f.blocks.length) jy Zo U U U U U (by simp) (by simp) (by show (24:Int)*_≤_;omega) (by omega) eI 3<|fun b30=>z2<|ai 11 U (zz (cps:=[(0,[_]),(1,[_]),(2,[_]),(3,[_])]) (rs:=[_,_,_,_]) cU U U U)<|aN 12 U<|yl (cs:=_) U U U U<|fun i34=>zd (za (zc .t4))<|zd (za (zc .t4))<|zd (za (zc .t3))<|zd (za (zc .t4))<|zd (za (zc .t4))<|z2<|ai 13 U (gu U)<|bI ?_
      exact ⟨(i34,i28,b30,b32,i25),bW,aL,aE,trivial⟩
     ·refine y9 (m:=f.blocks.length) jy Zo U U U U U (by simp) (by simp) (by show (24:Int)*_≤_;omega) (by omega) eI 3<|fun b30=>z2<|aN 6 U<|y3 U (zo (.r (.r (.r (.rest _))))) (aS (-1) f.blocks.length (by omega) hpos) ?_
      rintro r28 O28 ⟨i28,rfl,rfl⟩
      refine z2<|ai 11 U (zz (cps:=[(0,[_]),(1,[_]),(2,[_]),(3,[_])]) (rs:=[_,_,_,_]) cU U U U)<|aN 12 U<|yl (cs:=_) U U U U<|fun i34=>z2<|ai 13 U (gu U)<|bI ?_
      exact ⟨(i34,i28,b30,b32,i25),bW,aL,aE,trivial⟩
   ·refine y9 (m:=f.blocks.length) jy Zo U U U U U (by simp) (by simp) (by show (24:Int)*_≤_;omega) (by omega) eI 3<|fun b30=>z2<|yj (i:=4) (j:=10) U U (by kernel_rfl) ?_ ?_
    ·refine zx (rows:=[[_]]) cA U U U U U<|z2<|yj (i:=6) (j:=10) U U (by kernel_rfl) ?_ ?_
     ·refine y3 U (zo (.r (.r (.rest _)))) (aS (-1) f.blocks.length (by omega) hpos) ?_
      rintro r28 O28 ⟨i28,rfl,rfl⟩
      refine z2<|aN 10 U<|y9 (m:=f.blocks.length) jy Zo U U U U U (by simp) (by simp) (by show (24:Int)*_≤_;omega) (by omega) eI 3<|fun b32=>z2<|ai 11 U (zz (cps:=[(0,[_]),(1,[_]),(2,[_]),(3,[_])]) (rs:=[_,_,_,_]) cU U U U)<|aN 12 U<|yl (cs:=_) U U U U<|fun i34=>zd (za (zc .t4))<|zd (za (zc .t2))<|zd (za (zc .t4))<|zd (za (zc .t4))<|zd (za (zc .t4))<|z2<|ai 13 U (gu U)<|bI ?_
      exact ⟨(i34,i28,b30,b32,i25),bW,aL,aE,trivial⟩
     ·refine y9 (m:=f.blocks.length) jy Zo U U U U U (by simp) (by simp) (by show (24:Int)*_≤_;omega) (by omega) eI 3<|fun b32=>z2<|aN 6 U<|y3 U (zo (.r (.r (.r (.rest _))))) (aS (-1) f.blocks.length (by omega) hpos) ?_
      rintro r28 O28 ⟨i28,rfl,rfl⟩
      refine z2<|ai 11 U (zz (cps:=[(0,[_]),(1,[_]),(2,[_]),(3,[_])]) (rs:=[_,_,_,_]) cU U U U)<|aN 12 U<|yl (cs:=_) U U U U<|fun i34=>zd (za (zc .t4))<|zd (za (zc .t3))<|zd (za (zc .t4))<|zd (za (zc .t4))<|zd (za (zc .t4))<|z2<|ai 13 U (gu U)<|bI ?_
      exact ⟨(i34,i28,b30,b32,i25),bW,aL,aE,trivial⟩
    ·refine y9 (m:=f.blocks.length) jy Zo U U U U U (by simp) (by simp) (by show (24:Int)*_≤_;omega) (by omega) eI 3<|fun b32=>z2<|aN 4 U<|zx (rows:=[[_]]) cA U U U U U<|z2<|aN 6 U<|y3 U (zo (.r (.r (.r (.rest _))))) (aS (-1) f.blocks.length (by omega) hpos) ?_
     rintro r28 O28 ⟨i28,rfl,rfl⟩
     refine z2<|ai 11 U (zz (cps:=[(0,[_]),(1,[_]),(2,[_]),(3,[_])]) (rs:=[_,_,_,_]) cU U U U)<|aN 12 U<|yl (cs:=_) U U U U<|fun i34=>zd (za (zc .t4))<|zd (za (zc .t3))<|zd (za (zc .t4))<|zd (za (zc .t4))<|zd (za (zc .t4))<|z2<|ai 13 U (gu U)<|bI ?_
     exact ⟨(i34,i28,b30,b32,i25),bW,aL,aE,trivial⟩
   ·refine y9 (m:=f.blocks.length) jy Zo U U U U U (by simp) (by simp) (by show (24:Int)*_≤_;omega) (by omega) eI 3<|fun b32=>z2<|yj (i:=4) (j:=8) U U (by kernel_rfl) ?_ ?_
    ·refine zx (rows:=[[_]]) cA U U U U U<|z2<|yj (i:=6) (j:=8) U U (by kernel_rfl) ?_ ?_
     ·refine y3 U (zo (.r (.r (.rest _)))) (aS (-1) f.blocks.length (by omega) hpos) ?_
      rintro r28 O28 ⟨i28,rfl,rfl⟩
      refine z2<|aN 8 U<|y9 (m:=f.blocks.length) jy Zo U U U U U (by simp) (by simp) (by show (24:Int)*_≤_;omega) (by omega) eI 3<|fun b30=>z2<|ai 11 U (zz (cps:=[(0,[_]),(1,[_]),(2,[_]),(3,[_])]) (rs:=[_,_,_,_]) cU U U U)<|aN 12 U<|yl (cs:=_) U U U U<|fun i34=>zd (za (zc .t4))<|zd (za (zc .t4))<|zd (za (zc .t3))<|zd (za (zc .t4))<|zd (za (zc .t4))<|z2<|ai 13 U (gu U)<|bI ?_
      exact ⟨(i34,i28,b30,b32,i25),bW,aL,aE,trivial⟩
     ·refine y9 (m:=f.blocks.length) jy Zo U U U U U (by simp) (by simp) (by show (24:Int)*_≤_;omega) (by omega) eI 3<|fun b30=>z2<|aN 6 U<|y3 U (zo (.r (.r (.r (.rest _))))) (aS (-1) f.blocks.length (by omega) hpos) ?_
      rintro r28 O28 ⟨i28,rfl,rfl⟩
      refine z2<|ai 11 U (zz (cps:=[(0,[_]),(1,[_]),(2,[_]),(3,[_])]) (rs:=[_,_,_,_]) cU U U U)<|aN 12 U<|yl (cs:=_) U U U U<|fun i34=>z2<|ai 13 U (gu U)<|bI ?_
      exact ⟨(i34,i28,b30,b32,i25),bW,aL,aE,trivial⟩
    ·refine y9 (m:=f.blocks.length) jy Zo U U U U U (by simp) (by simp) (by show (24:Int)*_≤_;omega) (by omega) eI 3<|fun b30=>z2<|aN 4 U<|zx (rows:=[[_]]) cA U U U U U<|z2<|aN 6 U<|y3 U (zo (.r (.r (.r (.rest _))))) (aS (-1) f.blocks.length (by omega) hpos) ?_
     rintro r28 O28 ⟨i28,rfl,rfl⟩
     refine z2<|ai 11 U (zz (cps:=[(0,[_]),(1,[_]),(2,[_]),(3,[_])]) (rs:=[_,_,_,_]) cU U U U)<|aN 12 U<|yl (cs:=_) U U U U<|fun i34=>z2<|ai 13 U (gu U)<|bI ?_
     exact ⟨(i34,i28,b30,b32,i25),bW,aL,aE,trivial⟩
  ·refine zx (rows:=[[_]]) cA U U U U U<|z2<|qk (i:=3) (j:=8) (m:=10) U U U (by kernel_rfl) ?_ ?_ ?_
   ·refine y3 U (zo (.rest _)) (hnear) ?_
    rintro r25 O25 ⟨i25,rfl,rfl⟩
    refine z2<|qk (i:=6) (j:=8) (m:=10) U U U (by kernel_rfl) ?_ ?_ ?_
    ·refine y3 U (zo (.r (.rest _))) (aS (-1) f.blocks.length (by omega) hpos) ?_
     rintro r28 O28 ⟨i28,rfl,rfl⟩
     refine z2<|yj (i:=8) (j:=10) U U (by kernel_rfl) ?_ ?_
     ·refine y9 (m:=f.blocks.length) jy Zo U U U U U (by simp) (by simp) (by show (24:Int)*_≤_;omega) (by omega) eI 3<|fun b30=>z2<|aN 10 U<|y9 (m:=f.blocks.length) jy Zo U U U U U (by simp) (by simp) (by show (24:Int)*_≤_;omega) (by omega) eI 3<|fun b32=>z2<|ai 11 U (zz (cps:=[(0,[_]),(1,[_]),(2,[_]),(3,[_])]) (rs:=[_,_,_,_]) cU U U U)<|aN 12 U<|yl (cs:=_) U U U U<|fun i34=>zd (za (zc .t4))<|zd (za (zc .t2))<|zd (za (zc .t3))<|zd (za (zc .t4))<|zd (za (zc .t4))<|z2<|ai 13 U (gu U)<|bI ?_
      exact ⟨(i34,i28,b30,b32,i25),bW,aL,aE,trivial⟩
     ·refine y9 (m:=f.blocks.length) jy Zo U U U U U (by simp) (by simp) (by show (24:Int)*_≤_;omega) (by omega) eI 3<|fun b32=>z2<|aN 8 U<|y9 (m:=f.blocks.length) jy Zo U U U U U (by simp) (by simp) (by show (24:Int)*_≤_;omega) (by omega) eI 3<|fun b30=>z2<|ai 11 U (zz (cps:=[(0,[_]),(1,[_]),(2,[_]),(3,[_])]) (rs:=[_,_,_,_]) cU U U U)<|aN 12 U<|yl (cs:=_) U U U U<|fun i34=>zd (za (zc .t4))<|zd (za (zc .t3))<|zd (za (zc .t3))<|zd (za (zc .t4))<|zd (za (zc .t4))<|z2<|ai 13 U (gu U)<|bI ?_
      exact ⟨(i34,i28,b30,b32,i25),bW,aL,aE,trivial⟩
    ·refine y9 (m:=f.blocks.length) jy Zo U U U U U (by simp) (by simp) (by show (24:Int)*_≤_;omega) (by omega) eI 3<|fun b30=>z2<|yj (i:=6) (j:=10) U U (by kernel_rfl) ?_ ?_
     ·refine y3 U (zo (.r (.r (.rest _)))) (aS (-1) f.blocks.length (by omega) hpos) ?_
      rintro r28 O28 ⟨i28,rfl,rfl⟩
      refine z2<|aN 10 U<|y9 (m:=f.blocks.length) jy Zo U U U U U (by simp) (by simp) (by show (24:Int)*_≤_;omega) (by omega) eI 3<|fun b32=>z2<|ai 11 U (zz (cps:=[(0,[_]),(1,[_]),(2,[_]),(3,[_])]) (rs:=[_,_,_,_]) cU U U U)<|aN 12 U<|yl (cs:=_) U U U U<|fun i34=>zd (za (zc .t4))<|zd (za (zc .t2))<|zd (za (zc .t4))<|zd (za (zc .t4))<|zd (za (zc .t4))<|z2<|ai 13 U (gu U)<|bI ?_
      exact ⟨(i34,i28,b30,b32,i25),bW,aL,aE,trivial⟩
     ·refine y9 (m:=f.blocks.length) jy Zo U U U U U (by simp) (by simp) (by show (24:Int)*_≤_;omega) (by omega) eI 3<|fun b32=>z2<|aN 6 U<|y3 U (zo (.r (.r (.r (.rest _))))) (aS (-1) f.blocks.length (by omega) hpos) ?_
      rintro r28 O28 ⟨i28,rfl,rfl⟩
      refine z2<|ai 11 U (zz (cps:=[(0,[_]),(1,[_]),(2,[_]),(3,[_])]) (rs:=[_,_,_,_]) cU U U U)<|aN 12 U<|yl (cs:=_) U U U U<|fun i34=>zd (za (zc .t4))<|zd (za (zc .t3))<|zd (za (zc .t4))<|zd (za (zc .t4))<|zd (za (zc .t4))<|z2<|ai 13 U (gu U)<|bI ?_
      exact ⟨(i34,i28,b30,b32,i25),bW,aL,aE,trivial⟩
    ·refine y9 (m:=f.blocks.length) jy Zo U U U U U (by simp) (by simp) (by show (24:Int)*_≤_;omega) (by omega) eI 3<|fun b32=>z2<|yj (i:=6) (j:=8) U U (by kernel_rfl) ?_ ?_
     ·refine y3 U (zo (.r (.r (.rest _)))) (aS (-1) f.blocks.length (by omega) hpos) ?_
      rintro r28 O28 ⟨i28,rfl,rfl⟩
      refine z2<|aN 8 U<|y9 (m:=f.blocks.length) jy Zo U U U U U (by simp) (by simp) (by show (24:Int)*_≤_;omega) (by omega) eI 3<|fun b30=>z2<|ai 11 U (zz (cps:=[(0,[_]),(1,[_]),(2,[_]),(3,[_])]) (rs:=[_,_,_,_]) cU U U U)<|aN 12 U<|yl (cs:=_) U U U U<|fun i34=>zd (za (zc .t4))<|zd (za (zc .t4))<|zd (za (zc .t3))<|zd (za (zc .t4))<|zd (za (zc .t4))<|z2<|ai 13 U (gu U)<|bI ?_
      exact ⟨(i34,i28,b30,b32,i25),bW,aL,aE,trivial⟩
     ·refine y9 (m:=f.blocks.length) jy Zo U U U U U (by simp) (by simp) (by show (24:Int)*_≤_;omega) (by omega) eI 3<|fun b30=>z2<|aN 6 U<|y3 U (zo (.r (.r (.r (.rest _))))) (aS (-1) f.blocks.length (by omega) hpos) ?_
      rintro r28 O28 ⟨i28,rfl,rfl⟩
      refine z2<|ai 11 U (zz (cps:=[(0,[_]),(1,[_]),(2,[_]),(3,[_])]) (rs:=[_,_,_,_]) cU U U U)<|aN 12 U<|yl (cs:=_) U U U U<|fun i34=>z2<|ai 13 U (gu U)<|bI ?_
      exact ⟨(i34,i28,b30,b32,i25),bW,aL,aE,trivial⟩
   ·refine y9 (m:=f.blocks.length) jy Zo U U U U U (by simp) (by simp) (by show (24:Int)*_≤_;omega) (by omega) eI 3<|fun b30=>z2<|yj (i:=3) (j:=10) U U (by kernel_rfl) ?_ ?_
    ·refine y3 U (zo (.r (.rest _))) (hnear) ?_
     rintro r25 O25 ⟨i25,rfl,rfl⟩
     refine z2<|yj (i:=6) (j:=10) U U (by kernel_rfl) ?_ ?_
     ·refine y3 U (zo (.r (.r (.rest _)))) (aS (-1) f.blocks.length (by omega) hpos) ?_
      rintro r28 O28 ⟨i28,rfl,rfl⟩
      refine z2<|aN 10 U<|y9 (m:=f.blocks.length) jy Zo U U U U U (by simp) (by simp) (by show (24:Int)*_≤_;omega) (by omega) eI 3<|fun b32=>z2<|ai 11 U (zz (cps:=[(0,[_]),(1,[_]),(2,[_]),(3,[_])]) (rs:=[_,_,_,_]) cU U U U)<|aN 12 U<|yl (cs:=_) U U U U<|fun i34=>zd (za (zc .t3))<|zd (za (zc .t2))<|zd (za (zc .t4))<|zd (za (zc .t4))<|zd (za (zc .t4))<|z2<|ai 13 U (gu U)<|bI ?_
      exact ⟨(i34,i28,b30,b32,i25),bW,aL,aE,trivial⟩
     ·refine y9 (m:=f.blocks.length) jy Zo U U U U U (by simp) (by simp) (by show (24:Int)*_≤_;omega) (by omega) eI 3<|fun b32=>z2<|aN 6 U<|y3 U (zo (.r (.r (.r (.rest _))))) (aS (-1) f.blocks.length (by omega) hpos) ?_
      rintro r28 O28 ⟨i28,rfl,rfl⟩
      refine z2<|ai 11 U (zz (cps:=[(0,[_]),(1,[_]),(2,[_]),(3,[_])]) (rs:=[_,_,_,_]) cU U U U)<|aN 12 U<|yl (cs:=_) U U U U<|fun i34=>zd (za (zc .t3))<|zd (za (zc .t3))<|zd (za (zc .t4))<|zd (za (zc .t4))<|zd (za (zc .t4))<|z2<|ai 13 U (gu U)<|bI ?_
      exact ⟨(i34,i28,b30,b32,i25),bW,aL,aE,trivial⟩
    ·refine y9 (m:=f.blocks.length) jy Zo U U U U U (by simp) (by simp) (by show (24:Int)*_≤_;omega) (by omega) eI 3<|fun b32=>z2<|aN 3 U<|y3 U (zo (.r (.r (.rest _)))) (hnear) ?_
     rintro r25 O25 ⟨i25,rfl,rfl⟩
     refine z2<|aN 6 U<|y3 U (zo (.r (.r (.r (.rest _))))) (aS (-1) f.blocks.length (by omega) hpos) ?_
     rintro r28 O28 ⟨i28,rfl,rfl⟩
     refine z2<|ai 11 U (zz (cps:=[(0,[_]),(1,[_]),(2,[_]),(3,[_])]) (rs:=[_,_,_,_]) cU U U U)<|aN 12 U<|yl (cs:=_) U U U U<|fun i34=>zd (za (zc .t2))<|zd (za (zc .t3))<|zd (za (zc .t4))<|zd (za (zc .t4))<|zd (za (zc .t4))<|z2<|ai 13 U (gu U)<|bI ?_
     exact ⟨(i34,i28,b30,b32,i25),bW,aL,aE,trivial⟩
   ·refine y9 (m:=f.blocks.length) jy Zo U U U U U (by simp) (by simp) (by show (24:Int)*_≤_;omega) (by omega) eI 3<|fun b32=>z2<|yj (i:=3) (j:=8) U U (by kernel_rfl) ?_ ?_
    ·refine y3 U (zo (.r (.rest _))) (hnear) ?_
     rintro r25 O25 ⟨i25,rfl,rfl⟩
     refine z2<|yj (i:=6) (j:=8) U U (by kernel_rfl) ?_ ?_
     ·refine y3 U (zo (.r (.r (.rest _)))) (aS (-1) f.blocks.length (by omega) hpos) ?_
      rintro r28 O28 ⟨i28,rfl,rfl⟩
      refine z2<|aN 8 U<|y9 (m:=f.blocks.length) jy Zo U U U U U (by simp) (by simp) (by show (24:Int)*_≤_;omega) (by omega) eI 3<|fun b30=>z2<|ai 11 U (zz (cps:=[(0,[_]),(1,[_]),(2,[_]),(3,[_])]) (rs:=[_,_,_,_]) cU U U U)<|aN 12 U<|yl (cs:=_) U U U U<|fun i34=>zd (za (zc .t3))<|zd (za (zc .t4))<|zd (za (zc .t3))<|zd (za (zc .t4))<|zd (za (zc .t4))<|z2<|ai 13 U (gu U)<|bI ?_
      exact ⟨(i34,i28,b30,b32,i25),bW,aL,aE,trivial⟩
     ·refine y9 (m:=f.blocks.length) jy Zo U U U U U (by simp) (by simp) (by show (24:Int)*_≤_;omega) (by omega) eI 3<|fun b30=>z2<|aN 6 U<|y3 U (zo (.r (.r (.r (.rest _))))) (aS (-1) f.blocks.length (by omega) hpos) ?_
      rintro r28 O28 ⟨i28,rfl,rfl⟩
      refine z2<|ai 11 U (zz (cps:=[(0,[_]),(1,[_]),(2,[_]),(3,[_])]) (rs:=[_,_,_,_]) cU U U U)<|aN 12 U<|yl (cs:=_) U U U U<|fun i34=>zd (za (zc .t3))<|zd (za (zc .t4))<|zd (za (zc .t4))<|zd (za (zc .t4))<|zd (za (zc .t4))<|z2<|ai 13 U (gu U)<|bI ?_
      exact ⟨(i34,i28,b30,b32,i25),bW,aL,aE,trivial⟩
    ·refine y9 (m:=f.blocks.length) jy Zo U U U U U (by simp) (by simp) (by show (24:Int)*_≤_;omega) (by omega) eI 3<|fun b30=>z2<|aN 3 U<|y3 U (zo (.r (.r (.rest _)))) (hnear) ?_
     rintro r25 O25 ⟨i25,rfl,rfl⟩
     refine z2<|aN 6 U<|y3 U (zo (.r (.r (.r (.rest _))))) (aS (-1) f.blocks.length (by omega) hpos) ?_
     rintro r28 O28 ⟨i28,rfl,rfl⟩
     refine z2<|ai 11 U (zz (cps:=[(0,[_]),(1,[_]),(2,[_]),(3,[_])]) (rs:=[_,_,_,_]) cU U U U)<|aN 12 U<|yl (cs:=_) U U U U<|fun i34=>zd (za (zc .t2))<|zd (za (zc .t4))<|zd (za (zc .t4))<|zd (za (zc .t4))<|zd (za (zc .t4))<|z2<|ai 13 U (gu U)<|bI ?_
     exact ⟨(i34,i28,b30,b32,i25),bW,aL,aE,trivial⟩
  ·refine y9 (m:=f.blocks.length) jy Zo U U U U U (by simp) (by simp) (by show (24:Int)*_≤_;omega) (by omega) eI 3<|fun b30=>z2<|qk (i:=3) (j:=4) (m:=10) U U U (by kernel_rfl) ?_ ?_ ?_
   ·refine y3 U (zo (.r (.rest _))) (hnear) ?_
    rintro r25 O25 ⟨i25,rfl,rfl⟩
    refine z2<|yj (i:=4) (j:=10) U U (by kernel_rfl) ?_ ?_
    ·refine zx (rows:=[[_]]) cA U U U U U<|z2<|yj (i:=6) (j:=10) U U (by kernel_rfl) ?_ ?_
     ·refine y3 U (zo (.r (.r (.rest _)))) (aS (-1) f.blocks.length (by omega) hpos) ?_
      rintro r28 O28 ⟨i28,rfl,rfl⟩
      refine z2<|aN 10 U<|y9 (m:=f.blocks.length) jy Zo U U U U U (by simp) (by simp) (by show (24:Int)*_≤_;omega) (by omega) eI 3<|fun b32=>z2<|ai 11 U (zz (cps:=[(0,[_]),(1,[_]),(2,[_]),(3,[_])]) (rs:=[_,_,_,_]) cU U U U)<|aN 12 U<|yl (cs:=_) U U U U<|fun i34=>zd (za (zc .t3))<|zd (za (zc .t2))<|zd (za (zc .t4))<|zd (za (zc .t4))<|zd (za (zc .t4))<|z2<|ai 13 U (gu U)<|bI ?_
      exact ⟨(i34,i28,b30,b32,i25),bW,aL,aE,trivial⟩
     ·refine y9 (m:=f.blocks.length) jy Zo U U U U U (by simp) (by simp) (by show (24:Int)*_≤_;omega) (by omega) eI 3<|fun b32=>z2<|aN 6 U<|y3 U (zo (.r (.r (.r (.rest _))))) (aS (-1) f.blocks.length (by omega) hpos) ?_
      rintro r28 O28 ⟨i28,rfl,rfl⟩
      refine z2<|ai 11 U (zz (cps:=[(0,[_]),(1,[_]),(2,[_]),(3,[_])]) (rs:=[_,_,_,_]) cU U U U)<|aN 12 U<|yl (cs:=_) U U U U<|fun i34=>zd (za (zc .t3))<|zd (za (zc .t3))<|zd (za (zc .t4))<|zd (za (zc .t4))<|zd (za (zc .t4))<|z2<|ai 13 U (gu U)<|bI ?_
      exact ⟨(i34,i28,b30,b32,i25),bW,aL,aE,trivial⟩
    ·refine y9 (m:=f.blocks.length) jy Zo U U U U U (by simp) (by simp) (by show (24:Int)*_≤_;omega) (by omega) eI 3<|fun b32=>z2<|aN 4 U<|zx (rows:=[[_]]) cA U U U U U<|z2<|aN 6 U<|y3 U (zo (.r (.r (.r (.rest _))))) (aS (-1) f.blocks.length (by omega) hpos) ?_
     rintro r28 O28 ⟨i28,rfl,rfl⟩
     refine z2<|ai 11 U (zz (cps:=[(0,[_]),(1,[_]),(2,[_]),(3,[_])]) (rs:=[_,_,_,_]) cU U U U)<|aN 12 U<|yl (cs:=_) U U U U<|fun i34=>zd (za (zc .t3))<|zd (za (zc .t3))<|zd (za (zc .t4))<|zd (za (zc .t4))<|zd (za (zc .t4))<|z2<|ai 13 U (gu U)<|bI ?_
     exact ⟨(i34,i28,b30,b32,i25),bW,aL,aE,trivial⟩
   ·refine zx (rows:=[[_]]) cA U U U U U<|z2<|yj (i:=3) (j:=10) U U (by kernel_rfl) ?_ ?_
    ·refine y3 U (zo (.r (.rest _))) (hnear) ?_
     rintro r25 O25 ⟨i25,rfl,rfl⟩
     refine z2<|yj (i:=6) (j:=10) U U (by kernel_rfl) ?_ ?_
     ·refine y3 U (zo (.r (.r (.rest _)))) (aS (-1) f.blocks.length (by omega) hpos) ?_
      rintro r28 O28 ⟨i28,rfl,rfl⟩
      refine z2<|aN 10 U<|y9 (m:=f.blocks.length) jy Zo U U U U U (by simp) (by simp) (by show (24:Int)*_≤_;omega) (by omega) eI 3<|fun b32=>z2<|ai 11 U (zz (cps:=[(0,[_]),(1,[_]),(2,[_]),(3,[_])]) (rs:=[_,_,_,_]) cU U U U)<|aN 12 U<|yl (cs:=_) U U U U<|fun i34=>zd (za (zc .t3))<|zd (za (zc .t2))<|zd (za (zc .t4))<|zd (za (zc .t4))<|zd (za (zc .t4))<|z2<|ai 13 U (gu U)<|bI ?_
      exact ⟨(i34,i28,b30,b32,i25),bW,aL,aE,trivial⟩
     ·refine y9 (m:=f.blocks.length) jy Zo U U U U U (by simp) (by simp) (by show (24:Int)*_≤_;omega) (by omega) eI 3<|fun b32=>z2<|aN 6 U<|y3 U (zo (.r (.r (.r (.rest _))))) (aS (-1) f.blocks.length (by omega) hpos) ?_
      rintro r28 O28 ⟨i28,rfl,rfl⟩
      refine z2<|ai 11 U (zz (cps:=[(0,[_]),(1,[_]),(2,[_]),(3,[_])]) (rs:=[_,_,_,_]) cU U U U)<|aN 12 U<|yl (cs:=_) U U U U<|fun i34=>zd (za (zc .t3))<|zd (za (zc .t3))<|zd (za (zc .t4))<|zd (za (zc .t4))<|zd (za (zc .t4))<|z2<|ai 13 U (gu U)<|bI ?_
      exact ⟨(i34,i28,b30,b32,i25),bW,aL,aE,trivial⟩
    ·refine y9 (m:=f.blocks.length) jy Zo U U U U U (by simp) (by simp) (by show (24:Int)*_≤_;omega) (by omega) eI 3<|fun b32=>z2<|aN 3 U<|y3 U (zo (.r (.r (.rest _)))) (hnear) ?_
     rintro r25 O25 ⟨i25,rfl,rfl⟩
     refine z2<|aN 6 U<|y3 U (zo (.r (.r (.r (.rest _))))) (aS (-1) f.blocks.length (by omega) hpos) ?_
     rintro r28 O28 ⟨i28,rfl,rfl⟩
     refine z2<|ai 11 U (zz (cps:=[(0,[_]),(1,[_]),(2,[_]),(3,[_])]) (rs:=[_,_,_,_]) cU U U U)<|aN 12 U<|yl (cs:=_) U U U U<|fun i34=>zd (za (zc .t2))<|zd (za (zc .t3))<|zd (za (zc .t4))<|zd (za (zc .t4))<|zd (za (zc .t4))<|z2<|ai 13 U (gu U)<|bI ?_
     exact ⟨(i34,i28,b30,b32,i25),bW,aL,aE,trivial⟩
   ·refine y9 (m:=f.blocks.length) jy Zo U U U U U (by simp) (by simp) (by show (24:Int)*_≤_;omega) (by omega) eI 3<|fun b32=>z2<|yj (i:=3) (j:=4) U U (by kernel_rfl) ?_ ?_
    ·refine y3 U (zo (.r (.r (.rest _)))) (hnear) ?_
     rintro r25 O25 ⟨i25,rfl,rfl⟩
     refine z2<|aN 4 U<|zx (rows:=[[_]]) cA U U U U U<|z2<|aN 6 U<|y3 U (zo (.r (.r (.r (.rest _))))) (aS (-1) f.blocks.length (by omega) hpos) ?_
     rintro r28 O28 ⟨i28,rfl,rfl⟩
     refine z2<|ai 11 U (zz (cps:=[(0,[_]),(1,[_]),(2,[_]),(3,[_])]) (rs:=[_,_,_,_]) cU U U U)<|aN 12 U<|yl (cs:=_) U U U U<|fun i34=>zd (za (zc .t2))<|zd (za (zc .t3))<|zd (za (zc .t4))<|zd (za (zc .t4))<|zd (za (zc .t4))<|z2<|ai 13 U (gu U)<|bI ?_
     exact ⟨(i34,i28,b30,b32,i25),bW,aL,aE,trivial⟩
    ·refine zx (rows:=[[_]]) cA U U U U U<|z2<|aN 3 U<|y3 U (zo (.r (.r (.rest _)))) (hnear) ?_
     rintro r25 O25 ⟨i25,rfl,rfl⟩
     refine z2<|aN 6 U<|y3 U (zo (.r (.r (.r (.rest _))))) (aS (-1) f.blocks.length (by omega) hpos) ?_
     rintro r28 O28 ⟨i28,rfl,rfl⟩
     refine z2<|ai 11 U (zz (cps:=[(0,[_]),(1,[_]),(2,[_]),(3,[_])]) (rs:=[_,_,_,_]) cU U U U)<|aN 12 U<|yl (cs:=_) U U U U<|fun i34=>zd (za (zc .t2))<|zd (za (zc .t3))<|zd (za (zc .t4))<|zd (za (zc .t4))<|zd (za (zc .t4))<|z2<|ai 13 U (gu U)<|bI ?_
     exact ⟨(i34,i28,b30,b32,i25),bW,aL,aE,trivial⟩
  ·refine y9 (m:=f.blocks.length) jy Zo U U U U U (by simp) (by simp) (by show (24:Int)*_≤_;omega) (by omega) eI 3<|fun b32=>z2<|qk (i:=3) (j:=4) (m:=8) U U U (by kernel_rfl) ?_ ?_ ?_
   ·refine y3 U (zo (.r (.rest _))) (hnear) ?_
    rintro r25 O25 ⟨i25,rfl,rfl⟩
    refine z2<|yj (i:=4) (j:=8) U U (by kernel_rfl) ?_ ?_
    ·refine zx (rows:=[[_]]) cA U U U U U<|z2<|yj (i:=6) (j:=8) U U (by kernel_rfl) ?_ ?_
     ·refine y3 U (zo (.r (.r (.rest _)))) (aS (-1) f.blocks.length (by omega) hpos) ?_
      rintro r28 O28 ⟨i28,rfl,rfl⟩
      refine z2<|aN 8 U<|y9 (m:=f.blocks.length) jy Zo U U U U U (by simp) (by simp) (by show (24:Int)*_≤_;omega) (by omega) eI 3<|fun b30=>z2<|ai 11 U (zz (cps:=[(0,[_]),(1,[_]),(2,[_]),(3,[_])]) (rs:=[_,_,_,_]) cU U U U)<|aN 12 U<|yl (cs:=_) U U U U<|fun i34=>zd (za (zc .t3))<|zd (za (zc .t4))<|zd (za (zc .t3))<|zd (za (zc .t4))<|zd (za (zc .t4))<|z2<|ai 13 U (gu U)<|bI ?_
      exact ⟨(i34,i28,b30,b32,i25),bW,aL,aE,trivial⟩
     ·refine y9 (m:=f.blocks.length) jy Zo U U U U U (by simp) (by simp) (by show (24:Int)*_≤_;omega) (by omega) eI 3<|fun b30=>z2<|aN 6 U<|y3 U (zo (.r (.r (.r (.rest _))))) (aS (-1) f.blocks.length (by omega) hpos) ?_
      rintro r28 O28 ⟨i28,rfl,rfl⟩
      refine z2<|ai 11 U (zz (cps:=[(0,[_]),(1,[_]),(2,[_]),(3,[_])]) (rs:=[_,_,_,_]) cU U U U)<|aN 12 U<|yl (cs:=_) U U U U<|fun i34=>zd (za (zc .t3))<|zd (za (zc .t4))<|zd (za (zc .t4))<|zd (za (zc .t4))<|zd (za (zc .t4))<|z2<|ai 13 U (gu U)<|bI ?_
      exact ⟨(i34,i28,b30,b32,i25),bW,aL,aE,trivial⟩
    ·refine y9 (m:=f.blocks.length) jy Zo U U U U U (by simp) (by simp) (by show (24:Int)*_≤_;omega) (by omega) eI 3<|fun b30=>z2<|aN 4 U<|zx (rows:=[[_]]) cA U U U U U<|z2<|aN 6 U<|y3 U (zo (.r (.r (.r (.rest _))))) (aS (-1) f.blocks.length (by omega) hpos) ?_
     rintro r28 O28 ⟨i28,rfl,rfl⟩
     refine z2<|ai 11 U (zz (cps:=[(0,[_]),(1,[_]),(2,[_]),(3,[_])]) (rs:=[_,_,_,_]) cU U U U)<|aN 12 U<|yl (cs:=_) U U U U<|fun i34=>zd (za (zc .t3))<|zd (za (zc .t4))<|zd (za (zc .t4))<|zd (za (zc .t4))<|zd (za (zc .t4))<|z2<|ai 13 U (gu U)<|bI ?_
     exact ⟨(i34,i28,b30,b32,i25),bW,aL,aE,trivial⟩
   ·refine zx (rows:=[[_]]) cA U U U U U<|z2<|yj (i:=3) (j:=8) U U (by kernel_rfl) ?_ ?_
    ·refine y3 U (zo (.r (.rest _))) (hnear) ?_
     rintro r25 O25 ⟨i25,rfl,rfl⟩
     refine z2<|yj (i:=6) (j:=8) U U (by kernel_rfl) ?_ ?_
     ·refine y3 U (zo (.r (.r (.rest _)))) (aS (-1) f.blocks.length (by omega) hpos) ?_
      rintro r28 O28 ⟨i28,rfl,rfl⟩
      refine z2<|aN 8 U<|y9 (m:=f.blocks.length) jy Zo U U U U U (by simp) (by simp) (by show (24:Int)*_≤_;omega) (by omega) eI 3<|fun b30=>z2<|ai 11 U (zz (cps:=[(0,[_]),(1,[_]),(2,[_]),(3,[_])]) (rs:=[_,_,_,_]) cU U U U)<|aN 12 U<|yl (cs:=_) U U U U<|fun i34=>zd (za (zc .t3))<|zd (za (zc .t4))<|zd (za (zc .t3))<|zd (za (zc .t4))<|zd (za (zc .t4))<|z2<|ai 13 U (gu U)<|bI ?_
      exact ⟨(i34,i28,b30,b32,i25),bW,aL,aE,trivial⟩
     ·refine y9 (m:=f.blocks.length) jy Zo U U U U U (by simp) (by simp) (by show (24:Int)*_≤_;omega) (by omega) eI 3<|fun b30=>z2<|aN 6 U<|y3 U (zo (.r (.r (.r (.rest _))))) (aS (-1) f.blocks.length (by omega) hpos) ?_
      rintro r28 O28 ⟨i28,rfl,rfl⟩
      refine z2<|ai 11 U (zz (cps:=[(0,[_]),(1,[_]),(2,[_]),(3,[_])]) (rs:=[_,_,_,_]) cU U U U)<|aN 12 U<|yl (cs:=_) U U U U<|fun i34=>zd (za (zc .t3))<|zd (za (zc .t4))<|zd (za (zc .t4))<|zd (za (zc .t4))<|zd (za (zc .t4))<|z2<|ai 13 U (gu U)<|bI ?_
      exact ⟨(i34,i28,b30,b32,i25),bW,aL,aE,trivial⟩
    ·refine y9 (m:=f.blocks.length) jy Zo U U U U U (by simp) (by simp) (by show (24:Int)*_≤_;omega) (by omega) eI 3<|fun b30=>z2<|aN 3 U<|y3 U (zo (.r (.r (.rest _)))) (hnear) ?_
     rintro r25 O25 ⟨i25,rfl,rfl⟩
     refine z2<|aN 6 U<|y3 U (zo (.r (.r (.r (.rest _))))) (aS (-1) f.blocks.length (by omega) hpos) ?_
     rintro r28 O28 ⟨i28,rfl,rfl⟩
     refine z2<|ai 11 U (zz (cps:=[(0,[_]),(1,[_]),(2,[_]),(3,[_])]) (rs:=[_,_,_,_]) cU U U U)<|aN 12 U<|yl (cs:=_) U U U U<|fun i34=>zd (za (zc .t2))<|zd (za (zc .t4))<|zd (za (zc .t4))<|zd (za (zc .t4))<|zd (za (zc .t4))<|z2<|ai 13 U (gu U)<|bI ?_
     exact ⟨(i34,i28,b30,b32,i25),bW,aL,aE,trivial⟩
   ·refine y9 (m:=f.blocks.length) jy Zo U U U U U (by simp) (by simp) (by show (24:Int)*_≤_;omega) (by omega) eI 3<|fun b30=>z2<|yj (i:=3) (j:=4) U U (by kernel_rfl) ?_ ?_
    ·refine y3 U (zo (.r (.r (.rest _)))) (hnear) ?_
     rintro r25 O25 ⟨i25,rfl,rfl⟩
     refine z2<|aN 4 U<|zx (rows:=[[_]]) cA U U U U U<|z2<|aN 6 U<|y3 U (zo (.r (.r (.r (.rest _))))) (aS (-1) f.blocks.length (by omega) hpos) ?_
     rintro r28 O28 ⟨i28,rfl,rfl⟩
     refine z2<|ai 11 U (zz (cps:=[(0,[_]),(1,[_]),(2,[_]),(3,[_])]) (rs:=[_,_,_,_]) cU U U U)<|aN 12 U<|yl (cs:=_) U U U U<|fun i34=>zd (za (zc .t2))<|zd (za (zc .t4))<|zd (za (zc .t4))<|zd (za (zc .t4))<|zd (za (zc .t4))<|z2<|ai 13 U (gu U)<|bI ?_
     exact ⟨(i34,i28,b30,b32,i25),bW,aL,aE,trivial⟩
    ·refine zx (rows:=[[_]]) cA U U U U U<|z2<|aN 3 U<|y3 U (zo (.r (.r (.rest _)))) (hnear) ?_
     rintro r25 O25 ⟨i25,rfl,rfl⟩
     refine z2<|aN 6 U<|y3 U (zo (.r (.r (.r (.rest _))))) (aS (-1) f.blocks.length (by omega) hpos) ?_
     rintro r28 O28 ⟨i28,rfl,rfl⟩
     refine z2<|ai 11 U (zz (cps:=[(0,[_]),(1,[_]),(2,[_]),(3,[_])]) (rs:=[_,_,_,_]) cU U U U)<|aN 12 U<|yl (cs:=_) U U U U<|fun i34=>zd (za (zc .t2))<|zd (za (zc .t4))<|zd (za (zc .t4))<|zd (za (zc .t4))<|zd (za (zc .t4))<|z2<|ai 13 U (gu U)<|bI ?_
     exact ⟨(i34,i28,b30,b32,i25),bW,aL,aE,trivial⟩
 ·rintro ⟨i34,i28,b30,b32,i25⟩ _
  refine ae<|bb U<|ax U<|z8 (zh Zi U jh (by decide) U U)<|z8 (zq (c:=.own _ _) jx U ⟨_,.head⟩ U)<|z8 (yd (j:=0) j7 j9 U U U ⟨_,.t1⟩ (by first|rfl|(simp[aF,aM];done)|(simp[aF,aM];omega)) hpos)<|q5 (j:=0) j9 U U .t1 (by first|omega|(simp;omega))<|z2<|zb<|ae<|bd U<|z8 (Gv.cutLoM (j:=1) j7 j9 U U U (by omega))<|aj j7 U<|aa U<|z2<|zi<|y5 (γ:=Nat) [4,5,6,7,41,42] (fun q=>[(43,.i q)]) (fun q=>[(i34,.cells 193 [.own i25 f.blocks.length,.own i28 f.blocks.length,eM b30 f.blocks.length,eM b32 f.blocks.length]),(i28,.grow 1 3 (cI (iy (ah f) f.blocks.length q))),(0,dK eI 23 3 b30 (List.replicate f.blocks.length [])),(0,dK eI 23 3 b32 (List.replicate f.blocks.length [])),(i25,.grow 1 3 (cI (bv (ah f) f.blocks.length)))]) (fun q=>q≤((aH (ah f) f.blocks.length).drop 1).length∧∀x,-1≤gi (iy (ah f) f.blocks.length q) x∧gi (iy (ah f) f.blocks.length q) x≤q) (fun q=>((aH (ah f) f.blocks.length).drop 1).length - q) 0 aL aE (⟨w2 _,fun x=>by rw[show iy (ah f) f.blocks.length 0=fO f.blocks.length from rfl,nO hpos];dsimp only;split<;>omega⟩) ?_
  rintro q ⟨hq,hb⟩
  refine ae<|ap U U<|z2<|zb<|zn U (fun cq=>?_) (fun cq=>?_)
  ·have hq2:q<((aH (ah f) f.blocks.length).drop 1).length:=by simpa using cq
   obtain ⟨b,hbe⟩:∃b,((aH (ah f) f.blocks.length).drop 1)[q]=b:=⟨_,rfl⟩
   have hbt:b∈(aH (ah f) f.blocks.length).drop 1:=hbe▸w3 hq2
   have hbm:b∈aH (ah f) f.blocks.length:=List.mem_of_mem_drop hbt
   have hb0:=H8 hG.toEOk hbt
   obtain ⟨hbp,hbn⟩:=hrng b hbm
   have hnm:=(hG.near_mem hbm hb0).1
   rw[←gJ hbp hb0] at hnm
   obtain ⟨hnp,hnn⟩:=hrng _ hnm
   have hgN:(bv (ah f) f.blocks.length)[b.toNat]?=some (gi (bv (ah f) f.blocks.length) b):=gD hbp (by rw[f5];omega)
   have hgL:(iy (ah f) f.blocks.length q)[(gi (bv (ah f) f.blocks.length) b).toNat]?=some (gi (iy (ah f) f.blocks.length q) (gi (bv (ah f) f.blocks.length) b)):=gD hnp (by rw[uF];omega)
   have hbb:=hb (gi (bv (ah f) f.blocks.length) b)
   have hsucc:iy (ah f) f.blocks.length (q+1)=(iy (ah f) f.blocks.length q).set b.toNat (gi (iy (ah f) f.blocks.length q) (gi (bv (ah f) f.blocks.length) b)+1):=by rw[AQ hq2,hbe,gJ hbp hb0];rfl
   have hlen:=uF (ah f) f.blocks.length q
   have hNl:=f5 (ah f) f.blocks.length
   have hql:q≤1000:=by have:((aH (ah f) f.blocks.length).drop 1).length≤(aH (ah f) f.blocks.length).length:=(by simp);omega
   refine zf<|zb<|zi<|ae<|z8 (bB q j7 j9 U U U (by rw[qx hq2,hbe])) ?_
   refine aA jg U<|am U<|z2<|zr (fun j=>Nat.beq j 20) (by kernel_rfl) U (zo (.r (.l (.l (.l (.r (.rest _)))))))<|ai 0 U (dR U)<|ai 1 U (zy U)<|ai 2 U (zh Zi U jh (by decide) U U)<|ai 3 U (zq (c:=.own _ _) jx U ⟨_,.head⟩ U)<|ai 4 U (dx U)<|ai 5 U (dR U)<|ai 6 U (zy U)<|ai 7 U (zh Zi U jh (by decide) U U)<|ai 8 U (zq (c:=.own _ _) jx U ⟨_,.head⟩ U)<|ai 9 U (dR U)<|ai 10 U (zy U)<|ai 11 U (zh Zi U jh (by decide) U U)<|ai 12 U (zq (c:=.own _ _) jx U ⟨_,.head⟩ U)<|ai 13 U (dx U)<|ai 14 U (yd (j:=b.toNat) j7 j9 U U (by omega) ⟨_,.t1⟩ (by first|rfl|(simp[aF,aM];done)|(simp[aF,aM];omega)) (by omega))<|ai 15 U (yw (j:=b.toNat) jg U ⟨_,.t1⟩ hgN)<|aN 16 U<|z8 (yd (j:=(gi (bv (ah f) f.blocks.length) b).toNat) j7 j9 U U (by omega) ⟨_,.head⟩ (by first|rfl|(simp[aF,aM];done)|(simp[aF,aM];omega)) (by omega))<|z2<|aN 17 U<|z8 (yw (j:=(gi (bv (ah f) f.blocks.length) b).toNat) jg U ⟨_,.head⟩ hgL)<|z2<|ai 18 U (G8 U U)<|aN 19 U<|z8 (yd (j:=b.toNat) j7 j9 U U (by omega) ⟨_,.head⟩ (by first|rfl|(simp[aF,aM];done)|(simp[aF,aM];omega)) (by omega))<|z2<|yc<|yk (i:=20) U (by kernel_rfl) (by kernel_rfl)<|q5 (j:=b.toNat) j9 U U .t2 (by first|omega|(simp;omega))<|zd (za (zc .t1))<|zd (za (zc .t4))<|zd (za (zc .t4))<|zd (za (zc .t4))<|zd (za (zc .t4))<|z2<|yf (by kernel_rfl)<|aW ?_
   refine aC U U<|aa U<|z2 ?_
   exact ⟨q+1,oB,aL,⟨_,(.refl _),by rw[hsucc]⟩,⟨hq2,fun x=>by rw[hsucc,vm hbp (by omega)];have:=hb x;split<;>omega⟩,by omega⟩
  ·have hqn:q=((aH (ah f) f.blocks.length).drop 1).length:=by have h0:¬(q:Int)<(((aH (ah f) f.blocks.length).drop 1).length:Int):=(by simpa using cq);omega
   subst hqn
   rw[Dt]
   refine y4<|zb<|ae<|aa U<|aa U<|z2<|zi<|y5 (γ:=Nat) [4,6,7,68] (fun k=>[(69,.i k)]) (fun k=>[(i34,.cells 193 [.own i25 f.blocks.length,.own i28 f.blocks.length,eM b30 f.blocks.length,eM b32 f.blocks.length]),(i28,.grow 1 3 (cI (b9 (ah f) f.blocks.length))),(0,dK eI 23 3 b30 (cM f.blocks.length (v7 (bv (ah f) f.blocks.length) k))),(0,dK eI 23 3 b32 (List.replicate f.blocks.length [])),(i25,.grow 1 3 (cI (bv (ah f) f.blocks.length)))]) (fun k=>k≤f.blocks.length) (fun k=>f.blocks.length - k) 0 aL ⟨_,(.refl _),by rw[rM];rfl⟩ (w2 _) ?_
   rintro k hk
   refine ae<|ap U U<|z2<|zb<|zn U (fun ck=>?_) (fun ck=>?_)
   ·have hk2:k<f.blocks.length:=by simp at ck;omega
    have hNl:=f5 (ah f) f.blocks.length
    have hgN:(bv (ah f) f.blocks.length)[k]?=some (gi (bv (ah f) f.blocks.length) (k:Int)):=gD (x:=(k:Int)) (by omega) (by rw[f5];omega)
    have hel:=H9 (bv (ah f) f.blocks.length) k
    refine zf<|zb<|zi<|ae<|aa U<|am U<|z2<|ae<|bb U<|ax U<|z8 (zh Zi U jh (by decide) U U)<|z8 (zq (c:=.own _ _) jx U ⟨_,.head⟩ U)<|aa U<|z8 (yd (j:=k) j7 j9 U U U ⟨_,.t4⟩ (by first|rfl|(simp[aF,aM];done)|(simp[aF,aM];omega)) hk2)<|z8 (yw (j:=k) jg U ⟨_,.t4⟩ hgN)<|am U<|z2<|ae<|aa U<|aO U U<|z2<|zw U (fun cn=>?_) (fun cn=>?_)
    ·have hne:gi (bv (ah f) f.blocks.length) (k:Int)≠-1:=by simpa using cn
     have hpm:=(Fq hG (by omega) hne).2
     obtain ⟨hp0,hpn⟩:=hrng _ hpm
     obtain ⟨p,hpe⟩:∃p,gi (bv (ah f) f.blocks.length) (k:Int)=p:=⟨_,rfl⟩
     rw[hpe] at hne hpm hp0 hpn
     have hpl:p.toNat<(cM f.blocks.length (v7 (bv (ah f) f.blocks.length) k)).length:=by rw[cX];omega
     have hrl:=kR hpl
     have hsucc:v7 (bv (ah f) f.blocks.length) (k+1)=v7 (bv (ah f) f.blocks.length) k++[(p,(k:Int))]:=by rw[xM,hpe,if_pos hne]
     rw[hpe]
     refine yb (γ:=Unit) [4,6,7,68,69] (fun u=>[]) (fun u=>[(i34,.cells 193 [.own i25 f.blocks.length,.own i28 f.blocks.length,eM b30 f.blocks.length,eM b32 f.blocks.length]),(i28,.grow 1 3 (cI (b9 (ah f) f.blocks.length))),(0,dK eI 23 3 b30 ((cM f.blocks.length (v7 (bv (ah f) f.blocks.length) k)).set p.toNat ((cM f.blocks.length (v7 (bv (ah f) f.blocks.length) k))[p.toNat]++[(k:Int)]))),(0,dK eI 23 3 b32 (List.replicate f.blocks.length [])),(i25,.grow 1 3 (cI (bv (ah f) f.blocks.length)))]) (fun u=>True) ?_ (fun _ _ h=>h) ?_
     ·refine zr (fun j=>Nat.beq j 16) (by kernel_rfl) U (zo (.r (.l (.l (.l (.r (.rest _)))))))<|ai 0 U (dR U)<|ai 1 U (zy U)<|ai 2 U (zh Zi U sizeOf74 (by decide) U U)<|ai 3 U (zq (c:=eM _ _) isAgg74 U ⟨_,.head⟩ U)<|ai 4 U (dx U)<|ai 5 U (dR U)<|ai 6 U (zy U)<|ai 7 U (zh Zi U sizeOf74 (by decide) U U)<|ai 8 U (zq (c:=eM _ _) isAgg74 U ⟨_,.head⟩ U)<|ai 9 U (dx U)<|ai 10 U (qq (j:=p.toNat) jy jh U U (by omega) (by omega))<|ai 12 U (dx U)<|yj (i:=11) (j:=13) U U (by kernel_rfl) ?_ ?_
      ·refine qi (j:=p.toNat) (r:=(cM f.blocks.length (v7 (bv (ah f) f.blocks.length) k))[p.toNat]) jx U (qx hpl) (fun _=>.t1)<|fun i92=>z2<|aN 13 U<|zx (rows:=[[_]]) cA U U U U U<|z2<|aN 14 U<|yg (k:=1) j7 Y5 U U U U U (fun _=>.head) (by rw[eI.av_len];rfl) (by decide) U (by show (_+1)*8≤_;omega) (by show _+1≤_;omega)<|fun i95=>z2<|ai 15 U (qq (j:=p.toNat) jy jh U U (by omega) (by omega))<|yc<|yk (i:=16) U (by kernel_rfl) (by kernel_rfl)<|qr (j:=p.toNat) (r:=(cM f.blocks.length (v7 (bv (ah f) f.blocks.length) k))[p.toNat]++[(k:Int)]) jh U U (by omega) .t2 .t3 U (eI.av_push _ _) (by simp)<|zd (za (zc .t1))<|zd (za (zc .t4))<|zd (za (zc .t4))<|zd (za (zc .t4))<|zd (za (zc .t4))<|z2<|yf (by kernel_rfl) ?_
       exact ⟨(),mI,trivial,aE,trivial⟩
      ·refine zx (rows:=[[_]]) cA U U U U U<|z2<|aN 11 U<|qi (j:=p.toNat) (r:=(cM f.blocks.length (v7 (bv (ah f) f.blocks.length) k))[p.toNat]) jx U (qx hpl) (fun _=>.t1)<|fun i92=>z2<|aN 14 U<|yg (k:=1) j7 Y5 U U U U U (fun _=>.head) (by rw[eI.av_len];rfl) (by decide) U (by show (_+1)*8≤_;omega) (by show _+1≤_;omega)<|fun i95=>z2<|ai 15 U (qq (j:=p.toNat) jy jh U U (by omega) (by omega))<|yc<|yk (i:=16) U (by kernel_rfl) (by kernel_rfl)<|qr (j:=p.toNat) (r:=(cM f.blocks.length (v7 (bv (ah f) f.blocks.length) k))[p.toNat]++[(k:Int)]) jh U U (by omega) .t2 .t3 U (eI.av_push _ _) (by simp)<|zd (za (zc .t1))<|zd (za (zc .t4))<|zd (za (zc .t4))<|zd (za (zc .t4))<|zd (za (zc .t4))<|z2<|yf (by kernel_rfl) ?_
       exact ⟨(),mI,trivial,aE,trivial⟩
     ·rintro _ _
      refine aW<|aC U U<|aa U<|z2 ?_
      exact ⟨k+1,fC,aL,⟨_,(.refl _),by rw[hsucc,lX hp0 hpl]⟩,hk2,by omega⟩
    ·have hne:gi (bv (ah f) f.blocks.length) (k:Int)=-1:=by simpa using cn
     have hsucc:v7 (bv (ah f) f.blocks.length) (k+1)=v7 (bv (ah f) f.blocks.length) k:=by rw[xM,if_neg (by rw[hne];simp)];simp
     refine zf<|aW<|aC U U<|aa U<|z2 ?_
     exact ⟨k+1,fC,aL,⟨_,(.refl _),by rw[hsucc]⟩,hk2,by omega⟩
   ·have hkn:k=f.blocks.length:=by simp at ck;omega
    subst hkn
    refine y7 (za (zc .t4))<|y7 (za (zc .t2))<|y7 (za (zc .t2))<|y7 (za (zc .t4))<|y4<|ae<|bb U<|bd U<|bd U<|y3 U (zo (.l (.l (.l (.l (.r (.rest _))))))) (hfr _ _ _ _ 0 _) ?_
    rintro r101 O101 ⟨rfl,fr,hfr2,rfl⟩
    refine z2<|ae<|bb U<|z8 (gu U)<|am U<|z2<|y7 (aR.knowIC (off:=0) .t3 .t1 U (f5 _ _))<|y7 (aR.knowIC (off:=1) .t2 .t1 U hG.lev.len)<|y7 (aR.nestKnowC (off:=2) .t2 .t1 U (cX _ _))<|y7 (aR.nestKnowC (off:=3) .head .head U hfr2.1)<|y7 (y8 (t:=2) U .head)<|zg<|qn (x:=.pf _) (y:=.int _ _) U U ?_
    exact ⟨⟨fr,hfr2,rfl⟩,rfl⟩
def Li (f:ab):AV:=rX f (pM eI (Ce f)) .any
theorem xN (f:ab) (hf:small f) (hL:bx E) (ht:bf f=true):aP prog E 74 [.agg (bw f)] (.tup [Li f,.int .i64 0]):=
 (Ia f hf hL ht).weak fun x O h=>by
  obtain ⟨⟨fr,hfr,rfl⟩,rfl⟩:=h
  refine ⟨U,fun I v hv=>?_⟩
  obtain ⟨vs,e,w0,us,e2,h0,hr⟩:=hv
  obtain ⟨b,off,ws,e3,hl,hk⟩:=h0
  obtain ⟨u0,t0,f0,a0,u1,t1,f1,a1,u2,t2,f2,a2,u3,t3,f3,a3,hz⟩:=hl
  exact ⟨vs,e,w0,us,e2,⟨b,off,ws,e3,⟨u0,t0,f0,a0,u1,t1,f1,a1,u2,t2,f2,a2,u3,t3,f3,trivial,hz⟩,hk⟩,hr⟩
end Go.Proofs.YtbbonnfjealmpaaGreatDoor
