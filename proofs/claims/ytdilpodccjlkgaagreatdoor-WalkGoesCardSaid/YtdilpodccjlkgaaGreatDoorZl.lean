/- The tree of what is above what, made. Of programs that are little. -/
import Derived.Test.YtdilpodccjlkgaaGreatDoorZk
set_option linter.unusedVariables false
set_option linter.unusedSimpArgs false
set_option linter.unusedSectionVars false
namespace Go.Proofs.YtdilpodccjlkgaaGreatDoor
open Go.Proofs.Tryz
open Go.Proofs Go.Lib Go.Shelf Go.RowKit
theorem cF:dB prog 130 #[(0,1),(1,1),(2,1),(3,1)] [.raw (.slice none 0 0),.raw (.slice none 0 0),.raw (.slice none 0 0),.raw (.slice none 0 0)]:=⟨_,_,Zc,zeroValue130,fun w=>by kernel_rfl,rfl⟩
variable {E:World}
set_option maxRecDepth 20000
def gL (S:Int→List Int) (n q:Nat):List Int:=(((aB S n).drop 1).take q).foldl (uH (bt S n)) (fu n)
theorem xr {S:Int→List Int} {n q:Nat} (h:q<((aB S n).drop 1).length):gL S n (q+1)=uH (bt S n) (gL S n q) ((aB S n).drop 1)[q]:=by
 unfold gL;rw[qu h,List.foldl_append];rfl
theorem Bj (S:Int→List Int) (n:Nat):gL S n ((aB S n).drop 1).length=bO S n:=by unfold gL bO;rw[qy,List.drop_one]
theorem sC (S:Int→List Int) (n q:Nat):(gL S n q).length=n:=by unfold gL;rw[ni (fun l x=>uI _ l x),lZ]
theorem ES {S:Int→List Int} {n:Nat} (hE:EOk S n) {b:Int} (hb:b∈(aB S n).drop 1):b≠0:=by
 have h1:=lY hE
 have h2:=iv hE
 cases h:aB S n with
 |nil=>rw[h] at h1;simp at h1
 |cons z zs=>
  rw[h] at h1 h2 hb
  simp at h1
  subst h1
  intro e
  subst e
  exact (List.nodup_cons.1 h2).1 (by simpa using hb)
theorem Bk {S:Int→List Int} {n:Nat} (hE:EOk S n):0<(aB S n).length:=by
 have h1:=lY hE
 cases h:aB S n with
 |nil=>rw[h] at h1;simp at h1
 |cons z zs=>simp
def tz (N:List Int) (k:Nat):List (Int × Int):=((bx k).filter fun b=>decide (gi N b≠-1)).map fun b=>(gi N b,b)
theorem vn (N:List Int) (k:Nat):tz N (k+1)=tz N k++if gi N (k:Int)≠-1 then[(gi N (k:Int),(k:Int))] else[]:=by
 unfold tz;rw[nM,List.filter_append,w5]
 by_cases h:gi N (k:Int)=-1<;>simp[h]
theorem ET (N:List Int) (k:Nat):(tz N k).length≤k:=by
 unfold tz;rw[w1];exact Nat.le_trans (List.length_filter_le _ _) (by rw[bS];exact Nat.le_refl _)
def nT (f:ac):List (List Int):=cA f.blocks.length (tz (bh (ah f) f.blocks.length) f.blocks.length)
theorem C4 {S:Int→List Int} {n:Nat} (hG:fT S n) {b:Int} (h0:0≤b) (hb:gi (bh S n) b≠-1):b∈aB S n∧gi (bh S n) b∈aB S n:=by
 by_cases e:b=0
 ·rw[e,oL hG.npos] at hb;exact absurd rfl hb
 ·rw[er h0 e] at hb ⊢
  have:=hG.exact.inv.mem b hb
  exact ⟨this,(hG.near_mem this e).1⟩
set_option maxHeartbeats 4000000 in
theorem EU (f:ac) (hf:small f) (hL:bz E) (ht:bi f=true):aY prog E 33 [.agg (bE f)] []
  fun r O=>(∃fr,uf f.blocks.length fr∧r=.tup [mH f (lG eI (nT f)) (lG eI fr),.int .i64 0])∧O=[]:=by
 have hE:=dO ht
 have hn:=hf.2.2.1
 have hG:=hE.grph
 have hpos:=hG.npos
 have hol:=eZ hG
 have hop:=Bk hG.toEOk
 have hnear:=tx (E:=E) f hE hn
 have hfr:=fun t a b fb T x=>vm (E:=E) f hE hn t a b fb T x _ (uf.begin f.blocks.length)
 have hprd:=nR f hf hL ht
 have hord:=va f hf hL ht
 have hrng:∀z∈aB (ah f) f.blocks.length,0≤z∧z<f.blocks.length:=fun z hz=>de hG.toEOk hz
 refine zp func33 Z (by decide) Z<|ai<|ya (cs:=_) Z Z Z<|za (jI Z)<|ao Z<|z6<|ai<|ae jv jj Z Z<|zh (hord) Z<|za (nI Z)<|z6<|zd<|ai<|be Z<|aq wy Z<|ak Z Z<|z6<|yg Z (by simp;exact List.ne_nil_of_length_pos hop)<|zi<|zd<|zr (fun j=>false) (by kernel_rfl) Z (zj (.rest _))<|ad 0 Z (bK jg Z Z8 Z Z)<|ad 1 Z (e9 Zg Z)<|ad 2 Z (Gv.lenM ju Z)<|ad 3 Z (yw jv jj Z Z)<|aQ 4 Z<|zh (hprd) Z<|z6<|ad 5 Z (mY Z)<|ad 6 Z (nI Z)<|bI<|zd<|ye (γ:=Nat × Nat × Nat × Nat × Nat) [4,5,6] (fun g=>[(7,.po g.1 0)]) (fun g=>[(g.1,.cells 130 [.own g.2.2.2.2 f.blocks.length,.own g.2.1 f.blocks.length,eh g.2.2.1 f.blocks.length,eh g.2.2.2.1 f.blocks.length]),(g.2.1,.grow 1 3 (cI (List.replicate f.blocks.length (-1)))),(0,dv eI 23 3 g.2.2.1 (List.replicate f.blocks.length [])),(0,dv eI 23 3 g.2.2.2.1 (List.replicate f.blocks.length [])),(g.2.2.2.2,.grow 1 3 (cI (bh (ah f) f.blocks.length)))]) (fun g=>True) ?_ (fun _ _ h=>h) ?_
 ·refine zr (fun j=>false) (by kernel_rfl) Z (zj (.rest _))<|ad 0 Z (wt Z)<|ad 1 Z (wt Z)<|ad 2 Z (cD Z)<|ad 5 Z (cD Z)<|ad 7 Z (cD Z)<|ad 9 Z (cD Z)<|bN.four (i:=3) (j:=4) (m:=8) (q:=10) Z Z Z Z (by kernel_rfl) ?_ ?_ ?_ ?_
  ·refine zu Z (zj (.rest _)) (hnear) ?_
   rintro r25 O25 ⟨i25,rfl,rfl⟩
   refine z6<|bN.three (i:=4) (j:=8) (m:=10) Z Z Z (by kernel_rfl) ?_ ?_ ?_
   ·refine y4 (rows:=[[_]]) cS Z Z Z Z Z<|z6<|bN.three (i:=6) (j:=8) (m:=10) Z Z Z (by kernel_rfl) ?_ ?_ ?_
    ·refine zu Z (zj (.r (.rest _))) (aP (-1) f.blocks.length (by omega) hpos) ?_
     rintro r28 O28 ⟨i28,rfl,rfl⟩
     refine z6<|yr (i:=8) (j:=10) Z Z (by kernel_rfl) ?_ ?_
     ·refine yb (m:=f.blocks.length) jh Zi Z Z Z Z Z (by simp) (by simp) (by show (24:Int)*_≤_;omega) (by omega) eI 3<|fun b30=>z6<|aQ 10 Z<|yb (m:=f.blocks.length) jh Zi Z Z Z Z Z (by simp) (by simp) (by show (24:Int)*_≤_;omega) (by omega) eI 3<|fun b32=>z6<|ad 11 Z (y3 (cps:=[(0,[_]),(1,[_]),(2,[_]),(3,[_])]) (rs:=[_,_,_,_]) cF Z Z Z)<|aQ 12 Z<|yo (cs:=_) Z Z Z Z<|fun i34=>ze (zb (zc .t4))<|ze (zb (zc .t2))<|ze (zb (zc .t3))<|ze (zb (zc .t4))<|ze (zb (zc .t4))<|z6<|ad 13 Z (fU Z)<|bI ?_
      exact ⟨(i34,i28,b30,b32,i25),db,aK,aH,trivial⟩
     ·refine yb (m:=f.blocks.length) jh Zi Z Z Z Z Z (by simp) (by simp) (by show (24:Int)*_≤_;omega) (by omega) eI 3<|fun b32=>z6<|aQ 8 Z<|yb (m:=f.blocks.length) jh Zi Z Z Z Z Z (by simp) (by simp) (by show (24:Int)*_≤_;omega) (by omega) eI 3<|fun b30=>z6<|ad 11 Z (y3 (cps:=[(0,[_]),(1,[_]),(2,[_]),(3,[_])]) (rs:=[_,_,_,_]) cF Z Z Z)<|aQ 12 Z<|yo (cs:=_) Z Z Z Z<|fun i34=>ze (zb (zc .t4))<|ze (zb (zc .t3))<|ze (zb (zc .t3))<|ze (zb (zc .t4))<|ze (zb (zc .t4))<|z6<|ad 13 Z (fU Z)<|bI ?_
      exact ⟨(i34,i28,b30,b32,i25),db,aK,aH,trivial⟩
    ·refine yb (m:=f.blocks.length) jh Zi Z Z Z Z Z (by simp) (by simp) (by show (24:Int)*_≤_;omega) (by omega) eI 3<|fun b30=>z6<|yr (i:=6) (j:=10) Z Z (by kernel_rfl) ?_ ?_
     ·refine zu Z (zj (.r (.r (.rest _)))) (aP (-1) f.blocks.length (by omega) hpos) ?_
      rintro r28 O28 ⟨i28,rfl,rfl⟩
      refine z6<|aQ 10 Z<|yb (m:=f.blocks.length) jh Zi Z Z Z Z Z (by simp) (by simp) (by show (24:Int)*_≤_;omega) (by omega) eI 3<|fun b32=>z6<|ad 11 Z (y3 (cps:=[(0,[_]),(1,[_]),(2,[_]),(3,[_])]) (rs:=[_,_,_,_]) cF Z Z Z)<|aQ 12 Z<|yo (cs:=_) Z Z Z Z<|fun i34=>ze (zb (zc .t4))<|ze (zb (zc .t2))<|ze (zb (zc .t4))<|ze (zb (zc .t4))<|ze (zb (zc .t4))<|z6<|ad 13 Z (fU Z)<|bI ?_
      exact ⟨(i34,i28,b30,b32,i25),db,aK,aH,trivial⟩
     ·refine yb (m:=f.blocks.length) jh Zi Z Z Z Z Z (by simp) (by simp) (by show (24:Int)*_≤_;omega) (by omega) eI 3<|fun b32=>z6<|aQ 6 Z<|zu Z (zj (.r (.r (.r (.rest _))))) (aP (-1) f.blocks.length (by omega) hpos) ?_
      rintro r28 O28 ⟨i28,rfl,rfl⟩
      refine z6<|ad 11 Z (y3 (cps:=[(0,[_]),(1,[_]),(2,[_]),(3,[_])]) (rs:=[_,_,_,_]) cF Z Z Z)<|aQ 12 Z<|yo (cs:=_) Z Z Z Z<|fun i34=>ze (zb (zc .t4))<|ze (zb (zc .t3))<|ze (zb (zc .t4))<|ze (zb (zc .t4))<|ze (zb (zc .t4))<|z6<|ad 13 Z (fU Z)<|bI ?_
      exact ⟨(i34,i28,b30,b32,i25),db,aK,aH,trivial⟩
    ·refine yb (m:=f.blocks.length) jh Zi Z Z Z Z Z (by simp) (by simp) (by show (24:Int)*_≤_;omega) (by omega) eI 3<|fun b32=>z6<|yr (i:=6) (j:=8) Z Z (by kernel_rfl) ?_ ?_
     ·refine zu Z (zj (.r (.r (.rest _)))) (aP (-1) f.blocks.length (by omega) hpos) ?_
      rintro r28 O28 ⟨i28,rfl,rfl⟩
      refine z6<|aQ 8 Z<|yb (m:=f.blocks.length) jh Zi Z Z Z Z Z (by simp) (by simp) (by show (24:Int)*_≤_;omega) (by omega) eI 3<|fun b30=>z6<|ad 11 Z (y3 (cps:=[(0,[_]),(1,[_]),(2,[_]),(3,[_])]) (rs:=[_,_,_,_]) cF Z Z Z)<|aQ 12 Z<|yo (cs:=_) Z Z Z Z<|fun i34=>ze (zb (zc .t4))<|ze (zb (zc .t4))<|ze (zb (zc .t3))<|ze (zb (zc .t4))<|ze (zb (zc .t4))<|z6<|ad 13 Z (fU Z)<|bI ?_
      exact ⟨(i34,i28,b30,b32,i25),db,aK,aH,trivial⟩
     ·refine yb (m:=f.blocks.length) jh Zi Z Z Z Z Z (by simp) (by simp) (by show (24:Int)*_≤_;omega) (by omega) eI 3<|fun b30=>z6<|aQ 6 Z<|zu Z (zj (.r (.r (.r (.rest _))))) (aP (-1) f.blocks.length (by omega) hpos) ?_
      rintro r28 O28 ⟨i28,rfl,rfl⟩
      refine z6<|ad 11 Z (y3 (cps:=[(0,[_]),(1,[_]),(2,[_]),(3,[_])]) (rs:=[_,_,_,_]) cF Z Z Z)<|aQ 12 Z<|yo (cs:=_) Z Z Z Z<|fun i34=>z6<|ad 13 Z (fU Z)<|bI ?_
      exact ⟨(i34,i28,b30,b32,i25),db,aK,aH,trivial⟩
   ·refine yb (m:=f.blocks.length) jh Zi Z Z Z Z Z (by simp) (by simp) (by show (24:Int)*_≤_;omega) (by omega) eI 3<|fun b30=>z6<|yr (i:=4) (j:=10) Z Z (by kernel_rfl) ?_ ?_
    ·refine y4 (rows:=[[_]]) cS Z Z Z Z Z<|z6<|yr (i:=6) (j:=10) Z Z (by kernel_rfl) ?_ ?_
     ·refine zu Z (zj (.r (.r (.rest _)))) (aP (-1) f.blocks.length (by omega) hpos) ?_
      rintro r28 O28 ⟨i28,rfl,rfl⟩
      refine z6<|aQ 10 Z<|yb (m:=f.blocks.length) jh Zi Z Z Z Z Z (by simp) (by simp) (by show (24:Int)*_≤_;omega) (by omega) eI 3<|fun b32=>z6<|ad 11 Z (y3 (cps:=[(0,[_]),(1,[_]),(2,[_]),(3,[_])]) (rs:=[_,_,_,_]) cF Z Z Z)<|aQ 12 Z<|yo (cs:=_) Z Z Z Z<|fun i34=>ze (zb (zc .t4))<|ze (zb (zc .t2))<|ze (zb (zc .t4))<|ze (zb (zc .t4))<|ze (zb (zc .t4))<|z6<|ad 13 Z (fU Z)<|bI ?_
      exact ⟨(i34,i28,b30,b32,i25),db,aK,aH,trivial⟩
     ·refine yb (m:=f.blocks.length) jh Zi Z Z Z Z Z (by simp) (by simp) (by show (24:Int)*_≤_;omega) (by omega) eI 3<|fun b32=>z6<|aQ 6 Z<|zu Z (zj (.r (.r (.r (.rest _))))) (aP (-1) f.blocks.length (by omega) hpos) ?_
      rintro r28 O28 ⟨i28,rfl,rfl⟩
      refine z6<|ad 11 Z (y3 (cps:=[(0,[_]),(1,[_]),(2,[_]),(3,[_])]) (rs:=[_,_,_,_]) cF Z Z Z)<|aQ 12 Z<|yo (cs:=_) Z Z Z Z<|fun i34=>ze (zb (zc .t4))<|ze (zb (zc .t3))<|ze (zb (zc .t4))<|ze (zb (zc .t4))<|ze (zb (zc .t4))<|z6<|ad 13 Z (fU Z)<|bI ?_
      exact ⟨(i34,i28,b30,b32,i25),db,aK,aH,trivial⟩
    ·refine yb (m:=f.blocks.length) jh Zi Z Z Z Z Z (by simp) (by simp) (by show (24:Int)*_≤_;omega) (by omega) eI 3<|fun b32=>z6<|aQ 4 Z<|y4 (rows:=[[_]]) cS Z Z Z Z Z<|z6<|aQ 6 Z<|zu Z (zj (.r (.r (.r (.rest _))))) (aP (-1) f.blocks.length (by omega) hpos) ?_
     rintro r28 O28 ⟨i28,rfl,rfl⟩
     refine z6<|ad 11 Z (y3 (cps:=[(0,[_]),(1,[_]),(2,[_]),(3,[_])]) (rs:=[_,_,_,_]) cF Z Z Z)<|aQ 12 Z<|yo (cs:=_) Z Z Z Z<|fun i34=>ze (zb (zc .t4))<|ze (zb (zc .t3))<|ze (zb (zc .t4))<|ze (zb (zc .t4))<|ze (zb (zc .t4))<|z6<|ad 13 Z (fU Z)<|bI ?_
     exact ⟨(i34,i28,b30,b32,i25),db,aK,aH,trivial⟩
   ·refine yb (m:=f.blocks.length) jh Zi Z Z Z Z Z (by simp) (by simp) (by show (24:Int)*_≤_;omega) (by omega) eI 3<|fun b32=>z6<|yr (i:=4) (j:=8) Z Z (by kernel_rfl) ?_ ?_
    ·refine y4 (rows:=[[_]]) cS Z Z Z Z Z<|z6<|yr (i:=6) (j:=8) Z Z (by kernel_rfl) ?_ ?_
     ·refine zu Z (zj (.r (.r (.rest _)))) (aP (-1) f.blocks.length (by omega) hpos) ?_
      rintro r28 O28 ⟨i28,rfl,rfl⟩
      refine z6<|aQ 8 Z<|yb (m:=f.blocks.length) jh Zi Z Z Z Z Z (by simp) (by simp) (by show (24:Int)*_≤_;omega) (by omega) eI 3<|fun b30=>z6<|ad 11 Z (y3 (cps:=[(0,[_]),(1,[_]),(2,[_]),(3,[_])]) (rs:=[_,_,_,_]) cF Z Z Z)<|aQ 12 Z<|yo (cs:=_) Z Z Z Z<|fun i34=>ze (zb (zc .t4))<|ze (zb (zc .t4))<|ze (zb (zc .t3))<|ze (zb (zc .t4))<|ze (zb (zc .t4))<|z6<|ad 13 Z (fU Z)<|bI ?_
      exact ⟨(i34,i28,b30,b32,i25),db,aK,aH,trivial⟩
     ·refine yb (m:=f.blocks.length) jh Zi Z Z Z Z Z (by simp) (by simp) (by show (24:Int)*_≤_;omega) (by omega) eI 3<|fun b30=>z6<|aQ 6 Z<|zu Z (zj (.r (.r (.r (.rest _))))) (aP (-1) f.blocks.length (by omega) hpos) ?_
      rintro r28 O28 ⟨i28,rfl,rfl⟩
      refine z6<|ad 11 Z (y3 (cps:=[(0,[_]),(1,[_]),(2,[_]),(3,[_])]) (rs:=[_,_,_,_]) cF Z Z Z)<|aQ 12 Z<|yo (cs:=_) Z Z Z Z<|fun i34=>z6<|ad 13 Z (fU Z)<|bI ?_
      exact ⟨(i34,i28,b30,b32,i25),db,aK,aH,trivial⟩
    ·refine yb (m:=f.blocks.length) jh Zi Z Z Z Z Z (by simp) (by simp) (by show (24:Int)*_≤_;omega) (by omega) eI 3<|fun b30=>z6<|aQ 4 Z<|y4 (rows:=[[_]]) cS Z Z Z Z Z<|z6<|aQ 6 Z<|zu Z (zj (.r (.r (.r (.rest _))))) (aP (-1) f.blocks.length (by omega) hpos) ?_
     rintro r28 O28 ⟨i28,rfl,rfl⟩
     refine z6<|ad 11 Z (y3 (cps:=[(0,[_]),(1,[_]),(2,[_]),(3,[_])]) (rs:=[_,_,_,_]) cF Z Z Z)<|aQ 12 Z<|yo (cs:=_) Z Z Z Z<|fun i34=>z6<|ad 13 Z (fU Z)<|bI ?_
     exact ⟨(i34,i28,b30,b32,i25),db,aK,aH,trivial⟩
  ·refine y4 (rows:=[[_]]) cS Z Z Z Z Z<|z6<|bN.three (i:=3) (j:=8) (m:=10) Z Z Z (by kernel_rfl) ?_ ?_ ?_
   ·refine zu Z (zj (.rest _)) (hnear) ?_
    rintro r25 O25 ⟨i25,rfl,rfl⟩
    refine z6<|bN.three (i:=6) (j:=8) (m:=10) Z Z Z (by kernel_rfl) ?_ ?_ ?_
    ·refine zu Z (zj (.r (.rest _))) (aP (-1) f.blocks.length (by omega) hpos) ?_
     rintro r28 O28 ⟨i28,rfl,rfl⟩
     refine z6<|yr (i:=8) (j:=10) Z Z (by kernel_rfl) ?_ ?_
     ·refine yb (m:=f.blocks.length) jh Zi Z Z Z Z Z (by simp) (by simp) (by show (24:Int)*_≤_;omega) (by omega) eI 3<|fun b30=>z6<|aQ 10 Z<|yb (m:=f.blocks.length) jh Zi Z Z Z Z Z (by simp) (by simp) (by show (24:Int)*_≤_;omega) (by omega) eI 3<|fun b32=>z6<|ad 11 Z (y3 (cps:=[(0,[_]),(1,[_]),(2,[_]),(3,[_])]) (rs:=[_,_,_,_]) cF Z Z Z)<|aQ 12 Z<|yo (cs:=_) Z Z Z Z<|fun i34=>ze (zb (zc .t4))<|ze (zb (zc .t2))<|ze (zb (zc .t3))<|ze (zb (zc .t4))<|ze (zb (zc .t4))<|z6<|ad 13 Z (fU Z)<|bI ?_
      exact ⟨(i34,i28,b30,b32,i25),db,aK,aH,trivial⟩
     ·refine yb (m:=f.blocks.length) jh Zi Z Z Z Z Z (by simp) (by simp) (by show (24:Int)*_≤_;omega) (by omega) eI 3<|fun b32=>z6<|aQ 8 Z<|yb (m:=f.blocks.length) jh Zi Z Z Z Z Z (by simp) (by simp) (by show (24:Int)*_≤_;omega) (by omega) eI 3<|fun b30=>z6<|ad 11 Z (y3 (cps:=[(0,[_]),(1,[_]),(2,[_]),(3,[_])]) (rs:=[_,_,_,_]) cF Z Z Z)<|aQ 12 Z<|yo (cs:=_) Z Z Z Z<|fun i34=>ze (zb (zc .t4))<|ze (zb (zc .t3))<|ze (zb (zc .t3))<|ze (zb (zc .t4))<|ze (zb (zc .t4))<|z6<|ad 13 Z (fU Z)<|bI ?_
      exact ⟨(i34,i28,b30,b32,i25),db,aK,aH,trivial⟩
    ·refine yb (m:=f.blocks.length) jh Zi Z Z Z Z Z (by simp) (by simp) (by show (24:Int)*_≤_;omega) (by omega) eI 3<|fun b30=>z6<|yr (i:=6) (j:=10) Z Z (by kernel_rfl) ?_ ?_
     ·refine zu Z (zj (.r (.r (.rest _)))) (aP (-1) f.blocks.length (by omega) hpos) ?_
      rintro r28 O28 ⟨i28,rfl,rfl⟩
      refine z6<|aQ 10 Z<|yb (m:=f.blocks.length) jh Zi Z Z Z Z Z (by simp) (by simp) (by show (24:Int)*_≤_;omega) (by omega) eI 3<|fun b32=>z6<|ad 11 Z (y3 (cps:=[(0,[_]),(1,[_]),(2,[_]),(3,[_])]) (rs:=[_,_,_,_]) cF Z Z Z)<|aQ 12 Z<|yo (cs:=_) Z Z Z Z<|fun i34=>ze (zb (zc .t4))<|ze (zb (zc .t2))<|ze (zb (zc .t4))<|ze (zb (zc .t4))<|ze (zb (zc .t4))<|z6<|ad 13 Z (fU Z)<|bI ?_
      exact ⟨(i34,i28,b30,b32,i25),db,aK,aH,trivial⟩
     ·refine yb (m:=f.blocks.length) jh Zi Z Z Z Z Z (by simp) (by simp) (by show (24:Int)*_≤_;omega) (by omega) eI 3<|fun b32=>z6<|aQ 6 Z<|zu Z (zj (.r (.r (.r (.rest _))))) (aP (-1) f.blocks.length (by omega) hpos) ?_
      rintro r28 O28 ⟨i28,rfl,rfl⟩
      refine z6<|ad 11 Z (y3 (cps:=[(0,[_]),(1,[_]),(2,[_]),(3,[_])]) (rs:=[_,_,_,_]) cF Z Z Z)<|aQ 12 Z<|yo (cs:=_) Z Z Z Z<|fun i34=>ze (zb (zc .t4))<|ze (zb (zc .t3))<|ze (zb (zc .t4))<|ze (zb (zc .t4))<|ze (zb (zc .t4))<|z6<|ad 13 Z (fU Z)<|bI ?_
      exact ⟨(i34,i28,b30,b32,i25),db,aK,aH,trivial⟩
    ·refine yb (m:=f.blocks.length) jh Zi Z Z Z Z Z (by simp) (by simp) (by show (24:Int)*_≤_;omega) (by omega) eI 3<|fun b32=>z6<|yr (i:=6) (j:=8) Z Z (by kernel_rfl) ?_ ?_
     ·refine zu Z (zj (.r (.r (.rest _)))) (aP (-1) f.blocks.length (by omega) hpos) ?_
      rintro r28 O28 ⟨i28,rfl,rfl⟩
      refine z6<|aQ 8 Z<|yb (m:=f.blocks.length) jh Zi Z Z Z Z Z (by simp) (by simp) (by show (24:Int)*_≤_;omega) (by omega) eI 3<|fun b30=>z6<|ad 11 Z (y3 (cps:=[(0,[_]),(1,[_]),(2,[_]),(3,[_])]) (rs:=[_,_,_,_]) cF Z Z Z)<|aQ 12 Z<|yo (cs:=_) Z Z Z Z<|fun i34=>ze (zb (zc .t4))<|ze (zb (zc .t4))<|ze (zb (zc .t3))<|ze (zb (zc .t4))<|ze (zb (zc .t4))<|z6<|ad 13 Z (fU Z)<|bI ?_
      exact ⟨(i34,i28,b30,b32,i25),db,aK,aH,trivial⟩
     ·refine yb (m:=f.blocks.length) jh Zi Z Z Z Z Z (by simp) (by simp) (by show (24:Int)*_≤_;omega) (by omega) eI 3<|fun b30=>z6<|aQ 6 Z<|zu Z (zj (.r (.r (.r (.rest _))))) (aP (-1) f.blocks.length (by omega) hpos) ?_
      rintro r28 O28 ⟨i28,rfl,rfl⟩
      refine z6<|ad 11 Z (y3 (cps:=[(0,[_]),(1,[_]),(2,[_]),(3,[_])]) (rs:=[_,_,_,_]) cF Z Z Z)<|aQ 12 Z<|yo (cs:=_) Z Z Z Z<|fun i34=>z6<|ad 13 Z (fU Z)<|bI ?_
      exact ⟨(i34,i28,b30,b32,i25),db,aK,aH,trivial⟩
   ·refine yb (m:=f.blocks.length) jh Zi Z Z Z Z Z (by simp) (by simp) (by show (24:Int)*_≤_;omega) (by omega) eI 3<|fun b30=>z6<|yr (i:=3) (j:=10) Z Z (by kernel_rfl) ?_ ?_
    ·refine zu Z (zj (.r (.rest _))) (hnear) ?_
     rintro r25 O25 ⟨i25,rfl,rfl⟩
     refine z6<|yr (i:=6) (j:=10) Z Z (by kernel_rfl) ?_ ?_
     ·refine zu Z (zj (.r (.r (.rest _)))) (aP (-1) f.blocks.length (by omega) hpos) ?_
      rintro r28 O28 ⟨i28,rfl,rfl⟩
      refine z6<|aQ 10 Z<|yb (m:=f.blocks.length) jh Zi Z Z Z Z Z (by simp) (by simp) (by show (24:Int)*_≤_;omega) (by omega) eI 3<|fun b32=>z6<|ad 11 Z (y3 (cps:=[(0,[_]),(1,[_]),(2,[_]),(3,[_])]) (rs:=[_,_,_,_]) cF Z Z Z)<|aQ 12 Z<|yo (cs:=_) Z Z Z Z<|fun i34=>ze (zb (zc .t3))<|ze (zb (zc .t2))<|ze (zb (zc .t4))<|ze (zb (zc .t4))<|ze (zb (zc .t4))<|z6<|ad 13 Z (fU Z)<|bI ?_
      exact ⟨(i34,i28,b30,b32,i25),db,aK,aH,trivial⟩
     ·refine yb (m:=f.blocks.length) jh Zi Z Z Z Z Z (by simp) (by simp) (by show (24:Int)*_≤_;omega) (by omega) eI 3<|fun b32=>z6<|aQ 6 Z<|zu Z (zj (.r (.r (.r (.rest _))))) (aP (-1) f.blocks.length (by omega) hpos) ?_
      rintro r28 O28 ⟨i28,rfl,rfl⟩
      refine z6<|ad 11 Z (y3 (cps:=[(0,[_]),(1,[_]),(2,[_]),(3,[_])]) (rs:=[_,_,_,_]) cF Z Z Z)<|aQ 12 Z<|yo (cs:=_) Z Z Z Z<|fun i34=>ze (zb (zc .t3))<|ze (zb (zc .t3))<|ze (zb (zc .t4))<|ze (zb (zc .t4))<|ze (zb (zc .t4))<|z6<|ad 13 Z (fU Z)<|bI ?_
      exact ⟨(i34,i28,b30,b32,i25),db,aK,aH,trivial⟩
    ·refine yb (m:=f.blocks.length) jh Zi Z Z Z Z Z (by simp) (by simp) (by show (24:Int)*_≤_;omega) (by omega) eI 3<|fun b32=>z6<|aQ 3 Z<|zu Z (zj (.r (.r (.rest _)))) (hnear) ?_
     rintro r25 O25 ⟨i25,rfl,rfl⟩
     refine z6<|aQ 6 Z<|zu Z (zj (.r (.r (.r (.rest _))))) (aP (-1) f.blocks.length (by omega) hpos) ?_
     rintro r28 O28 ⟨i28,rfl,rfl⟩
     refine z6<|ad 11 Z (y3 (cps:=[(0,[_]),(1,[_]),(2,[_]),(3,[_])]) (rs:=[_,_,_,_]) cF Z Z Z)<|aQ 12 Z<|yo (cs:=_) Z Z Z Z<|fun i34=>ze (zb (zc .t2))<|ze (zb (zc .t3))<|ze (zb (zc .t4))<|ze (zb (zc .t4))<|ze (zb (zc .t4))<|z6<|ad 13 Z (fU Z)<|bI ?_
     exact ⟨(i34,i28,b30,b32,i25),db,aK,aH,trivial⟩
   ·refine yb (m:=f.blocks.length) jh Zi Z Z Z Z Z (by simp) (by simp) (by show (24:Int)*_≤_;omega) (by omega) eI 3<|fun b32=>z6<|yr (i:=3) (j:=8) Z Z (by kernel_rfl) ?_ ?_
    ·refine zu Z (zj (.r (.rest _))) (hnear) ?_
     rintro r25 O25 ⟨i25,rfl,rfl⟩
     refine z6<|yr (i:=6) (j:=8) Z Z (by kernel_rfl) ?_ ?_
     ·refine zu Z (zj (.r (.r (.rest _)))) (aP (-1) f.blocks.length (by omega) hpos) ?_
      rintro r28 O28 ⟨i28,rfl,rfl⟩
      refine z6<|aQ 8 Z<|yb (m:=f.blocks.length) jh Zi Z Z Z Z Z (by simp) (by simp) (by show (24:Int)*_≤_;omega) (by omega) eI 3<|fun b30=>z6<|ad 11 Z (y3 (cps:=[(0,[_]),(1,[_]),(2,[_]),(3,[_])]) (rs:=[_,_,_,_]) cF Z Z Z)<|aQ 12 Z<|yo (cs:=_) Z Z Z Z<|fun i34=>ze (zb (zc .t3))<|ze (zb (zc .t4))<|ze (zb (zc .t3))<|ze (zb (zc .t4))<|ze (zb (zc .t4))<|z6<|ad 13 Z (fU Z)<|bI ?_
      exact ⟨(i34,i28,b30,b32,i25),db,aK,aH,trivial⟩
     ·refine yb (m:=f.blocks.length) jh Zi Z Z Z Z Z (by simp) (by simp) (by show (24:Int)*_≤_;omega) (by omega) eI 3<|fun b30=>z6<|aQ 6 Z<|zu Z (zj (.r (.r (.r (.rest _))))) (aP (-1) f.blocks.length (by omega) hpos) ?_
      rintro r28 O28 ⟨i28,rfl,rfl⟩
      refine z6<|ad 11 Z (y3 (cps:=[(0,[_]),(1,[_]),(2,[_]),(3,[_])]) (rs:=[_,_,_,_]) cF Z Z Z)<|aQ 12 Z<|yo (cs:=_) Z Z Z Z<|fun i34=>ze (zb (zc .t3))<|ze (zb (zc .t4))<|ze (zb (zc .t4))<|ze (zb (zc .t4))<|ze (zb (zc .t4))<|z6<|ad 13 Z (fU Z)<|bI ?_
      exact ⟨(i34,i28,b30,b32,i25),db,aK,aH,trivial⟩
    ·refine yb (m:=f.blocks.length) jh Zi Z Z Z Z Z (by simp) (by simp) (by show (24:Int)*_≤_;omega) (by omega) eI 3<|fun b30=>z6<|aQ 3 Z<|zu Z (zj (.r (.r (.rest _)))) (hnear) ?_
     rintro r25 O25 ⟨i25,rfl,rfl⟩
     refine z6<|aQ 6 Z<|zu Z (zj (.r (.r (.r (.rest _))))) (aP (-1) f.blocks.length (by omega) hpos) ?_
     rintro r28 O28 ⟨i28,rfl,rfl⟩
     refine z6<|ad 11 Z (y3 (cps:=[(0,[_]),(1,[_]),(2,[_]),(3,[_])]) (rs:=[_,_,_,_]) cF Z Z Z)<|aQ 12 Z<|yo (cs:=_) Z Z Z Z<|fun i34=>ze (zb (zc .t2))<|ze (zb (zc .t4))<|ze (zb (zc .t4))<|ze (zb (zc .t4))<|ze (zb (zc .t4))<|z6<|ad 13 Z (fU Z)<|bI ?_
     exact ⟨(i34,i28,b30,b32,i25),db,aK,aH,trivial⟩
  ·refine yb (m:=f.blocks.length) jh Zi Z Z Z Z Z (by simp) (by simp) (by show (24:Int)*_≤_;omega) (by omega) eI 3<|fun b30=>z6<|bN.three (i:=3) (j:=4) (m:=10) Z Z Z (by kernel_rfl) ?_ ?_ ?_
   ·refine zu Z (zj (.r (.rest _))) (hnear) ?_
    rintro r25 O25 ⟨i25,rfl,rfl⟩
    refine z6<|yr (i:=4) (j:=10) Z Z (by kernel_rfl) ?_ ?_
    ·refine y4 (rows:=[[_]]) cS Z Z Z Z Z<|z6<|yr (i:=6) (j:=10) Z Z (by kernel_rfl) ?_ ?_
     ·refine zu Z (zj (.r (.r (.rest _)))) (aP (-1) f.blocks.length (by omega) hpos) ?_
      rintro r28 O28 ⟨i28,rfl,rfl⟩
      refine z6<|aQ 10 Z<|yb (m:=f.blocks.length) jh Zi Z Z Z Z Z (by simp) (by simp) (by show (24:Int)*_≤_;omega) (by omega) eI 3<|fun b32=>z6<|ad 11 Z (y3 (cps:=[(0,[_]),(1,[_]),(2,[_]),(3,[_])]) (rs:=[_,_,_,_]) cF Z Z Z)<|aQ 12 Z<|yo (cs:=_) Z Z Z Z<|fun i34=>ze (zb (zc .t3))<|ze (zb (zc .t2))<|ze (zb (zc .t4))<|ze (zb (zc .t4))<|ze (zb (zc .t4))<|z6<|ad 13 Z (fU Z)<|bI ?_
      exact ⟨(i34,i28,b30,b32,i25),db,aK,aH,trivial⟩
     ·refine yb (m:=f.blocks.length) jh Zi Z Z Z Z Z (by simp) (by simp) (by show (24:Int)*_≤_;omega) (by omega) eI 3<|fun b32=>z6<|aQ 6 Z<|zu Z (zj (.r (.r (.r (.rest _))))) (aP (-1) f.blocks.length (by omega) hpos) ?_
      rintro r28 O28 ⟨i28,rfl,rfl⟩
      refine z6<|ad 11 Z (y3 (cps:=[(0,[_]),(1,[_]),(2,[_]),(3,[_])]) (rs:=[_,_,_,_]) cF Z Z Z)<|aQ 12 Z<|yo (cs:=_) Z Z Z Z<|fun i34=>ze (zb (zc .t3))<|ze (zb (zc .t3))<|ze (zb (zc .t4))<|ze (zb (zc .t4))<|ze (zb (zc .t4))<|z6<|ad 13 Z (fU Z)<|bI ?_
      exact ⟨(i34,i28,b30,b32,i25),db,aK,aH,trivial⟩
    ·refine yb (m:=f.blocks.length) jh Zi Z Z Z Z Z (by simp) (by simp) (by show (24:Int)*_≤_;omega) (by omega) eI 3<|fun b32=>z6<|aQ 4 Z<|y4 (rows:=[[_]]) cS Z Z Z Z Z<|z6<|aQ 6 Z<|zu Z (zj (.r (.r (.r (.rest _))))) (aP (-1) f.blocks.length (by omega) hpos) ?_
     rintro r28 O28 ⟨i28,rfl,rfl⟩
     refine z6<|ad 11 Z (y3 (cps:=[(0,[_]),(1,[_]),(2,[_]),(3,[_])]) (rs:=[_,_,_,_]) cF Z Z Z)<|aQ 12 Z<|yo (cs:=_) Z Z Z Z<|fun i34=>ze (zb (zc .t3))<|ze (zb (zc .t3))<|ze (zb (zc .t4))<|ze (zb (zc .t4))<|ze (zb (zc .t4))<|z6<|ad 13 Z (fU Z)<|bI ?_
     exact ⟨(i34,i28,b30,b32,i25),db,aK,aH,trivial⟩
   ·refine y4 (rows:=[[_]]) cS Z Z Z Z Z<|z6<|yr (i:=3) (j:=10) Z Z (by kernel_rfl) ?_ ?_
    ·refine zu Z (zj (.r (.rest _))) (hnear) ?_
     rintro r25 O25 ⟨i25,rfl,rfl⟩
     refine z6<|yr (i:=6) (j:=10) Z Z (by kernel_rfl) ?_ ?_
     ·refine zu Z (zj (.r (.r (.rest _)))) (aP (-1) f.blocks.length (by omega) hpos) ?_
      rintro r28 O28 ⟨i28,rfl,rfl⟩
      refine z6<|aQ 10 Z<|yb (m:=f.blocks.length) jh Zi Z Z Z Z Z (by simp) (by simp) (by show (24:Int)*_≤_;omega) (by omega) eI 3<|fun b32=>z6<|ad 11 Z (y3 (cps:=[(0,[_]),(1,[_]),(2,[_]),(3,[_])]) (rs:=[_,_,_,_]) cF Z Z Z)<|aQ 12 Z<|yo (cs:=_) Z Z Z Z<|fun i34=>ze (zb (zc .t3))<|ze (zb (zc .t2))<|ze (zb (zc .t4))<|ze (zb (zc .t4))<|ze (zb (zc .t4))<|z6<|ad 13 Z (fU Z)<|bI ?_
      exact ⟨(i34,i28,b30,b32,i25),db,aK,aH,trivial⟩
     ·refine yb (m:=f.blocks.length) jh Zi Z Z Z Z Z (by simp) (by simp) (by show (24:Int)*_≤_;omega) (by omega) eI 3<|fun b32=>z6<|aQ 6 Z<|zu Z (zj (.r (.r (.r (.rest _))))) (aP (-1) f.blocks.length (by omega) hpos) ?_
      rintro r28 O28 ⟨i28,rfl,rfl⟩
      refine z6<|ad 11 Z (y3 (cps:=[(0,[_]),(1,[_]),(2,[_]),(3,[_])]) (rs:=[_,_,_,_]) cF Z Z Z)<|aQ 12 Z<|yo (cs:=_) Z Z Z Z<|fun i34=>ze (zb (zc .t3))<|ze (zb (zc .t3))<|ze (zb (zc .t4))<|ze (zb (zc .t4))<|ze (zb (zc .t4))<|z6<|ad 13 Z (fU Z)<|bI ?_
      exact ⟨(i34,i28,b30,b32,i25),db,aK,aH,trivial⟩
    ·refine yb (m:=f.blocks.length) jh Zi Z Z Z Z Z (by simp) (by simp) (by show (24:Int)*_≤_;omega) (by omega) eI 3<|fun b32=>z6<|aQ 3 Z<|zu Z (zj (.r (.r (.rest _)))) (hnear) ?_
     rintro r25 O25 ⟨i25,rfl,rfl⟩
     refine z6<|aQ 6 Z<|zu Z (zj (.r (.r (.r (.rest _))))) (aP (-1) f.blocks.length (by omega) hpos) ?_
     rintro r28 O28 ⟨i28,rfl,rfl⟩
     refine z6<|ad 11 Z (y3 (cps:=[(0,[_]),(1,[_]),(2,[_]),(3,[_])]) (rs:=[_,_,_,_]) cF Z Z Z)<|aQ 12 Z<|yo (cs:=_) Z Z Z Z<|fun i34=>ze (zb (zc .t2))<|ze (zb (zc .t3))<|ze (zb (zc .t4))<|ze (zb (zc .t4))<|ze (zb (zc .t4))<|z6<|ad 13 Z (fU Z)<|bI ?_
     exact ⟨(i34,i28,b30,b32,i25),db,aK,aH,trivial⟩
   ·refine yb (m:=f.blocks.length) jh Zi Z Z Z Z Z (by simp) (by simp) (by show (24:Int)*_≤_;omega) (by omega) eI 3<|fun b32=>z6<|yr (i:=3) (j:=4) Z Z (by kernel_rfl) ?_ ?_
    ·refine zu Z (zj (.r (.r (.rest _)))) (hnear) ?_
     rintro r25 O25 ⟨i25,rfl,rfl⟩
     refine z6<|aQ 4 Z<|y4 (rows:=[[_]]) cS Z Z Z Z Z<|z6<|aQ 6 Z<|zu Z (zj (.r (.r (.r (.rest _))))) (aP (-1) f.blocks.length (by omega) hpos) ?_
     rintro r28 O28 ⟨i28,rfl,rfl⟩
     refine z6<|ad 11 Z (y3 (cps:=[(0,[_]),(1,[_]),(2,[_]),(3,[_])]) (rs:=[_,_,_,_]) cF Z Z Z)<|aQ 12 Z<|yo (cs:=_) Z Z Z Z<|fun i34=>ze (zb (zc .t2))<|ze (zb (zc .t3))<|ze (zb (zc .t4))<|ze (zb (zc .t4))<|ze (zb (zc .t4))<|z6<|ad 13 Z (fU Z)<|bI ?_
     exact ⟨(i34,i28,b30,b32,i25),db,aK,aH,trivial⟩
    ·refine y4 (rows:=[[_]]) cS Z Z Z Z Z<|z6<|aQ 3 Z<|zu Z (zj (.r (.r (.rest _)))) (hnear) ?_
     rintro r25 O25 ⟨i25,rfl,rfl⟩
     refine z6<|aQ 6 Z<|zu Z (zj (.r (.r (.r (.rest _))))) (aP (-1) f.blocks.length (by omega) hpos) ?_
     rintro r28 O28 ⟨i28,rfl,rfl⟩
     refine z6<|ad 11 Z (y3 (cps:=[(0,[_]),(1,[_]),(2,[_]),(3,[_])]) (rs:=[_,_,_,_]) cF Z Z Z)<|aQ 12 Z<|yo (cs:=_) Z Z Z Z<|fun i34=>ze (zb (zc .t2))<|ze (zb (zc .t3))<|ze (zb (zc .t4))<|ze (zb (zc .t4))<|ze (zb (zc .t4))<|z6<|ad 13 Z (fU Z)<|bI ?_
     exact ⟨(i34,i28,b30,b32,i25),db,aK,aH,trivial⟩
  ·refine yb (m:=f.blocks.length) jh Zi Z Z Z Z Z (by simp) (by simp) (by show (24:Int)*_≤_;omega) (by omega) eI 3<|fun b32=>z6<|bN.three (i:=3) (j:=4) (m:=8) Z Z Z (by kernel_rfl) ?_ ?_ ?_
   ·refine zu Z (zj (.r (.rest _))) (hnear) ?_
    rintro r25 O25 ⟨i25,rfl,rfl⟩
    refine z6<|yr (i:=4) (j:=8) Z Z (by kernel_rfl) ?_ ?_
    ·refine y4 (rows:=[[_]]) cS Z Z Z Z Z<|z6<|yr (i:=6) (j:=8) Z Z (by kernel_rfl) ?_ ?_
     ·refine zu Z (zj (.r (.r (.rest _)))) (aP (-1) f.blocks.length (by omega) hpos) ?_
      rintro r28 O28 ⟨i28,rfl,rfl⟩
      refine z6<|aQ 8 Z<|yb (m:=f.blocks.length) jh Zi Z Z Z Z Z (by simp) (by simp) (by show (24:Int)*_≤_;omega) (by omega) eI 3<|fun b30=>z6<|ad 11 Z (y3 (cps:=[(0,[_]),(1,[_]),(2,[_]),(3,[_])]) (rs:=[_,_,_,_]) cF Z Z Z)<|aQ 12 Z<|yo (cs:=_) Z Z Z Z<|fun i34=>ze (zb (zc .t3))<|ze (zb (zc .t4))<|ze (zb (zc .t3))<|ze (zb (zc .t4))<|ze (zb (zc .t4))<|z6<|ad 13 Z (fU Z)<|bI ?_
      exact ⟨(i34,i28,b30,b32,i25),db,aK,aH,trivial⟩
     ·refine yb (m:=f.blocks.length) jh Zi Z Z Z Z Z (by simp) (by simp) (by show (24:Int)*_≤_;omega) (by omega) eI 3<|fun b30=>z6<|aQ 6 Z<|zu Z (zj (.r (.r (.r (.rest _))))) (aP (-1) f.blocks.length (by omega) hpos) ?_
      rintro r28 O28 ⟨i28,rfl,rfl⟩
      refine z6<|ad 11 Z (y3 (cps:=[(0,[_]),(1,[_]),(2,[_]),(3,[_])]) (rs:=[_,_,_,_]) cF Z Z Z)<|aQ 12 Z<|yo (cs:=_) Z Z Z Z<|fun i34=>ze (zb (zc .t3))<|ze (zb (zc .t4))<|ze (zb (zc .t4))<|ze (zb (zc .t4))<|ze (zb (zc .t4))<|z6<|ad 13 Z (fU Z)<|bI ?_
      exact ⟨(i34,i28,b30,b32,i25),db,aK,aH,trivial⟩
    ·refine yb (m:=f.blocks.length) jh Zi Z Z Z Z Z (by simp) (by simp) (by show (24:Int)*_≤_;omega) (by omega) eI 3<|fun b30=>z6<|aQ 4 Z<|y4 (rows:=[[_]]) cS Z Z Z Z Z<|z6<|aQ 6 Z<|zu Z (zj (.r (.r (.r (.rest _))))) (aP (-1) f.blocks.length (by omega) hpos) ?_
     rintro r28 O28 ⟨i28,rfl,rfl⟩
     refine z6<|ad 11 Z (y3 (cps:=[(0,[_]),(1,[_]),(2,[_]),(3,[_])]) (rs:=[_,_,_,_]) cF Z Z Z)<|aQ 12 Z<|yo (cs:=_) Z Z Z Z<|fun i34=>ze (zb (zc .t3))<|ze (zb (zc .t4))<|ze (zb (zc .t4))<|ze (zb (zc .t4))<|ze (zb (zc .t4))<|z6<|ad 13 Z (fU Z)<|bI ?_
     exact ⟨(i34,i28,b30,b32,i25),db,aK,aH,trivial⟩
   ·refine y4 (rows:=[[_]]) cS Z Z Z Z Z<|z6<|yr (i:=3) (j:=8) Z Z (by kernel_rfl) ?_ ?_
    ·refine zu Z (zj (.r (.rest _))) (hnear) ?_
     rintro r25 O25 ⟨i25,rfl,rfl⟩
     refine z6<|yr (i:=6) (j:=8) Z Z (by kernel_rfl) ?_ ?_
     ·refine zu Z (zj (.r (.r (.rest _)))) (aP (-1) f.blocks.length (by omega) hpos) ?_
      rintro r28 O28 ⟨i28,rfl,rfl⟩
      refine z6<|aQ 8 Z<|yb (m:=f.blocks.length) jh Zi Z Z Z Z Z (by simp) (by simp) (by show (24:Int)*_≤_;omega) (by omega) eI 3<|fun b30=>z6<|ad 11 Z (y3 (cps:=[(0,[_]),(1,[_]),(2,[_]),(3,[_])]) (rs:=[_,_,_,_]) cF Z Z Z)<|aQ 12 Z<|yo (cs:=_) Z Z Z Z<|fun i34=>ze (zb (zc .t3))<|ze (zb (zc .t4))<|ze (zb (zc .t3))<|ze (zb (zc .t4))<|ze (zb (zc .t4))<|z6<|ad 13 Z (fU Z)<|bI ?_
      exact ⟨(i34,i28,b30,b32,i25),db,aK,aH,trivial⟩
     ·refine yb (m:=f.blocks.length) jh Zi Z Z Z Z Z (by simp) (by simp) (by show (24:Int)*_≤_;omega) (by omega) eI 3<|fun b30=>z6<|aQ 6 Z<|zu Z (zj (.r (.r (.r (.rest _))))) (aP (-1) f.blocks.length (by omega) hpos) ?_
      rintro r28 O28 ⟨i28,rfl,rfl⟩
      refine z6<|ad 11 Z (y3 (cps:=[(0,[_]),(1,[_]),(2,[_]),(3,[_])]) (rs:=[_,_,_,_]) cF Z Z Z)<|aQ 12 Z<|yo (cs:=_) Z Z Z Z<|fun i34=>ze (zb (zc .t3))<|ze (zb (zc .t4))<|ze (zb (zc .t4))<|ze (zb (zc .t4))<|ze (zb (zc .t4))<|z6<|ad 13 Z (fU Z)<|bI ?_
      exact ⟨(i34,i28,b30,b32,i25),db,aK,aH,trivial⟩
    ·refine yb (m:=f.blocks.length) jh Zi Z Z Z Z Z (by simp) (by simp) (by show (24:Int)*_≤_;omega) (by omega) eI 3<|fun b30=>z6<|aQ 3 Z<|zu Z (zj (.r (.r (.rest _)))) (hnear) ?_
     rintro r25 O25 ⟨i25,rfl,rfl⟩
     refine z6<|aQ 6 Z<|zu Z (zj (.r (.r (.r (.rest _))))) (aP (-1) f.blocks.length (by omega) hpos) ?_
     rintro r28 O28 ⟨i28,rfl,rfl⟩
     refine z6<|ad 11 Z (y3 (cps:=[(0,[_]),(1,[_]),(2,[_]),(3,[_])]) (rs:=[_,_,_,_]) cF Z Z Z)<|aQ 12 Z<|yo (cs:=_) Z Z Z Z<|fun i34=>ze (zb (zc .t2))<|ze (zb (zc .t4))<|ze (zb (zc .t4))<|ze (zb (zc .t4))<|ze (zb (zc .t4))<|z6<|ad 13 Z (fU Z)<|bI ?_
     exact ⟨(i34,i28,b30,b32,i25),db,aK,aH,trivial⟩
   ·refine yb (m:=f.blocks.length) jh Zi Z Z Z Z Z (by simp) (by simp) (by show (24:Int)*_≤_;omega) (by omega) eI 3<|fun b30=>z6<|yr (i:=3) (j:=4) Z Z (by kernel_rfl) ?_ ?_
    ·refine zu Z (zj (.r (.r (.rest _)))) (hnear) ?_
     rintro r25 O25 ⟨i25,rfl,rfl⟩
     refine z6<|aQ 4 Z<|y4 (rows:=[[_]]) cS Z Z Z Z Z<|z6<|aQ 6 Z<|zu Z (zj (.r (.r (.r (.rest _))))) (aP (-1) f.blocks.length (by omega) hpos) ?_
     rintro r28 O28 ⟨i28,rfl,rfl⟩
     refine z6<|ad 11 Z (y3 (cps:=[(0,[_]),(1,[_]),(2,[_]),(3,[_])]) (rs:=[_,_,_,_]) cF Z Z Z)<|aQ 12 Z<|yo (cs:=_) Z Z Z Z<|fun i34=>ze (zb (zc .t2))<|ze (zb (zc .t4))<|ze (zb (zc .t4))<|ze (zb (zc .t4))<|ze (zb (zc .t4))<|z6<|ad 13 Z (fU Z)<|bI ?_
     exact ⟨(i34,i28,b30,b32,i25),db,aK,aH,trivial⟩
    ·refine y4 (rows:=[[_]]) cS Z Z Z Z Z<|z6<|aQ 3 Z<|zu Z (zj (.r (.r (.rest _)))) (hnear) ?_
     rintro r25 O25 ⟨i25,rfl,rfl⟩
     refine z6<|aQ 6 Z<|zu Z (zj (.r (.r (.r (.rest _))))) (aP (-1) f.blocks.length (by omega) hpos) ?_
     rintro r28 O28 ⟨i28,rfl,rfl⟩
     refine z6<|ad 11 Z (y3 (cps:=[(0,[_]),(1,[_]),(2,[_]),(3,[_])]) (rs:=[_,_,_,_]) cF Z Z Z)<|aQ 12 Z<|yo (cs:=_) Z Z Z Z<|fun i34=>ze (zb (zc .t2))<|ze (zb (zc .t4))<|ze (zb (zc .t4))<|ze (zb (zc .t4))<|ze (zb (zc .t4))<|z6<|ad 13 Z (fU Z)<|bI ?_
     exact ⟨(i34,i28,b30,b32,i25),db,aK,aH,trivial⟩
 ·rintro ⟨i34,i28,b30,b32,i25⟩ _
  refine ai<|aJ Z<|ap Z<|za (zf Zc Z j7 (by decide) Z Z)<|za (zo (c:=.own _ _) jf Z ⟨_,.head⟩ Z)<|za (yi (j:=0) wy wz Z Z Z ⟨_,.t1⟩ (by first|rfl|(simp[aD,aN];done)|(simp[aD,aN];omega)) hpos)<|yy (j:=0) wz Z Z .t1 (by first|omega|(simp;omega))<|z6<|zd<|ai<|be Z<|za (Gv.cutLoM (j:=1) wy wz Z Z Z (by omega))<|aq wy Z<|aa Z<|z6<|zm<|y8 (γ:=Nat) [4,5,6,7,41,42] (fun q=>[(43,.int .i64 q)]) (fun q=>[(i34,.cells 130 [.own i25 f.blocks.length,.own i28 f.blocks.length,eh b30 f.blocks.length,eh b32 f.blocks.length]),(i28,.grow 1 3 (cI (gL (ah f) f.blocks.length q))),(0,dv eI 23 3 b30 (List.replicate f.blocks.length [])),(0,dv eI 23 3 b32 (List.replicate f.blocks.length [])),(i25,.grow 1 3 (cI (bh (ah f) f.blocks.length)))]) (fun q=>q≤((aB (ah f) f.blocks.length).drop 1).length∧∀x,-1≤gi (gL (ah f) f.blocks.length q) x∧gi (gL (ah f) f.blocks.length q) x≤q) (fun q=>((aB (ah f) f.blocks.length).drop 1).length - q) 0 aK aH (⟨qw _,fun x=>by rw[show gL (ah f) f.blocks.length 0=fu f.blocks.length from rfl,my hpos];dsimp only;split<;>omega⟩) ?_
  rintro q ⟨hq,hb⟩
  refine ai<|ay Z Z<|z6<|zd<|zt Z (fun cq=>?_) (fun cq=>?_)
  ·have hq2:q<((aB (ah f) f.blocks.length).drop 1).length:=by simpa using cq
   obtain ⟨b,hbe⟩:∃b,((aB (ah f) f.blocks.length).drop 1)[q]=b:=⟨_,rfl⟩
   have hbt:b∈(aB (ah f) f.blocks.length).drop 1:=hbe▸qx hq2
   have hbm:b∈aB (ah f) f.blocks.length:=List.mem_of_mem_drop hbt
   have hb0:=ES hG.toEOk hbt
   obtain ⟨hbp,hbn⟩:=hrng b hbm
   have hnm:=(hG.near_mem hbm hb0).1
   rw[←er hbp hb0] at hnm
   obtain ⟨hnp,hnn⟩:=hrng _ hnm
   have hgN:(bh (ah f) f.blocks.length)[b.toNat]?=some (gi (bh (ah f) f.blocks.length) b):=f5 hbp (by rw[fG];omega)
   have hgL:(gL (ah f) f.blocks.length q)[(gi (bh (ah f) f.blocks.length) b).toNat]?=some (gi (gL (ah f) f.blocks.length q) (gi (bh (ah f) f.blocks.length) b)):=f5 hnp (by rw[sC];omega)
   have hbb:=hb (gi (bh (ah f) f.blocks.length) b)
   have hsucc:gL (ah f) f.blocks.length (q+1)=(gL (ah f) f.blocks.length q).set b.toNat (gi (gL (ah f) f.blocks.length q) (gi (bh (ah f) f.blocks.length) b)+1):=by rw[xr hq2,hbe,er hbp hb0];rfl
   have hlen:=sC (ah f) f.blocks.length q
   have hNl:=fG (ah f) f.blocks.length
   have hql:q≤1000:=by have:((aB (ah f) f.blocks.length).drop 1).length≤(aB (ah f) f.blocks.length).length:=(by simp);omega
   refine zi<|zd<|zm<|ai<|za (bv q wy wz Z Z Z (by rw[qt hq2,hbe])) ?_
   refine aA j6 Z<|ao Z<|z6<|zr (fun j=>Nat.beq j 20) (by kernel_rfl) Z (zj (.r (.l (.l (.l (.r (.rest _)))))))<|ad 0 Z (cJ Z)<|ad 1 Z (zw Z)<|ad 2 Z (zf Zc Z j7 (by decide) Z Z)<|ad 3 Z (zo (c:=.own _ _) jf Z ⟨_,.head⟩ Z)<|ad 4 Z (cD Z)<|ad 5 Z (cJ Z)<|ad 6 Z (zw Z)<|ad 7 Z (zf Zc Z j7 (by decide) Z Z)<|ad 8 Z (zo (c:=.own _ _) jf Z ⟨_,.head⟩ Z)<|ad 9 Z (cJ Z)<|ad 10 Z (zw Z)<|ad 11 Z (zf Zc Z j7 (by decide) Z Z)<|ad 12 Z (zo (c:=.own _ _) jf Z ⟨_,.head⟩ Z)<|ad 13 Z (cD Z)<|ad 14 Z (yi (j:=b.toNat) wy wz Z Z (by omega) ⟨_,.t1⟩ (by first|rfl|(simp[aD,aN];done)|(simp[aD,aN];omega)) (by omega))<|ad 15 Z (yz (j:=b.toNat) j6 Z ⟨_,.t1⟩ hgN)<|aQ 16 Z<|za (yi (j:=(gi (bh (ah f) f.blocks.length) b).toNat) wy wz Z Z (by omega) ⟨_,.head⟩ (by first|rfl|(simp[aD,aN];done)|(simp[aD,aN];omega)) (by omega))<|z6<|aQ 17 Z<|za (yz (j:=(gi (bh (ah f) f.blocks.length) b).toNat) j6 Z ⟨_,.head⟩ hgL)<|z6<|ad 18 Z (wG Z Z)<|aQ 19 Z<|za (yi (j:=b.toNat) wy wz Z Z (by omega) ⟨_,.head⟩ (by first|rfl|(simp[aD,aN];done)|(simp[aD,aN];omega)) (by omega))<|z6<|yf<|yh (i:=20) Z (by kernel_rfl) (by kernel_rfl)<|yy (j:=b.toNat) wz Z Z .t2 (by first|omega|(simp;omega))<|ze (zb (zc .t1))<|ze (zb (zc .t4))<|ze (zb (zc .t4))<|ze (zb (zc .t4))<|ze (zb (zc .t4))<|z6<|ym (by kernel_rfl)<|aW ?_
   refine aE Z Z<|aa Z<|z6 ?_
   exact ⟨q+1,yI,aK,⟨_,(.refl _),by rw[hsucc]⟩,⟨hq2,fun x=>by rw[hsucc,td hbp (by omega)];have:=hb x;split<;>omega⟩,by omega⟩
  ·have hqn:q=((aB (ah f) f.blocks.length).drop 1).length:=by have h0:¬(q:Int)<(((aB (ah f) f.blocks.length).drop 1).length:Int):=(by simpa using cq);omega
   subst hqn
   rw[Bj]
   refine y6<|zd<|ai<|aa Z<|aa Z<|z6<|zm<|y8 (γ:=Nat) [4,6,7,68] (fun k=>[(69,.int .i64 k)]) (fun k=>[(i34,.cells 130 [.own i25 f.blocks.length,.own i28 f.blocks.length,eh b30 f.blocks.length,eh b32 f.blocks.length]),(i28,.grow 1 3 (cI (bO (ah f) f.blocks.length))),(0,dv eI 23 3 b30 (cA f.blocks.length (tz (bh (ah f) f.blocks.length) k))),(0,dv eI 23 3 b32 (List.replicate f.blocks.length [])),(i25,.grow 1 3 (cI (bh (ah f) f.blocks.length)))]) (fun k=>k≤f.blocks.length) (fun k=>f.blocks.length - k) 0 aK ⟨_,(.refl _),by rw[pR];rfl⟩ (qw _) ?_
   rintro k hk
   refine ai<|ay Z Z<|z6<|zd<|zt Z (fun ck=>?_) (fun ck=>?_)
   ·have hk2:k<f.blocks.length:=by simp at ck;omega
    have hNl:=fG (ah f) f.blocks.length
    have hgN:(bh (ah f) f.blocks.length)[k]?=some (gi (bh (ah f) f.blocks.length) (k:Int)):=f5 (x:=(k:Int)) (by omega) (by rw[fG];omega)
    have hel:=ET (bh (ah f) f.blocks.length) k
    refine zi<|zd<|zm<|ai<|aa Z<|ao Z<|z6<|ai<|aJ Z<|ap Z<|za (zf Zc Z j7 (by decide) Z Z)<|za (zo (c:=.own _ _) jf Z ⟨_,.head⟩ Z)<|aa Z<|za (yi (j:=k) wy wz Z Z Z ⟨_,.t4⟩ (by first|rfl|(simp[aD,aN];done)|(simp[aD,aN];omega)) hk2)<|za (yz (j:=k) j6 Z ⟨_,.t4⟩ hgN)<|ao Z<|z6<|ai<|aa Z<|aO Z Z<|z6<|zy Z (fun cn=>?_) (fun cn=>?_)
    ·have hne:gi (bh (ah f) f.blocks.length) (k:Int)≠-1:=by simpa using cn
     have hpm:=(C4 hG (by omega) hne).2
     obtain ⟨hp0,hpn⟩:=hrng _ hpm
     obtain ⟨p,hpe⟩:∃p,gi (bh (ah f) f.blocks.length) (k:Int)=p:=⟨_,rfl⟩
     rw[hpe] at hne hpm hp0 hpn
     have hpl:p.toNat<(cA f.blocks.length (tz (bh (ah f) f.blocks.length) k)).length:=by rw[cN];omega
     have hrl:=jR hpl
     have hsucc:tz (bh (ah f) f.blocks.length) (k+1)=tz (bh (ah f) f.blocks.length) k++[(p,(k:Int))]:=by rw[vn,hpe,if_pos hne]
     rw[hpe]
     refine ye (γ:=Unit) [4,6,7,68,69] (fun u=>[]) (fun u=>[(i34,.cells 130 [.own i25 f.blocks.length,.own i28 f.blocks.length,eh b30 f.blocks.length,eh b32 f.blocks.length]),(i28,.grow 1 3 (cI (bO (ah f) f.blocks.length))),(0,dv eI 23 3 b30 ((cA f.blocks.length (tz (bh (ah f) f.blocks.length) k)).set p.toNat ((cA f.blocks.length (tz (bh (ah f) f.blocks.length) k))[p.toNat]++[(k:Int)]))),(0,dv eI 23 3 b32 (List.replicate f.blocks.length [])),(i25,.grow 1 3 (cI (bh (ah f) f.blocks.length)))]) (fun u=>True) ?_ (fun _ _ h=>h) ?_
     ·refine zr (fun j=>Nat.beq j 16) (by kernel_rfl) Z (zj (.r (.l (.l (.l (.r (.rest _)))))))<|ad 0 Z (cJ Z)<|ad 1 Z (zw Z)<|ad 2 Z (zf Zc Z Xj (by decide) Z Z)<|ad 3 Z (zo (c:=eh _ _) isAgg70 Z ⟨_,.head⟩ Z)<|ad 4 Z (cD Z)<|ad 5 Z (cJ Z)<|ad 6 Z (zw Z)<|ad 7 Z (zf Zc Z Xj (by decide) Z Z)<|ad 8 Z (zo (c:=eh _ _) isAgg70 Z ⟨_,.head⟩ Z)<|ad 9 Z (cD Z)<|ad 10 Z (qp (j:=p.toNat) jh j7 Z Z (by omega) (by omega))<|ad 12 Z (cD Z)<|yr (i:=11) (j:=13) Z Z (by kernel_rfl) ?_ ?_
      ·refine qc (j:=p.toNat) (r:=(cA f.blocks.length (tz (bh (ah f) f.blocks.length) k))[p.toNat]) jf Z (qt hpl) (fun _=>.t1)<|fun i92=>z6<|aQ 13 Z<|y4 (rows:=[[_]]) cS Z Z Z Z Z<|z6<|aQ 14 Z<|yu (k:=1) wy Y1 Z Z Z Z Z (fun _=>.head) (by rw[eI.av_len];rfl) (by decide) Z (by show (_+1)*8≤_;omega) (by show _+1≤_;omega)<|fun i95=>z6<|ad 15 Z (qp (j:=p.toNat) jh j7 Z Z (by omega) (by omega))<|yf<|yh (i:=16) Z (by kernel_rfl) (by kernel_rfl)<|qq (j:=p.toNat) (r:=(cA f.blocks.length (tz (bh (ah f) f.blocks.length) k))[p.toNat]++[(k:Int)]) j7 Z Z (by omega) .t2 .t3 Z (eI.av_push _ _) (by simp)<|ze (zb (zc .t1))<|ze (zb (zc .t4))<|ze (zb (zc .t4))<|ze (zb (zc .t4))<|ze (zb (zc .t4))<|z6<|ym (by kernel_rfl) ?_
       exact ⟨(),nJ,trivial,aH,trivial⟩
      ·refine y4 (rows:=[[_]]) cS Z Z Z Z Z<|z6<|aQ 11 Z<|qc (j:=p.toNat) (r:=(cA f.blocks.length (tz (bh (ah f) f.blocks.length) k))[p.toNat]) jf Z (qt hpl) (fun _=>.t1)<|fun i92=>z6<|aQ 14 Z<|yu (k:=1) wy Y1 Z Z Z Z Z (fun _=>.head) (by rw[eI.av_len];rfl) (by decide) Z (by show (_+1)*8≤_;omega) (by show _+1≤_;omega)<|fun i95=>z6<|ad 15 Z (qp (j:=p.toNat) jh j7 Z Z (by omega) (by omega))<|yf<|yh (i:=16) Z (by kernel_rfl) (by kernel_rfl)<|qq (j:=p.toNat) (r:=(cA f.blocks.length (tz (bh (ah f) f.blocks.length) k))[p.toNat]++[(k:Int)]) j7 Z Z (by omega) .t2 .t3 Z (eI.av_push _ _) (by simp)<|ze (zb (zc .t1))<|ze (zb (zc .t4))<|ze (zb (zc .t4))<|ze (zb (zc .t4))<|ze (zb (zc .t4))<|z6<|ym (by kernel_rfl) ?_
       exact ⟨(),nJ,trivial,aH,trivial⟩
     ·rintro _ _
      refine aW<|aE Z Z<|aa Z<|z6 ?_
      exact ⟨k+1,gH,aK,⟨_,(.refl _),by rw[hsucc,kQ hp0 hpl]⟩,hk2,by omega⟩
    ·have hne:gi (bh (ah f) f.blocks.length) (k:Int)=-1:=by simpa using cn
     have hsucc:tz (bh (ah f) f.blocks.length) (k+1)=tz (bh (ah f) f.blocks.length) k:=by rw[vn,if_neg (by rw[hne];simp)];simp
     refine zi<|aW<|aE Z Z<|aa Z<|z6 ?_
     exact ⟨k+1,gH,aK,⟨_,(.refl _),by rw[hsucc]⟩,hk2,by omega⟩
   ·have hkn:k=f.blocks.length:=by simp at ck;omega
    subst hkn
    refine zz (zb (zc .t4))<|zz (zb (zc .t2))<|zz (zb (zc .t2))<|zz (zb (zc .t4))<|y6<|ai<|aJ Z<|be Z<|be Z<|zu Z (zj (.l (.l (.l (.l (.r (.rest _))))))) (hfr _ _ _ _ 0 _) ?_
    rintro r101 O101 ⟨rfl,fr,hfr2,rfl⟩
    refine z6<|ai<|aJ Z<|za (fU Z)<|ao Z<|z6<|zz (aS.knowIC (off:=0) .t3 .t1 Z (fG _ _))<|zz (aS.knowIC (off:=1) .t2 .t1 Z hG.lev.len)<|zz (aS.nestKnowC (off:=2) .t2 .t1 Z (cN _ _))<|zz (aS.nestKnowC (off:=3) .head .head Z hfr2.1)<|zz (yd (t:=2) Z .head)<|zg<|qd (x:=.pf _) (y:=.int _ _) Z Z ?_
    exact ⟨⟨fr,hfr2,rfl⟩,rfl⟩
def ib (f:ac):AV:=mH f (lG eI (nT f)) .any
theorem vo (f:ac) (hf:small f) (hL:bz E) (ht:bi f=true):aM prog E 33 [.agg (bE f)] (.tup [ib f,.int .i64 0]):=
 (EU f hf hL ht).weak fun x O h=>by
  obtain ⟨⟨fr,hfr,rfl⟩,rfl⟩:=h
  refine ⟨Z,fun I v hv=>?_⟩
  obtain ⟨vs,e,w0,us,e2,h0,hr⟩:=hv
  obtain ⟨b,off,ws,e3,hl,hk⟩:=h0
  obtain ⟨u0,t0,f0,a0,u1,t1,f1,a1,u2,t2,f2,a2,u3,t3,f3,a3,hz⟩:=hl
  exact ⟨vs,e,w0,us,e2,⟨b,off,ws,e3,⟨u0,t0,f0,a0,u1,t1,f1,a1,u2,t2,f2,a2,u3,t3,f3,trivial,hz⟩,hk⟩,hr⟩
end Go.Proofs.YtdilpodccjlkgaaGreatDoor
