/- The tree of what is above what, made. Of programs that are little. -/
import Derived.Test.YtdilpodccjlkgaaGreatDoorLk
set_option linter.unusedVariables false
set_option linter.unusedSimpArgs false
set_option linter.unusedSectionVars false
namespace Go.Proofs.YtdilpodccjlkgaaGreatDoor
open Go.Proofs.Tryz
open Go.Proofs Go.Lib Go.Shelf Go.RowKit
theorem bU:de prog 130 #[(0,1),(1,1),(2,1),(3,1)] [.raw (.slice none 0 0),.raw (.slice none 0 0),.raw (.slice none 0 0),.raw (.slice none 0 0)]:=⟨_,_,Z4,zeroValue130,fun w=>by kernel_rfl,rfl⟩
variable {E:World}
set_option maxRecDepth 20000
def f4 (S:Int→List Int) (n q:Nat):List Int:=(((aA S n).drop 1).take q).foldl (sg (bl S n)) (eK n)
theorem uA {S:Int→List Int} {n q:Nat} (h:q<((aA S n).drop 1).length):f4 S n (q+1)=sg (bl S n) (f4 S n q) ((aA S n).drop 1)[q]:=by
 unfold f4;rw[qj h,List.foldl_append];rfl
theorem w5 (S:Int→List Int) (n:Nat):f4 S n ((aA S n).drop 1).length=bC S n:=by unfold f4 bC;rw[qn,List.drop_one]
theorem pT (S:Int→List Int) (n q:Nat):(f4 S n q).length=n:=by unfold f4;rw[lY (fun l x=>si _ l x),kO]
theorem BF {S:Int→List Int} {n:Nat} (hE:EOk S n) {b:Int} (hb:b∈(aA S n).drop 1):b≠0:=by
 have h1:=kN hE
 have h2:=gF hE
 cases h:aA S n with
 |nil=>rw[h] at h1;simp at h1
 |cons z zs=>
  rw[h] at h1 h2 hb
  simp at h1
  subst h1
  intro e
  subst e
  exact (List.nodup_cons.1 h2).1 (by simpa using hb)
theorem w6 {S:Int→List Int} {n:Nat} (hE:EOk S n):0<(aA S n).length:=by
 have h1:=kN hE
 cases h:aA S n with
 |nil=>rw[h] at h1;simp at h1
 |cons z zs=>simp
def re (N:List Int) (k:Nat):List (Int × Int):=((bh k).filter fun b=>decide (gi N b≠-1)).map fun b=>(gi N b,b)
theorem sT (N:List Int) (k:Nat):re N (k+1)=re N k++if gi N (k:Int)≠-1 then[(gi N (k:Int),(k:Int))] else[]:=by
 unfold re;rw[mn,List.filter_append,qt]
 by_cases h:gi N (k:Int)=-1<;>simp[h]
theorem BG (N:List Int) (k:Nat):(re N k).length≤k:=by
 unfold re;rw[qp];exact Nat.le_trans (List.length_filter_le _ _) (by rw[bI];exact Nat.le_refl _)
def my (f:ad):List (List Int):=bQ f.blocks.length (re (bd (ae f) f.blocks.length) f.blocks.length)
theorem zM {S:Int→List Int} {n:Nat} (hG:fi S n) {b:Int} (h0:0≤b) (hb:gi (bd S n) b≠-1):b∈aA S n∧gi (bd S n) b∈aA S n:=by
 by_cases e:b=0
 ·rw[e,na hG.npos] at hb;exact absurd rfl hb
 ·rw[dS h0 e] at hb ⊢
  have:=hG.exact.inv.mem b hb
  exact ⟨this,(hG.near_mem this e).1⟩
set_option maxHeartbeats 4000000 in
theorem BH (f:ad) (hf:small f) (hL:bn E) (ht:bc f=true):aU prog E 33 [.agg (bD f)] []
  fun r O=>(∃fr,rJ f.blocks.length fr∧r=.tup [lA f (kx eI (my f)) (kx eI fr),.int .i64 0])∧O=[]:=by
 have hE:=cR ht
 have hn:=hf.2.2.1
 have hG:=hE.grph
 have hpos:=hG.npos
 have hol:=eT hG
 have hop:=w6 hG.toEOk
 have hnear:=qZ (E:=E) f hE hn
 have hfr:=fun t a b fb T x=>sS (E:=E) f hE hn t a b fb T x _ (rJ.begin f.blocks.length)
 have hprd:=mw f hf hL ht
 have hord:=sK f hf hL ht
 have hrng:∀z∈aA (ae f) f.blocks.length,0≤z∧z<f.blocks.length:=fun z hz=>cU hG.toEOk hz
 refine zo func33 Z (by decide) Z<|ah<|ya (cs:=_) Z Z Z<|za (iR Z)<|ao Z<|z6<|ah<|ac jj jh Z Z<|zf (hord) Z<|za (oP Z)<|z6<|zd<|ah<|bb Z<|ap wx Z<|ak Z Z<|z6<|ye Z (by simp;exact List.ne_nil_of_length_pos hop)<|zg<|zd<|zt (fun j=>false) (by kernel_rfl) Z (zm (.rest _))<|aj 0 Z (bK je Z Z0 Z Z)<|aj 1 Z (eH Zb Z)<|aj 2 Z (Gv.lenM ji Z)<|aj 3 Z (yt jj jh Z Z)<|aY 4 Z<|zf (hprd) Z<|z6<|aj 5 Z (oZ Z)<|aj 6 Z (oP Z)<|bV<|zd<|yg (γ:=Nat × Nat × Nat × Nat × Nat) [4,5,6] (fun g=>[(7,.po g.1 0)]) (fun g=>[(g.1,.cells 130 [.own g.2.2.2.2 f.blocks.length,.own g.2.1 f.blocks.length,dM g.2.2.1 f.blocks.length,dM g.2.2.2.1 f.blocks.length]),(g.2.1,.grow 1 3 (cI (List.replicate f.blocks.length (-1)))),(0,cP eI 23 3 g.2.2.1 (List.replicate f.blocks.length [])),(0,cP eI 23 3 g.2.2.2.1 (List.replicate f.blocks.length [])),(g.2.2.2.2,.grow 1 3 (cI (bd (ae f) f.blocks.length)))]) (fun g=>True) ?_ (fun _ _ h=>h) ?_
 ·refine zt (fun j=>false) (by kernel_rfl) Z (zm (.rest _))<|aj 0 Z (DN Z)<|aj 1 Z (DN Z)<|aj 2 Z (dF Z)<|aj 5 Z (dF Z)<|aj 7 Z (dF Z)<|aj 9 Z (dF Z)<|bH.four (i:=3) (j:=4) (m:=8) (q:=10) Z Z Z Z (by kernel_rfl) ?_ ?_ ?_ ?_
  ·refine zr Z (zm (.rest _)) (hnear) ?_
   rintro r25 O25 ⟨i25,rfl,rfl⟩
   refine z6<|bH.three (i:=4) (j:=8) (m:=10) Z Z Z (by kernel_rfl) ?_ ?_ ?_
   ·refine y3 (rows:=[[_]]) cf Z Z Z Z Z<|z6<|bH.three (i:=6) (j:=8) (m:=10) Z Z Z (by kernel_rfl) ?_ ?_ ?_
    ·refine zr Z (zm (.r (.rest _))) (aK (-1) f.blocks.length (by omega) hpos) ?_
     rintro r28 O28 ⟨i28,rfl,rfl⟩
     refine z6<|yn (i:=8) (j:=10) Z Z (by kernel_rfl) ?_ ?_
     ·refine y9 (m:=f.blocks.length) jf Za Z Z Z Z Z (by simp) (by simp) (by show (24:Int)*_≤_;omega) (by omega) eI 3<|fun b30=>z6<|aY 10 Z<|y9 (m:=f.blocks.length) jf Za Z Z Z Z Z (by simp) (by simp) (by show (24:Int)*_≤_;omega) (by omega) eI 3<|fun b32=>z6<|aj 11 Z (y4 (cps:=[(0,[_]),(1,[_]),(2,[_]),(3,[_])]) (rs:=[_,_,_,_]) bU Z Z Z)<|aY 12 Z<|yi (cs:=_) Z Z Z Z<|fun i34=>ze (zb (zc .t4))<|ze (zb (zc .t2))<|ze (zb (zc .t3))<|ze (zb (zc .t4))<|ze (zb (zc .t4))<|z6<|aj 13 Z (gk Z)<|bV ?_
      exact ⟨(i34,i28,b30,b32,i25),dy,aJ,aE,trivial⟩
     ·refine y9 (m:=f.blocks.length) jf Za Z Z Z Z Z (by simp) (by simp) (by show (24:Int)*_≤_;omega) (by omega) eI 3<|fun b32=>z6<|aY 8 Z<|y9 (m:=f.blocks.length) jf Za Z Z Z Z Z (by simp) (by simp) (by show (24:Int)*_≤_;omega) (by omega) eI 3<|fun b30=>z6<|aj 11 Z (y4 (cps:=[(0,[_]),(1,[_]),(2,[_]),(3,[_])]) (rs:=[_,_,_,_]) bU Z Z Z)<|aY 12 Z<|yi (cs:=_) Z Z Z Z<|fun i34=>ze (zb (zc .t4))<|ze (zb (zc .t3))<|ze (zb (zc .t3))<|ze (zb (zc .t4))<|ze (zb (zc .t4))<|z6<|aj 13 Z (gk Z)<|bV ?_
      exact ⟨(i34,i28,b30,b32,i25),dy,aJ,aE,trivial⟩
    ·refine y9 (m:=f.blocks.length) jf Za Z Z Z Z Z (by simp) (by simp) (by show (24:Int)*_≤_;omega) (by omega) eI 3<|fun b30=>z6<|yn (i:=6) (j:=10) Z Z (by kernel_rfl) ?_ ?_
     ·refine zr Z (zm (.r (.r (.rest _)))) (aK (-1) f.blocks.length (by omega) hpos) ?_
      rintro r28 O28 ⟨i28,rfl,rfl⟩
      refine z6<|aY 10 Z<|y9 (m:=f.blocks.length) jf Za Z Z Z Z Z (by simp) (by simp) (by show (24:Int)*_≤_;omega) (by omega) eI 3<|fun b32=>z6<|aj 11 Z (y4 (cps:=[(0,[_]),(1,[_]),(2,[_]),(3,[_])]) (rs:=[_,_,_,_]) bU Z Z Z)<|aY 12 Z<|yi (cs:=_) Z Z Z Z<|fun i34=>ze (zb (zc .t4))<|ze (zb (zc .t2))<|ze (zb (zc .t4))<|ze (zb (zc .t4))<|ze (zb (zc .t4))<|z6<|aj 13 Z (gk Z)<|bV ?_
      exact ⟨(i34,i28,b30,b32,i25),dy,aJ,aE,trivial⟩
     ·refine y9 (m:=f.blocks.length) jf Za Z Z Z Z Z (by simp) (by simp) (by show (24:Int)*_≤_;omega) (by omega) eI 3<|fun b32=>z6<|aY 6 Z<|zr Z (zm (.r (.r (.r (.rest _))))) (aK (-1) f.blocks.length (by omega) hpos) ?_
      rintro r28 O28 ⟨i28,rfl,rfl⟩
      refine z6<|aj 11 Z (y4 (cps:=[(0,[_]),(1,[_]),(2,[_]),(3,[_])]) (rs:=[_,_,_,_]) bU Z Z Z)<|aY 12 Z<|yi (cs:=_) Z Z Z Z<|fun i34=>ze (zb (zc .t4))<|ze (zb (zc .t3))<|ze (zb (zc .t4))<|ze (zb (zc .t4))<|ze (zb (zc .t4))<|z6<|aj 13 Z (gk Z)<|bV ?_
      exact ⟨(i34,i28,b30,b32,i25),dy,aJ,aE,trivial⟩
    ·refine y9 (m:=f.blocks.length) jf Za Z Z Z Z Z (by simp) (by simp) (by show (24:Int)*_≤_;omega) (by omega) eI 3<|fun b32=>z6<|yn (i:=6) (j:=8) Z Z (by kernel_rfl) ?_ ?_
     ·refine zr Z (zm (.r (.r (.rest _)))) (aK (-1) f.blocks.length (by omega) hpos) ?_
      rintro r28 O28 ⟨i28,rfl,rfl⟩
      refine z6<|aY 8 Z<|y9 (m:=f.blocks.length) jf Za Z Z Z Z Z (by simp) (by simp) (by show (24:Int)*_≤_;omega) (by omega) eI 3<|fun b30=>z6<|aj 11 Z (y4 (cps:=[(0,[_]),(1,[_]),(2,[_]),(3,[_])]) (rs:=[_,_,_,_]) bU Z Z Z)<|aY 12 Z<|yi (cs:=_) Z Z Z Z<|fun i34=>ze (zb (zc .t4))<|ze (zb (zc .t4))<|ze (zb (zc .t3))<|ze (zb (zc .t4))<|ze (zb (zc .t4))<|z6<|aj 13 Z (gk Z)<|bV ?_
      exact ⟨(i34,i28,b30,b32,i25),dy,aJ,aE,trivial⟩
     ·refine y9 (m:=f.blocks.length) jf Za Z Z Z Z Z (by simp) (by simp) (by show (24:Int)*_≤_;omega) (by omega) eI 3<|fun b30=>z6<|aY 6 Z<|zr Z (zm (.r (.r (.r (.rest _))))) (aK (-1) f.blocks.length (by omega) hpos) ?_
      rintro r28 O28 ⟨i28,rfl,rfl⟩
      refine z6<|aj 11 Z (y4 (cps:=[(0,[_]),(1,[_]),(2,[_]),(3,[_])]) (rs:=[_,_,_,_]) bU Z Z Z)<|aY 12 Z<|yi (cs:=_) Z Z Z Z<|fun i34=>z6<|aj 13 Z (gk Z)<|bV ?_
      exact ⟨(i34,i28,b30,b32,i25),dy,aJ,aE,trivial⟩
   ·refine y9 (m:=f.blocks.length) jf Za Z Z Z Z Z (by simp) (by simp) (by show (24:Int)*_≤_;omega) (by omega) eI 3<|fun b30=>z6<|yn (i:=4) (j:=10) Z Z (by kernel_rfl) ?_ ?_
    ·refine y3 (rows:=[[_]]) cf Z Z Z Z Z<|z6<|yn (i:=6) (j:=10) Z Z (by kernel_rfl) ?_ ?_
     ·refine zr Z (zm (.r (.r (.rest _)))) (aK (-1) f.blocks.length (by omega) hpos) ?_
      rintro r28 O28 ⟨i28,rfl,rfl⟩
      refine z6<|aY 10 Z<|y9 (m:=f.blocks.length) jf Za Z Z Z Z Z (by simp) (by simp) (by show (24:Int)*_≤_;omega) (by omega) eI 3<|fun b32=>z6<|aj 11 Z (y4 (cps:=[(0,[_]),(1,[_]),(2,[_]),(3,[_])]) (rs:=[_,_,_,_]) bU Z Z Z)<|aY 12 Z<|yi (cs:=_) Z Z Z Z<|fun i34=>ze (zb (zc .t4))<|ze (zb (zc .t2))<|ze (zb (zc .t4))<|ze (zb (zc .t4))<|ze (zb (zc .t4))<|z6<|aj 13 Z (gk Z)<|bV ?_
      exact ⟨(i34,i28,b30,b32,i25),dy,aJ,aE,trivial⟩
     ·refine y9 (m:=f.blocks.length) jf Za Z Z Z Z Z (by simp) (by simp) (by show (24:Int)*_≤_;omega) (by omega) eI 3<|fun b32=>z6<|aY 6 Z<|zr Z (zm (.r (.r (.r (.rest _))))) (aK (-1) f.blocks.length (by omega) hpos) ?_
      rintro r28 O28 ⟨i28,rfl,rfl⟩
      refine z6<|aj 11 Z (y4 (cps:=[(0,[_]),(1,[_]),(2,[_]),(3,[_])]) (rs:=[_,_,_,_]) bU Z Z Z)<|aY 12 Z<|yi (cs:=_) Z Z Z Z<|fun i34=>ze (zb (zc .t4))<|ze (zb (zc .t3))<|ze (zb (zc .t4))<|ze (zb (zc .t4))<|ze (zb (zc .t4))<|z6<|aj 13 Z (gk Z)<|bV ?_
      exact ⟨(i34,i28,b30,b32,i25),dy,aJ,aE,trivial⟩
    ·refine y9 (m:=f.blocks.length) jf Za Z Z Z Z Z (by simp) (by simp) (by show (24:Int)*_≤_;omega) (by omega) eI 3<|fun b32=>z6<|aY 4 Z<|y3 (rows:=[[_]]) cf Z Z Z Z Z<|z6<|aY 6 Z<|zr Z (zm (.r (.r (.r (.rest _))))) (aK (-1) f.blocks.length (by omega) hpos) ?_
     rintro r28 O28 ⟨i28,rfl,rfl⟩
     refine z6<|aj 11 Z (y4 (cps:=[(0,[_]),(1,[_]),(2,[_]),(3,[_])]) (rs:=[_,_,_,_]) bU Z Z Z)<|aY 12 Z<|yi (cs:=_) Z Z Z Z<|fun i34=>ze (zb (zc .t4))<|ze (zb (zc .t3))<|ze (zb (zc .t4))<|ze (zb (zc .t4))<|ze (zb (zc .t4))<|z6<|aj 13 Z (gk Z)<|bV ?_
     exact ⟨(i34,i28,b30,b32,i25),dy,aJ,aE,trivial⟩
   ·refine y9 (m:=f.blocks.length) jf Za Z Z Z Z Z (by simp) (by simp) (by show (24:Int)*_≤_;omega) (by omega) eI 3<|fun b32=>z6<|yn (i:=4) (j:=8) Z Z (by kernel_rfl) ?_ ?_
    ·refine y3 (rows:=[[_]]) cf Z Z Z Z Z<|z6<|yn (i:=6) (j:=8) Z Z (by kernel_rfl) ?_ ?_
     ·refine zr Z (zm (.r (.r (.rest _)))) (aK (-1) f.blocks.length (by omega) hpos) ?_
      rintro r28 O28 ⟨i28,rfl,rfl⟩
      refine z6<|aY 8 Z<|y9 (m:=f.blocks.length) jf Za Z Z Z Z Z (by simp) (by simp) (by show (24:Int)*_≤_;omega) (by omega) eI 3<|fun b30=>z6<|aj 11 Z (y4 (cps:=[(0,[_]),(1,[_]),(2,[_]),(3,[_])]) (rs:=[_,_,_,_]) bU Z Z Z)<|aY 12 Z<|yi (cs:=_) Z Z Z Z<|fun i34=>ze (zb (zc .t4))<|ze (zb (zc .t4))<|ze (zb (zc .t3))<|ze (zb (zc .t4))<|ze (zb (zc .t4))<|z6<|aj 13 Z (gk Z)<|bV ?_
      exact ⟨(i34,i28,b30,b32,i25),dy,aJ,aE,trivial⟩
     ·refine y9 (m:=f.blocks.length) jf Za Z Z Z Z Z (by simp) (by simp) (by show (24:Int)*_≤_;omega) (by omega) eI 3<|fun b30=>z6<|aY 6 Z<|zr Z (zm (.r (.r (.r (.rest _))))) (aK (-1) f.blocks.length (by omega) hpos) ?_
      rintro r28 O28 ⟨i28,rfl,rfl⟩
      refine z6<|aj 11 Z (y4 (cps:=[(0,[_]),(1,[_]),(2,[_]),(3,[_])]) (rs:=[_,_,_,_]) bU Z Z Z)<|aY 12 Z<|yi (cs:=_) Z Z Z Z<|fun i34=>z6<|aj 13 Z (gk Z)<|bV ?_
      exact ⟨(i34,i28,b30,b32,i25),dy,aJ,aE,trivial⟩
    ·refine y9 (m:=f.blocks.length) jf Za Z Z Z Z Z (by simp) (by simp) (by show (24:Int)*_≤_;omega) (by omega) eI 3<|fun b30=>z6<|aY 4 Z<|y3 (rows:=[[_]]) cf Z Z Z Z Z<|z6<|aY 6 Z<|zr Z (zm (.r (.r (.r (.rest _))))) (aK (-1) f.blocks.length (by omega) hpos) ?_
     rintro r28 O28 ⟨i28,rfl,rfl⟩
     refine z6<|aj 11 Z (y4 (cps:=[(0,[_]),(1,[_]),(2,[_]),(3,[_])]) (rs:=[_,_,_,_]) bU Z Z Z)<|aY 12 Z<|yi (cs:=_) Z Z Z Z<|fun i34=>z6<|aj 13 Z (gk Z)<|bV ?_
     exact ⟨(i34,i28,b30,b32,i25),dy,aJ,aE,trivial⟩
  ·refine y3 (rows:=[[_]]) cf Z Z Z Z Z<|z6<|bH.three (i:=3) (j:=8) (m:=10) Z Z Z (by kernel_rfl) ?_ ?_ ?_
   ·refine zr Z (zm (.rest _)) (hnear) ?_
    rintro r25 O25 ⟨i25,rfl,rfl⟩
    refine z6<|bH.three (i:=6) (j:=8) (m:=10) Z Z Z (by kernel_rfl) ?_ ?_ ?_
    ·refine zr Z (zm (.r (.rest _))) (aK (-1) f.blocks.length (by omega) hpos) ?_
     rintro r28 O28 ⟨i28,rfl,rfl⟩
     refine z6<|yn (i:=8) (j:=10) Z Z (by kernel_rfl) ?_ ?_
     ·refine y9 (m:=f.blocks.length) jf Za Z Z Z Z Z (by simp) (by simp) (by show (24:Int)*_≤_;omega) (by omega) eI 3<|fun b30=>z6<|aY 10 Z<|y9 (m:=f.blocks.length) jf Za Z Z Z Z Z (by simp) (by simp) (by show (24:Int)*_≤_;omega) (by omega) eI 3<|fun b32=>z6<|aj 11 Z (y4 (cps:=[(0,[_]),(1,[_]),(2,[_]),(3,[_])]) (rs:=[_,_,_,_]) bU Z Z Z)<|aY 12 Z<|yi (cs:=_) Z Z Z Z<|fun i34=>ze (zb (zc .t4))<|ze (zb (zc .t2))<|ze (zb (zc .t3))<|ze (zb (zc .t4))<|ze (zb (zc .t4))<|z6<|aj 13 Z (gk Z)<|bV ?_
      exact ⟨(i34,i28,b30,b32,i25),dy,aJ,aE,trivial⟩
     ·refine y9 (m:=f.blocks.length) jf Za Z Z Z Z Z (by simp) (by simp) (by show (24:Int)*_≤_;omega) (by omega) eI 3<|fun b32=>z6<|aY 8 Z<|y9 (m:=f.blocks.length) jf Za Z Z Z Z Z (by simp) (by simp) (by show (24:Int)*_≤_;omega) (by omega) eI 3<|fun b30=>z6<|aj 11 Z (y4 (cps:=[(0,[_]),(1,[_]),(2,[_]),(3,[_])]) (rs:=[_,_,_,_]) bU Z Z Z)<|aY 12 Z<|yi (cs:=_) Z Z Z Z<|fun i34=>ze (zb (zc .t4))<|ze (zb (zc .t3))<|ze (zb (zc .t3))<|ze (zb (zc .t4))<|ze (zb (zc .t4))<|z6<|aj 13 Z (gk Z)<|bV ?_
      exact ⟨(i34,i28,b30,b32,i25),dy,aJ,aE,trivial⟩
    ·refine y9 (m:=f.blocks.length) jf Za Z Z Z Z Z (by simp) (by simp) (by show (24:Int)*_≤_;omega) (by omega) eI 3<|fun b30=>z6<|yn (i:=6) (j:=10) Z Z (by kernel_rfl) ?_ ?_
     ·refine zr Z (zm (.r (.r (.rest _)))) (aK (-1) f.blocks.length (by omega) hpos) ?_
      rintro r28 O28 ⟨i28,rfl,rfl⟩
      refine z6<|aY 10 Z<|y9 (m:=f.blocks.length) jf Za Z Z Z Z Z (by simp) (by simp) (by show (24:Int)*_≤_;omega) (by omega) eI 3<|fun b32=>z6<|aj 11 Z (y4 (cps:=[(0,[_]),(1,[_]),(2,[_]),(3,[_])]) (rs:=[_,_,_,_]) bU Z Z Z)<|aY 12 Z<|yi (cs:=_) Z Z Z Z<|fun i34=>ze (zb (zc .t4))<|ze (zb (zc .t2))<|ze (zb (zc .t4))<|ze (zb (zc .t4))<|ze (zb (zc .t4))<|z6<|aj 13 Z (gk Z)<|bV ?_
      exact ⟨(i34,i28,b30,b32,i25),dy,aJ,aE,trivial⟩
     ·refine y9 (m:=f.blocks.length) jf Za Z Z Z Z Z (by simp) (by simp) (by show (24:Int)*_≤_;omega) (by omega) eI 3<|fun b32=>z6<|aY 6 Z<|zr Z (zm (.r (.r (.r (.rest _))))) (aK (-1) f.blocks.length (by omega) hpos) ?_
      rintro r28 O28 ⟨i28,rfl,rfl⟩
      refine z6<|aj 11 Z (y4 (cps:=[(0,[_]),(1,[_]),(2,[_]),(3,[_])]) (rs:=[_,_,_,_]) bU Z Z Z)<|aY 12 Z<|yi (cs:=_) Z Z Z Z<|fun i34=>ze (zb (zc .t4))<|ze (zb (zc .t3))<|ze (zb (zc .t4))<|ze (zb (zc .t4))<|ze (zb (zc .t4))<|z6<|aj 13 Z (gk Z)<|bV ?_
      exact ⟨(i34,i28,b30,b32,i25),dy,aJ,aE,trivial⟩
    ·refine y9 (m:=f.blocks.length) jf Za Z Z Z Z Z (by simp) (by simp) (by show (24:Int)*_≤_;omega) (by omega) eI 3<|fun b32=>z6<|yn (i:=6) (j:=8) Z Z (by kernel_rfl) ?_ ?_
     ·refine zr Z (zm (.r (.r (.rest _)))) (aK (-1) f.blocks.length (by omega) hpos) ?_
      rintro r28 O28 ⟨i28,rfl,rfl⟩
      refine z6<|aY 8 Z<|y9 (m:=f.blocks.length) jf Za Z Z Z Z Z (by simp) (by simp) (by show (24:Int)*_≤_;omega) (by omega) eI 3<|fun b30=>z6<|aj 11 Z (y4 (cps:=[(0,[_]),(1,[_]),(2,[_]),(3,[_])]) (rs:=[_,_,_,_]) bU Z Z Z)<|aY 12 Z<|yi (cs:=_) Z Z Z Z<|fun i34=>ze (zb (zc .t4))<|ze (zb (zc .t4))<|ze (zb (zc .t3))<|ze (zb (zc .t4))<|ze (zb (zc .t4))<|z6<|aj 13 Z (gk Z)<|bV ?_
      exact ⟨(i34,i28,b30,b32,i25),dy,aJ,aE,trivial⟩
     ·refine y9 (m:=f.blocks.length) jf Za Z Z Z Z Z (by simp) (by simp) (by show (24:Int)*_≤_;omega) (by omega) eI 3<|fun b30=>z6<|aY 6 Z<|zr Z (zm (.r (.r (.r (.rest _))))) (aK (-1) f.blocks.length (by omega) hpos) ?_
      rintro r28 O28 ⟨i28,rfl,rfl⟩
      refine z6<|aj 11 Z (y4 (cps:=[(0,[_]),(1,[_]),(2,[_]),(3,[_])]) (rs:=[_,_,_,_]) bU Z Z Z)<|aY 12 Z<|yi (cs:=_) Z Z Z Z<|fun i34=>z6<|aj 13 Z (gk Z)<|bV ?_
      exact ⟨(i34,i28,b30,b32,i25),dy,aJ,aE,trivial⟩
   ·refine y9 (m:=f.blocks.length) jf Za Z Z Z Z Z (by simp) (by simp) (by show (24:Int)*_≤_;omega) (by omega) eI 3<|fun b30=>z6<|yn (i:=3) (j:=10) Z Z (by kernel_rfl) ?_ ?_
    ·refine zr Z (zm (.r (.rest _))) (hnear) ?_
     rintro r25 O25 ⟨i25,rfl,rfl⟩
     refine z6<|yn (i:=6) (j:=10) Z Z (by kernel_rfl) ?_ ?_
     ·refine zr Z (zm (.r (.r (.rest _)))) (aK (-1) f.blocks.length (by omega) hpos) ?_
      rintro r28 O28 ⟨i28,rfl,rfl⟩
      refine z6<|aY 10 Z<|y9 (m:=f.blocks.length) jf Za Z Z Z Z Z (by simp) (by simp) (by show (24:Int)*_≤_;omega) (by omega) eI 3<|fun b32=>z6<|aj 11 Z (y4 (cps:=[(0,[_]),(1,[_]),(2,[_]),(3,[_])]) (rs:=[_,_,_,_]) bU Z Z Z)<|aY 12 Z<|yi (cs:=_) Z Z Z Z<|fun i34=>ze (zb (zc .t3))<|ze (zb (zc .t2))<|ze (zb (zc .t4))<|ze (zb (zc .t4))<|ze (zb (zc .t4))<|z6<|aj 13 Z (gk Z)<|bV ?_
      exact ⟨(i34,i28,b30,b32,i25),dy,aJ,aE,trivial⟩
     ·refine y9 (m:=f.blocks.length) jf Za Z Z Z Z Z (by simp) (by simp) (by show (24:Int)*_≤_;omega) (by omega) eI 3<|fun b32=>z6<|aY 6 Z<|zr Z (zm (.r (.r (.r (.rest _))))) (aK (-1) f.blocks.length (by omega) hpos) ?_
      rintro r28 O28 ⟨i28,rfl,rfl⟩
      refine z6<|aj 11 Z (y4 (cps:=[(0,[_]),(1,[_]),(2,[_]),(3,[_])]) (rs:=[_,_,_,_]) bU Z Z Z)<|aY 12 Z<|yi (cs:=_) Z Z Z Z<|fun i34=>ze (zb (zc .t3))<|ze (zb (zc .t3))<|ze (zb (zc .t4))<|ze (zb (zc .t4))<|ze (zb (zc .t4))<|z6<|aj 13 Z (gk Z)<|bV ?_
      exact ⟨(i34,i28,b30,b32,i25),dy,aJ,aE,trivial⟩
    ·refine y9 (m:=f.blocks.length) jf Za Z Z Z Z Z (by simp) (by simp) (by show (24:Int)*_≤_;omega) (by omega) eI 3<|fun b32=>z6<|aY 3 Z<|zr Z (zm (.r (.r (.rest _)))) (hnear) ?_
     rintro r25 O25 ⟨i25,rfl,rfl⟩
     refine z6<|aY 6 Z<|zr Z (zm (.r (.r (.r (.rest _))))) (aK (-1) f.blocks.length (by omega) hpos) ?_
     rintro r28 O28 ⟨i28,rfl,rfl⟩
     refine z6<|aj 11 Z (y4 (cps:=[(0,[_]),(1,[_]),(2,[_]),(3,[_])]) (rs:=[_,_,_,_]) bU Z Z Z)<|aY 12 Z<|yi (cs:=_) Z Z Z Z<|fun i34=>ze (zb (zc .t2))<|ze (zb (zc .t3))<|ze (zb (zc .t4))<|ze (zb (zc .t4))<|ze (zb (zc .t4))<|z6<|aj 13 Z (gk Z)<|bV ?_
     exact ⟨(i34,i28,b30,b32,i25),dy,aJ,aE,trivial⟩
   ·refine y9 (m:=f.blocks.length) jf Za Z Z Z Z Z (by simp) (by simp) (by show (24:Int)*_≤_;omega) (by omega) eI 3<|fun b32=>z6<|yn (i:=3) (j:=8) Z Z (by kernel_rfl) ?_ ?_
    ·refine zr Z (zm (.r (.rest _))) (hnear) ?_
     rintro r25 O25 ⟨i25,rfl,rfl⟩
     refine z6<|yn (i:=6) (j:=8) Z Z (by kernel_rfl) ?_ ?_
     ·refine zr Z (zm (.r (.r (.rest _)))) (aK (-1) f.blocks.length (by omega) hpos) ?_
      rintro r28 O28 ⟨i28,rfl,rfl⟩
      refine z6<|aY 8 Z<|y9 (m:=f.blocks.length) jf Za Z Z Z Z Z (by simp) (by simp) (by show (24:Int)*_≤_;omega) (by omega) eI 3<|fun b30=>z6<|aj 11 Z (y4 (cps:=[(0,[_]),(1,[_]),(2,[_]),(3,[_])]) (rs:=[_,_,_,_]) bU Z Z Z)<|aY 12 Z<|yi (cs:=_) Z Z Z Z<|fun i34=>ze (zb (zc .t3))<|ze (zb (zc .t4))<|ze (zb (zc .t3))<|ze (zb (zc .t4))<|ze (zb (zc .t4))<|z6<|aj 13 Z (gk Z)<|bV ?_
      exact ⟨(i34,i28,b30,b32,i25),dy,aJ,aE,trivial⟩
     ·refine y9 (m:=f.blocks.length) jf Za Z Z Z Z Z (by simp) (by simp) (by show (24:Int)*_≤_;omega) (by omega) eI 3<|fun b30=>z6<|aY 6 Z<|zr Z (zm (.r (.r (.r (.rest _))))) (aK (-1) f.blocks.length (by omega) hpos) ?_
      rintro r28 O28 ⟨i28,rfl,rfl⟩
      refine z6<|aj 11 Z (y4 (cps:=[(0,[_]),(1,[_]),(2,[_]),(3,[_])]) (rs:=[_,_,_,_]) bU Z Z Z)<|aY 12 Z<|yi (cs:=_) Z Z Z Z<|fun i34=>ze (zb (zc .t3))<|ze (zb (zc .t4))<|ze (zb (zc .t4))<|ze (zb (zc .t4))<|ze (zb (zc .t4))<|z6<|aj 13 Z (gk Z)<|bV ?_
      exact ⟨(i34,i28,b30,b32,i25),dy,aJ,aE,trivial⟩
    ·refine y9 (m:=f.blocks.length) jf Za Z Z Z Z Z (by simp) (by simp) (by show (24:Int)*_≤_;omega) (by omega) eI 3<|fun b30=>z6<|aY 3 Z<|zr Z (zm (.r (.r (.rest _)))) (hnear) ?_
     rintro r25 O25 ⟨i25,rfl,rfl⟩
     refine z6<|aY 6 Z<|zr Z (zm (.r (.r (.r (.rest _))))) (aK (-1) f.blocks.length (by omega) hpos) ?_
     rintro r28 O28 ⟨i28,rfl,rfl⟩
     refine z6<|aj 11 Z (y4 (cps:=[(0,[_]),(1,[_]),(2,[_]),(3,[_])]) (rs:=[_,_,_,_]) bU Z Z Z)<|aY 12 Z<|yi (cs:=_) Z Z Z Z<|fun i34=>ze (zb (zc .t2))<|ze (zb (zc .t4))<|ze (zb (zc .t4))<|ze (zb (zc .t4))<|ze (zb (zc .t4))<|z6<|aj 13 Z (gk Z)<|bV ?_
     exact ⟨(i34,i28,b30,b32,i25),dy,aJ,aE,trivial⟩
  ·refine y9 (m:=f.blocks.length) jf Za Z Z Z Z Z (by simp) (by simp) (by show (24:Int)*_≤_;omega) (by omega) eI 3<|fun b30=>z6<|bH.three (i:=3) (j:=4) (m:=10) Z Z Z (by kernel_rfl) ?_ ?_ ?_
   ·refine zr Z (zm (.r (.rest _))) (hnear) ?_
    rintro r25 O25 ⟨i25,rfl,rfl⟩
    refine z6<|yn (i:=4) (j:=10) Z Z (by kernel_rfl) ?_ ?_
    ·refine y3 (rows:=[[_]]) cf Z Z Z Z Z<|z6<|yn (i:=6) (j:=10) Z Z (by kernel_rfl) ?_ ?_
     ·refine zr Z (zm (.r (.r (.rest _)))) (aK (-1) f.blocks.length (by omega) hpos) ?_
      rintro r28 O28 ⟨i28,rfl,rfl⟩
      refine z6<|aY 10 Z<|y9 (m:=f.blocks.length) jf Za Z Z Z Z Z (by simp) (by simp) (by show (24:Int)*_≤_;omega) (by omega) eI 3<|fun b32=>z6<|aj 11 Z (y4 (cps:=[(0,[_]),(1,[_]),(2,[_]),(3,[_])]) (rs:=[_,_,_,_]) bU Z Z Z)<|aY 12 Z<|yi (cs:=_) Z Z Z Z<|fun i34=>ze (zb (zc .t3))<|ze (zb (zc .t2))<|ze (zb (zc .t4))<|ze (zb (zc .t4))<|ze (zb (zc .t4))<|z6<|aj 13 Z (gk Z)<|bV ?_
      exact ⟨(i34,i28,b30,b32,i25),dy,aJ,aE,trivial⟩
     ·refine y9 (m:=f.blocks.length) jf Za Z Z Z Z Z (by simp) (by simp) (by show (24:Int)*_≤_;omega) (by omega) eI 3<|fun b32=>z6<|aY 6 Z<|zr Z (zm (.r (.r (.r (.rest _))))) (aK (-1) f.blocks.length (by omega) hpos) ?_
      rintro r28 O28 ⟨i28,rfl,rfl⟩
      refine z6<|aj 11 Z (y4 (cps:=[(0,[_]),(1,[_]),(2,[_]),(3,[_])]) (rs:=[_,_,_,_]) bU Z Z Z)<|aY 12 Z<|yi (cs:=_) Z Z Z Z<|fun i34=>ze (zb (zc .t3))<|ze (zb (zc .t3))<|ze (zb (zc .t4))<|ze (zb (zc .t4))<|ze (zb (zc .t4))<|z6<|aj 13 Z (gk Z)<|bV ?_
      exact ⟨(i34,i28,b30,b32,i25),dy,aJ,aE,trivial⟩
    ·refine y9 (m:=f.blocks.length) jf Za Z Z Z Z Z (by simp) (by simp) (by show (24:Int)*_≤_;omega) (by omega) eI 3<|fun b32=>z6<|aY 4 Z<|y3 (rows:=[[_]]) cf Z Z Z Z Z<|z6<|aY 6 Z<|zr Z (zm (.r (.r (.r (.rest _))))) (aK (-1) f.blocks.length (by omega) hpos) ?_
     rintro r28 O28 ⟨i28,rfl,rfl⟩
     refine z6<|aj 11 Z (y4 (cps:=[(0,[_]),(1,[_]),(2,[_]),(3,[_])]) (rs:=[_,_,_,_]) bU Z Z Z)<|aY 12 Z<|yi (cs:=_) Z Z Z Z<|fun i34=>ze (zb (zc .t3))<|ze (zb (zc .t3))<|ze (zb (zc .t4))<|ze (zb (zc .t4))<|ze (zb (zc .t4))<|z6<|aj 13 Z (gk Z)<|bV ?_
     exact ⟨(i34,i28,b30,b32,i25),dy,aJ,aE,trivial⟩
   ·refine y3 (rows:=[[_]]) cf Z Z Z Z Z<|z6<|yn (i:=3) (j:=10) Z Z (by kernel_rfl) ?_ ?_
    ·refine zr Z (zm (.r (.rest _))) (hnear) ?_
     rintro r25 O25 ⟨i25,rfl,rfl⟩
     refine z6<|yn (i:=6) (j:=10) Z Z (by kernel_rfl) ?_ ?_
     ·refine zr Z (zm (.r (.r (.rest _)))) (aK (-1) f.blocks.length (by omega) hpos) ?_
      rintro r28 O28 ⟨i28,rfl,rfl⟩
      refine z6<|aY 10 Z<|y9 (m:=f.blocks.length) jf Za Z Z Z Z Z (by simp) (by simp) (by show (24:Int)*_≤_;omega) (by omega) eI 3<|fun b32=>z6<|aj 11 Z (y4 (cps:=[(0,[_]),(1,[_]),(2,[_]),(3,[_])]) (rs:=[_,_,_,_]) bU Z Z Z)<|aY 12 Z<|yi (cs:=_) Z Z Z Z<|fun i34=>ze (zb (zc .t3))<|ze (zb (zc .t2))<|ze (zb (zc .t4))<|ze (zb (zc .t4))<|ze (zb (zc .t4))<|z6<|aj 13 Z (gk Z)<|bV ?_
      exact ⟨(i34,i28,b30,b32,i25),dy,aJ,aE,trivial⟩
     ·refine y9 (m:=f.blocks.length) jf Za Z Z Z Z Z (by simp) (by simp) (by show (24:Int)*_≤_;omega) (by omega) eI 3<|fun b32=>z6<|aY 6 Z<|zr Z (zm (.r (.r (.r (.rest _))))) (aK (-1) f.blocks.length (by omega) hpos) ?_
      rintro r28 O28 ⟨i28,rfl,rfl⟩
      refine z6<|aj 11 Z (y4 (cps:=[(0,[_]),(1,[_]),(2,[_]),(3,[_])]) (rs:=[_,_,_,_]) bU Z Z Z)<|aY 12 Z<|yi (cs:=_) Z Z Z Z<|fun i34=>ze (zb (zc .t3))<|ze (zb (zc .t3))<|ze (zb (zc .t4))<|ze (zb (zc .t4))<|ze (zb (zc .t4))<|z6<|aj 13 Z (gk Z)<|bV ?_
      exact ⟨(i34,i28,b30,b32,i25),dy,aJ,aE,trivial⟩
    ·refine y9 (m:=f.blocks.length) jf Za Z Z Z Z Z (by simp) (by simp) (by show (24:Int)*_≤_;omega) (by omega) eI 3<|fun b32=>z6<|aY 3 Z<|zr Z (zm (.r (.r (.rest _)))) (hnear) ?_
     rintro r25 O25 ⟨i25,rfl,rfl⟩
     refine z6<|aY 6 Z<|zr Z (zm (.r (.r (.r (.rest _))))) (aK (-1) f.blocks.length (by omega) hpos) ?_
     rintro r28 O28 ⟨i28,rfl,rfl⟩
     refine z6<|aj 11 Z (y4 (cps:=[(0,[_]),(1,[_]),(2,[_]),(3,[_])]) (rs:=[_,_,_,_]) bU Z Z Z)<|aY 12 Z<|yi (cs:=_) Z Z Z Z<|fun i34=>ze (zb (zc .t2))<|ze (zb (zc .t3))<|ze (zb (zc .t4))<|ze (zb (zc .t4))<|ze (zb (zc .t4))<|z6<|aj 13 Z (gk Z)<|bV ?_
     exact ⟨(i34,i28,b30,b32,i25),dy,aJ,aE,trivial⟩
   ·refine y9 (m:=f.blocks.length) jf Za Z Z Z Z Z (by simp) (by simp) (by show (24:Int)*_≤_;omega) (by omega) eI 3<|fun b32=>z6<|yn (i:=3) (j:=4) Z Z (by kernel_rfl) ?_ ?_
    ·refine zr Z (zm (.r (.r (.rest _)))) (hnear) ?_
     rintro r25 O25 ⟨i25,rfl,rfl⟩
     refine z6<|aY 4 Z<|y3 (rows:=[[_]]) cf Z Z Z Z Z<|z6<|aY 6 Z<|zr Z (zm (.r (.r (.r (.rest _))))) (aK (-1) f.blocks.length (by omega) hpos) ?_
     rintro r28 O28 ⟨i28,rfl,rfl⟩
     refine z6<|aj 11 Z (y4 (cps:=[(0,[_]),(1,[_]),(2,[_]),(3,[_])]) (rs:=[_,_,_,_]) bU Z Z Z)<|aY 12 Z<|yi (cs:=_) Z Z Z Z<|fun i34=>ze (zb (zc .t2))<|ze (zb (zc .t3))<|ze (zb (zc .t4))<|ze (zb (zc .t4))<|ze (zb (zc .t4))<|z6<|aj 13 Z (gk Z)<|bV ?_
     exact ⟨(i34,i28,b30,b32,i25),dy,aJ,aE,trivial⟩
    ·refine y3 (rows:=[[_]]) cf Z Z Z Z Z<|z6<|aY 3 Z<|zr Z (zm (.r (.r (.rest _)))) (hnear) ?_
     rintro r25 O25 ⟨i25,rfl,rfl⟩
     refine z6<|aY 6 Z<|zr Z (zm (.r (.r (.r (.rest _))))) (aK (-1) f.blocks.length (by omega) hpos) ?_
     rintro r28 O28 ⟨i28,rfl,rfl⟩
     refine z6<|aj 11 Z (y4 (cps:=[(0,[_]),(1,[_]),(2,[_]),(3,[_])]) (rs:=[_,_,_,_]) bU Z Z Z)<|aY 12 Z<|yi (cs:=_) Z Z Z Z<|fun i34=>ze (zb (zc .t2))<|ze (zb (zc .t3))<|ze (zb (zc .t4))<|ze (zb (zc .t4))<|ze (zb (zc .t4))<|z6<|aj 13 Z (gk Z)<|bV ?_
     exact ⟨(i34,i28,b30,b32,i25),dy,aJ,aE,trivial⟩
  ·refine y9 (m:=f.blocks.length) jf Za Z Z Z Z Z (by simp) (by simp) (by show (24:Int)*_≤_;omega) (by omega) eI 3<|fun b32=>z6<|bH.three (i:=3) (j:=4) (m:=8) Z Z Z (by kernel_rfl) ?_ ?_ ?_
   ·refine zr Z (zm (.r (.rest _))) (hnear) ?_
    rintro r25 O25 ⟨i25,rfl,rfl⟩
    refine z6<|yn (i:=4) (j:=8) Z Z (by kernel_rfl) ?_ ?_
    ·refine y3 (rows:=[[_]]) cf Z Z Z Z Z<|z6<|yn (i:=6) (j:=8) Z Z (by kernel_rfl) ?_ ?_
     ·refine zr Z (zm (.r (.r (.rest _)))) (aK (-1) f.blocks.length (by omega) hpos) ?_
      rintro r28 O28 ⟨i28,rfl,rfl⟩
      refine z6<|aY 8 Z<|y9 (m:=f.blocks.length) jf Za Z Z Z Z Z (by simp) (by simp) (by show (24:Int)*_≤_;omega) (by omega) eI 3<|fun b30=>z6<|aj 11 Z (y4 (cps:=[(0,[_]),(1,[_]),(2,[_]),(3,[_])]) (rs:=[_,_,_,_]) bU Z Z Z)<|aY 12 Z<|yi (cs:=_) Z Z Z Z<|fun i34=>ze (zb (zc .t3))<|ze (zb (zc .t4))<|ze (zb (zc .t3))<|ze (zb (zc .t4))<|ze (zb (zc .t4))<|z6<|aj 13 Z (gk Z)<|bV ?_
      exact ⟨(i34,i28,b30,b32,i25),dy,aJ,aE,trivial⟩
     ·refine y9 (m:=f.blocks.length) jf Za Z Z Z Z Z (by simp) (by simp) (by show (24:Int)*_≤_;omega) (by omega) eI 3<|fun b30=>z6<|aY 6 Z<|zr Z (zm (.r (.r (.r (.rest _))))) (aK (-1) f.blocks.length (by omega) hpos) ?_
      rintro r28 O28 ⟨i28,rfl,rfl⟩
      refine z6<|aj 11 Z (y4 (cps:=[(0,[_]),(1,[_]),(2,[_]),(3,[_])]) (rs:=[_,_,_,_]) bU Z Z Z)<|aY 12 Z<|yi (cs:=_) Z Z Z Z<|fun i34=>ze (zb (zc .t3))<|ze (zb (zc .t4))<|ze (zb (zc .t4))<|ze (zb (zc .t4))<|ze (zb (zc .t4))<|z6<|aj 13 Z (gk Z)<|bV ?_
      exact ⟨(i34,i28,b30,b32,i25),dy,aJ,aE,trivial⟩
    ·refine y9 (m:=f.blocks.length) jf Za Z Z Z Z Z (by simp) (by simp) (by show (24:Int)*_≤_;omega) (by omega) eI 3<|fun b30=>z6<|aY 4 Z<|y3 (rows:=[[_]]) cf Z Z Z Z Z<|z6<|aY 6 Z<|zr Z (zm (.r (.r (.r (.rest _))))) (aK (-1) f.blocks.length (by omega) hpos) ?_
     rintro r28 O28 ⟨i28,rfl,rfl⟩
     refine z6<|aj 11 Z (y4 (cps:=[(0,[_]),(1,[_]),(2,[_]),(3,[_])]) (rs:=[_,_,_,_]) bU Z Z Z)<|aY 12 Z<|yi (cs:=_) Z Z Z Z<|fun i34=>ze (zb (zc .t3))<|ze (zb (zc .t4))<|ze (zb (zc .t4))<|ze (zb (zc .t4))<|ze (zb (zc .t4))<|z6<|aj 13 Z (gk Z)<|bV ?_
     exact ⟨(i34,i28,b30,b32,i25),dy,aJ,aE,trivial⟩
   ·refine y3 (rows:=[[_]]) cf Z Z Z Z Z<|z6<|yn (i:=3) (j:=8) Z Z (by kernel_rfl) ?_ ?_
    ·refine zr Z (zm (.r (.rest _))) (hnear) ?_
     rintro r25 O25 ⟨i25,rfl,rfl⟩
     refine z6<|yn (i:=6) (j:=8) Z Z (by kernel_rfl) ?_ ?_
     ·refine zr Z (zm (.r (.r (.rest _)))) (aK (-1) f.blocks.length (by omega) hpos) ?_
      rintro r28 O28 ⟨i28,rfl,rfl⟩
      refine z6<|aY 8 Z<|y9 (m:=f.blocks.length) jf Za Z Z Z Z Z (by simp) (by simp) (by show (24:Int)*_≤_;omega) (by omega) eI 3<|fun b30=>z6<|aj 11 Z (y4 (cps:=[(0,[_]),(1,[_]),(2,[_]),(3,[_])]) (rs:=[_,_,_,_]) bU Z Z Z)<|aY 12 Z<|yi (cs:=_) Z Z Z Z<|fun i34=>ze (zb (zc .t3))<|ze (zb (zc .t4))<|ze (zb (zc .t3))<|ze (zb (zc .t4))<|ze (zb (zc .t4))<|z6<|aj 13 Z (gk Z)<|bV ?_
      exact ⟨(i34,i28,b30,b32,i25),dy,aJ,aE,trivial⟩
     ·refine y9 (m:=f.blocks.length) jf Za Z Z Z Z Z (by simp) (by simp) (by show (24:Int)*_≤_;omega) (by omega) eI 3<|fun b30=>z6<|aY 6 Z<|zr Z (zm (.r (.r (.r (.rest _))))) (aK (-1) f.blocks.length (by omega) hpos) ?_
      rintro r28 O28 ⟨i28,rfl,rfl⟩
      refine z6<|aj 11 Z (y4 (cps:=[(0,[_]),(1,[_]),(2,[_]),(3,[_])]) (rs:=[_,_,_,_]) bU Z Z Z)<|aY 12 Z<|yi (cs:=_) Z Z Z Z<|fun i34=>ze (zb (zc .t3))<|ze (zb (zc .t4))<|ze (zb (zc .t4))<|ze (zb (zc .t4))<|ze (zb (zc .t4))<|z6<|aj 13 Z (gk Z)<|bV ?_
      exact ⟨(i34,i28,b30,b32,i25),dy,aJ,aE,trivial⟩
    ·refine y9 (m:=f.blocks.length) jf Za Z Z Z Z Z (by simp) (by simp) (by show (24:Int)*_≤_;omega) (by omega) eI 3<|fun b30=>z6<|aY 3 Z<|zr Z (zm (.r (.r (.rest _)))) (hnear) ?_
     rintro r25 O25 ⟨i25,rfl,rfl⟩
     refine z6<|aY 6 Z<|zr Z (zm (.r (.r (.r (.rest _))))) (aK (-1) f.blocks.length (by omega) hpos) ?_
     rintro r28 O28 ⟨i28,rfl,rfl⟩
     refine z6<|aj 11 Z (y4 (cps:=[(0,[_]),(1,[_]),(2,[_]),(3,[_])]) (rs:=[_,_,_,_]) bU Z Z Z)<|aY 12 Z<|yi (cs:=_) Z Z Z Z<|fun i34=>ze (zb (zc .t2))<|ze (zb (zc .t4))<|ze (zb (zc .t4))<|ze (zb (zc .t4))<|ze (zb (zc .t4))<|z6<|aj 13 Z (gk Z)<|bV ?_
     exact ⟨(i34,i28,b30,b32,i25),dy,aJ,aE,trivial⟩
   ·refine y9 (m:=f.blocks.length) jf Za Z Z Z Z Z (by simp) (by simp) (by show (24:Int)*_≤_;omega) (by omega) eI 3<|fun b30=>z6<|yn (i:=3) (j:=4) Z Z (by kernel_rfl) ?_ ?_
    ·refine zr Z (zm (.r (.r (.rest _)))) (hnear) ?_
     rintro r25 O25 ⟨i25,rfl,rfl⟩
     refine z6<|aY 4 Z<|y3 (rows:=[[_]]) cf Z Z Z Z Z<|z6<|aY 6 Z<|zr Z (zm (.r (.r (.r (.rest _))))) (aK (-1) f.blocks.length (by omega) hpos) ?_
     rintro r28 O28 ⟨i28,rfl,rfl⟩
     refine z6<|aj 11 Z (y4 (cps:=[(0,[_]),(1,[_]),(2,[_]),(3,[_])]) (rs:=[_,_,_,_]) bU Z Z Z)<|aY 12 Z<|yi (cs:=_) Z Z Z Z<|fun i34=>ze (zb (zc .t2))<|ze (zb (zc .t4))<|ze (zb (zc .t4))<|ze (zb (zc .t4))<|ze (zb (zc .t4))<|z6<|aj 13 Z (gk Z)<|bV ?_
     exact ⟨(i34,i28,b30,b32,i25),dy,aJ,aE,trivial⟩
    ·refine y3 (rows:=[[_]]) cf Z Z Z Z Z<|z6<|aY 3 Z<|zr Z (zm (.r (.r (.rest _)))) (hnear) ?_
     rintro r25 O25 ⟨i25,rfl,rfl⟩
     refine z6<|aY 6 Z<|zr Z (zm (.r (.r (.r (.rest _))))) (aK (-1) f.blocks.length (by omega) hpos) ?_
     rintro r28 O28 ⟨i28,rfl,rfl⟩
     refine z6<|aj 11 Z (y4 (cps:=[(0,[_]),(1,[_]),(2,[_]),(3,[_])]) (rs:=[_,_,_,_]) bU Z Z Z)<|aY 12 Z<|yi (cs:=_) Z Z Z Z<|fun i34=>ze (zb (zc .t2))<|ze (zb (zc .t4))<|ze (zb (zc .t4))<|ze (zb (zc .t4))<|ze (zb (zc .t4))<|z6<|aj 13 Z (gk Z)<|bV ?_
     exact ⟨(i34,i28,b30,b32,i25),dy,aJ,aE,trivial⟩
 ·rintro ⟨i34,i28,b30,b32,i25⟩ _
  refine ah<|aR Z<|az Z<|za (zn Z4 Z j5 (by decide) Z Z)<|za (zq (c:=.own _ _) j9 Z ⟨_,.head⟩ Z)<|za (yu (j:=0) wx wz Z Z Z ⟨_,.t1⟩ (by first|rfl|(simp[aQ,aS];done)|(simp[aQ,aS];omega)) hpos)<|ax.storeI (j:=0) wz Z Z .t1 (by first|omega|(simp;omega))<|z6<|zd<|ah<|bb Z<|za (Gv.cutLoM (j:=1) wx wz Z Z Z (by omega))<|ap wx Z<|aa Z<|z6<|zj<|y8 (γ:=Nat) [4,5,6,7,41,42] (fun q=>[(43,.int .i64 q)]) (fun q=>[(i34,.cells 130 [.own i25 f.blocks.length,.own i28 f.blocks.length,dM b30 f.blocks.length,dM b32 f.blocks.length]),(i28,.grow 1 3 (cI (f4 (ae f) f.blocks.length q))),(0,cP eI 23 3 b30 (List.replicate f.blocks.length [])),(0,cP eI 23 3 b32 (List.replicate f.blocks.length [])),(i25,.grow 1 3 (cI (bd (ae f) f.blocks.length)))]) (fun q=>q≤((aA (ae f) f.blocks.length).drop 1).length∧∀x,-1≤gi (f4 (ae f) f.blocks.length q) x∧gi (f4 (ae f) f.blocks.length q) x≤q) (fun q=>((aA (ae f) f.blocks.length).drop 1).length - q) 0 aJ aE (⟨ql _,fun x=>by rw[show f4 (ae f) f.blocks.length 0=eK f.blocks.length from rfl,ln hpos];dsimp only;split<;>omega⟩) ?_
  rintro q ⟨hq,hb⟩
  refine ah<|aw Z Z<|z6<|zd<|zw Z (fun cq=>?_) (fun cq=>?_)
  ·have hq2:q<((aA (ae f) f.blocks.length).drop 1).length:=by simpa using cq
   obtain ⟨b,hbe⟩:∃b,((aA (ae f) f.blocks.length).drop 1)[q]=b:=⟨_,rfl⟩
   have hbt:b∈(aA (ae f) f.blocks.length).drop 1:=hbe▸qm hq2
   have hbm:b∈aA (ae f) f.blocks.length:=List.mem_of_mem_drop hbt
   have hb0:=BF hG.toEOk hbt
   obtain ⟨hbp,hbn⟩:=hrng b hbm
   have hnm:=(hG.near_mem hbm hb0).1
   rw[←dS hbp hb0] at hnm
   obtain ⟨hnp,hnn⟩:=hrng _ hnm
   have hgN:(bd (ae f) f.blocks.length)[b.toNat]?=some (gi (bd (ae f) f.blocks.length) b):=fy hbp (by rw[eU];omega)
   have hgL:(f4 (ae f) f.blocks.length q)[(gi (bd (ae f) f.blocks.length) b).toNat]?=some (gi (f4 (ae f) f.blocks.length q) (gi (bd (ae f) f.blocks.length) b)):=fy hnp (by rw[pT];omega)
   have hbb:=hb (gi (bd (ae f) f.blocks.length) b)
   have hsucc:f4 (ae f) f.blocks.length (q+1)=(f4 (ae f) f.blocks.length q).set b.toNat (gi (f4 (ae f) f.blocks.length q) (gi (bd (ae f) f.blocks.length) b)+1):=by rw[uA hq2,hbe,dS hbp hb0];rfl
   have hlen:=pT (ae f) f.blocks.length q
   have hNl:=eU (ae f) f.blocks.length
   have hql:q≤1000:=by have:((aA (ae f) f.blocks.length).drop 1).length≤(aA (ae f) f.blocks.length).length:=(by simp);omega
   refine zg<|zd<|zj<|ah<|za (bx q wx wz Z Z Z (by rw[qi hq2,hbe])) ?_
   refine ay j6 Z<|ao Z<|z6<|zt (fun j=>Nat.beq j 20) (by kernel_rfl) Z (zm (.r (.l (.l (.l (.r (.rest _)))))))<|aj 0 Z (eF Z)<|aj 1 Z (yb Z)<|aj 2 Z (zn Z4 Z j5 (by decide) Z Z)<|aj 3 Z (zq (c:=.own _ _) j9 Z ⟨_,.head⟩ Z)<|aj 4 Z (dF Z)<|aj 5 Z (eF Z)<|aj 6 Z (yb Z)<|aj 7 Z (zn Z4 Z j5 (by decide) Z Z)<|aj 8 Z (zq (c:=.own _ _) j9 Z ⟨_,.head⟩ Z)<|aj 9 Z (eF Z)<|aj 10 Z (yb Z)<|aj 11 Z (zn Z4 Z j5 (by decide) Z Z)<|aj 12 Z (zq (c:=.own _ _) j9 Z ⟨_,.head⟩ Z)<|aj 13 Z (dF Z)<|aj 14 Z (yu (j:=b.toNat) wx wz Z Z (by omega) ⟨_,.t1⟩ (by first|rfl|(simp[aQ,aS];done)|(simp[aQ,aS];omega)) (by omega))<|aj 15 Z (q9 (j:=b.toNat) j6 Z ⟨_,.t1⟩ hgN)<|aY 16 Z<|za (yu (j:=(gi (bd (ae f) f.blocks.length) b).toNat) wx wz Z Z (by omega) ⟨_,.head⟩ (by first|rfl|(simp[aQ,aS];done)|(simp[aQ,aS];omega)) (by omega))<|z6<|aY 17 Z<|za (q9 (j:=(gi (bd (ae f) f.blocks.length) b).toNat) j6 Z ⟨_,.head⟩ hgL)<|z6<|aj 18 Z (Co Z Z)<|aY 19 Z<|za (yu (j:=b.toNat) wx wz Z Z (by omega) ⟨_,.head⟩ (by first|rfl|(simp[aQ,aS];done)|(simp[aQ,aS];omega)) (by omega))<|z6<|ym<|yk (i:=20) Z (by kernel_rfl) (by kernel_rfl)<|ax.storeI (j:=b.toNat) wz Z Z .t2 (by first|omega|(simp;omega))<|ze (zb (zc .t1))<|ze (zb (zc .t4))<|ze (zb (zc .t4))<|ze (zb (zc .t4))<|ze (zb (zc .t4))<|z6<|yq (by kernel_rfl)<|aV ?_
   refine aC Z Z<|aa Z<|z6 ?_
   exact ⟨q+1,AP,aJ,⟨_,(.refl _),by rw[hsucc]⟩,⟨hq2,fun x=>by rw[hsucc,qN hbp (by omega)];have:=hb x;split<;>omega⟩,by omega⟩
  ·have hqn:q=((aA (ae f) f.blocks.length).drop 1).length:=by have h0:¬(q:Int)<(((aA (ae f) f.blocks.length).drop 1).length:Int):=(by simpa using cq);omega
   subst hqn
   rw[w5]
   refine y7<|zd<|ah<|aa Z<|aa Z<|z6<|zj<|y8 (γ:=Nat) [4,6,7,68] (fun k=>[(69,.int .i64 k)]) (fun k=>[(i34,.cells 130 [.own i25 f.blocks.length,.own i28 f.blocks.length,dM b30 f.blocks.length,dM b32 f.blocks.length]),(i28,.grow 1 3 (cI (bC (ae f) f.blocks.length))),(0,cP eI 23 3 b30 (bQ f.blocks.length (re (bd (ae f) f.blocks.length) k))),(0,cP eI 23 3 b32 (List.replicate f.blocks.length [])),(i25,.grow 1 3 (cI (bd (ae f) f.blocks.length)))]) (fun k=>k≤f.blocks.length) (fun k=>f.blocks.length - k) 0 aJ ⟨_,(.refl _),by rw[n6];rfl⟩ (ql _) ?_
   rintro k hk
   refine ah<|aw Z Z<|z6<|zd<|zw Z (fun ck=>?_) (fun ck=>?_)
   ·have hk2:k<f.blocks.length:=by simp at ck;omega
    have hNl:=eU (ae f) f.blocks.length
    have hgN:(bd (ae f) f.blocks.length)[k]?=some (gi (bd (ae f) f.blocks.length) (k:Int)):=fy (x:=(k:Int)) (by omega) (by rw[eU];omega)
    have hel:=BG (bd (ae f) f.blocks.length) k
    refine zg<|zd<|zj<|ah<|aa Z<|ao Z<|z6<|ah<|aR Z<|az Z<|za (zn Z4 Z j5 (by decide) Z Z)<|za (zq (c:=.own _ _) j9 Z ⟨_,.head⟩ Z)<|aa Z<|za (yu (j:=k) wx wz Z Z Z ⟨_,.t4⟩ (by first|rfl|(simp[aQ,aS];done)|(simp[aQ,aS];omega)) hk2)<|za (q9 (j:=k) j6 Z ⟨_,.t4⟩ hgN)<|ao Z<|z6<|ah<|aa Z<|aL Z Z<|z6<|zu Z (fun cn=>?_) (fun cn=>?_)
    ·have hne:gi (bd (ae f) f.blocks.length) (k:Int)≠-1:=by simpa using cn
     have hpm:=(zM hG (by omega) hne).2
     obtain ⟨hp0,hpn⟩:=hrng _ hpm
     obtain ⟨p,hpe⟩:∃p,gi (bd (ae f) f.blocks.length) (k:Int)=p:=⟨_,rfl⟩
     rw[hpe] at hne hpm hp0 hpn
     have hpl:p.toNat<(bQ f.blocks.length (re (bd (ae f) f.blocks.length) k)).length:=by rw[bX];omega
     have hrl:=iz hpl
     have hsucc:re (bd (ae f) f.blocks.length) (k+1)=re (bd (ae f) f.blocks.length) k++[(p,(k:Int))]:=by rw[sT,hpe,if_pos hne]
     rw[hpe]
     refine yg (γ:=Unit) [4,6,7,68,69] (fun u=>[]) (fun u=>[(i34,.cells 130 [.own i25 f.blocks.length,.own i28 f.blocks.length,dM b30 f.blocks.length,dM b32 f.blocks.length]),(i28,.grow 1 3 (cI (bC (ae f) f.blocks.length))),(0,cP eI 23 3 b30 ((bQ f.blocks.length (re (bd (ae f) f.blocks.length) k)).set p.toNat ((bQ f.blocks.length (re (bd (ae f) f.blocks.length) k))[p.toNat]++[(k:Int)]))),(0,cP eI 23 3 b32 (List.replicate f.blocks.length [])),(i25,.grow 1 3 (cI (bd (ae f) f.blocks.length)))]) (fun u=>True) ?_ (fun _ _ h=>h) ?_
     ·refine zt (fun j=>Nat.beq j 16) (by kernel_rfl) Z (zm (.r (.l (.l (.l (.r (.rest _)))))))<|aj 0 Z (eF Z)<|aj 1 Z (yb Z)<|aj 2 Z (zn Z4 Z Yv (by decide) Z Z)<|aj 3 Z (zq (c:=dM _ _) isAgg70 Z ⟨_,.head⟩ Z)<|aj 4 Z (dF Z)<|aj 5 Z (eF Z)<|aj 6 Z (yb Z)<|aj 7 Z (zn Z4 Z Yv (by decide) Z Z)<|aj 8 Z (zq (c:=dM _ _) isAgg70 Z ⟨_,.head⟩ Z)<|aj 9 Z (dF Z)<|aj 10 Z (qf (j:=p.toNat) jf j5 Z Z (by omega) (by omega))<|aj 12 Z (dF Z)<|yn (i:=11) (j:=13) Z Z (by kernel_rfl) ?_ ?_
      ·refine q6 (j:=p.toNat) (r:=(bQ f.blocks.length (re (bd (ae f) f.blocks.length) k))[p.toNat]) j9 Z (qi hpl) (fun _=>.t1)<|fun i92=>z6<|aY 13 Z<|y3 (rows:=[[_]]) cf Z Z Z Z Z<|z6<|aY 14 Z<|yj (k:=1) wx type3 Z Z Z Z Z (fun _=>.head) (by rw[eI.av_len];rfl) (by decide) Z (by show (_+1)*8≤_;omega) (by show _+1≤_;omega)<|fun i95=>z6<|aj 15 Z (qf (j:=p.toNat) jf j5 Z Z (by omega) (by omega))<|ym<|yk (i:=16) Z (by kernel_rfl) (by kernel_rfl)<|qg (j:=p.toNat) (r:=(bQ f.blocks.length (re (bd (ae f) f.blocks.length) k))[p.toNat]++[(k:Int)]) j5 Z Z (by omega) .t2 .t3 Z (eI.av_push _ _) (by simp)<|ze (zb (zc .t1))<|ze (zb (zc .t4))<|ze (zb (zc .t4))<|ze (zb (zc .t4))<|ze (zb (zc .t4))<|z6<|yq (by kernel_rfl) ?_
       exact ⟨(),wi,trivial,aE,trivial⟩
      ·refine y3 (rows:=[[_]]) cf Z Z Z Z Z<|z6<|aY 11 Z<|q6 (j:=p.toNat) (r:=(bQ f.blocks.length (re (bd (ae f) f.blocks.length) k))[p.toNat]) j9 Z (qi hpl) (fun _=>.t1)<|fun i92=>z6<|aY 14 Z<|yj (k:=1) wx type3 Z Z Z Z Z (fun _=>.head) (by rw[eI.av_len];rfl) (by decide) Z (by show (_+1)*8≤_;omega) (by show _+1≤_;omega)<|fun i95=>z6<|aj 15 Z (qf (j:=p.toNat) jf j5 Z Z (by omega) (by omega))<|ym<|yk (i:=16) Z (by kernel_rfl) (by kernel_rfl)<|qg (j:=p.toNat) (r:=(bQ f.blocks.length (re (bd (ae f) f.blocks.length) k))[p.toNat]++[(k:Int)]) j5 Z Z (by omega) .t2 .t3 Z (eI.av_push _ _) (by simp)<|ze (zb (zc .t1))<|ze (zb (zc .t4))<|ze (zb (zc .t4))<|ze (zb (zc .t4))<|ze (zb (zc .t4))<|z6<|yq (by kernel_rfl) ?_
       exact ⟨(),wi,trivial,aE,trivial⟩
     ·rintro _ _
      refine aV<|aC Z Z<|aa Z<|z6 ?_
      exact ⟨k+1,iS,aJ,⟨_,(.refl _),by rw[hsucc,jK hp0 hpl]⟩,hk2,by omega⟩
    ·have hne:gi (bd (ae f) f.blocks.length) (k:Int)=-1:=by simpa using cn
     have hsucc:re (bd (ae f) f.blocks.length) (k+1)=re (bd (ae f) f.blocks.length) k:=by rw[sT,if_neg (by rw[hne];simp)];simp
     refine zg<|aV<|aC Z Z<|aa Z<|z6 ?_
     exact ⟨k+1,iS,aJ,⟨_,(.refl _),by rw[hsucc]⟩,hk2,by omega⟩
   ·have hkn:k=f.blocks.length:=by simp at ck;omega
    subst hkn
    refine zy (zb (zc .t4))<|zy (zb (zc .t2))<|zy (zb (zc .t2))<|zy (zb (zc .t4))<|y7<|ah<|aR Z<|bb Z<|bb Z<|zr Z (zm (.l (.l (.l (.l (.r (.rest _))))))) (hfr _ _ _ _ 0 _) ?_
    rintro r101 O101 ⟨rfl,fr,hfr2,rfl⟩
    refine z6<|ah<|aR Z<|za (gk Z)<|ao Z<|z6<|zy (aX.knowIC (off:=0) .t3 .t1 Z (eU _ _))<|zy (aX.knowIC (off:=1) .t2 .t1 Z hG.lev.len)<|zy (aX.nestKnowC (off:=2) .t2 .t1 Z (bX _ _))<|zy (aX.nestKnowC (off:=3) .head .head Z hfr2.1)<|zy (yd (t:=2) Z .head)<|zh<|qc (x:=.pf _) (y:=.int _ _) Z Z ?_
    exact ⟨⟨fr,hfr2,rfl⟩,rfl⟩
def gx (f:ad):AV:=lA f (kx eI (my f)) .any
theorem sU (f:ad) (hf:small f) (hL:bn E) (ht:bc f=true):aI prog E 33 [.agg (bD f)] (.tup [gx f,.int .i64 0]):=
 (BH f hf hL ht).weak fun x O h=>by
  obtain ⟨⟨fr,hfr,rfl⟩,rfl⟩:=h
  refine ⟨Z,fun I v hv=>?_⟩
  obtain ⟨vs,e,w0,us,e2,h0,hr⟩:=hv
  obtain ⟨b,off,ws,e3,hl,hk⟩:=h0
  obtain ⟨u0,t0,f0,a0,u1,t1,f1,a1,u2,t2,f2,a2,u3,t3,f3,a3,hz⟩:=hl
  exact ⟨vs,e,w0,us,e2,⟨b,off,ws,e3,⟨u0,t0,f0,a0,u1,t1,f1,a1,u2,t2,f2,a2,u3,t3,f3,trivial,hz⟩,hk⟩,hr⟩
end Go.Proofs.YtdilpodccjlkgaaGreatDoor
