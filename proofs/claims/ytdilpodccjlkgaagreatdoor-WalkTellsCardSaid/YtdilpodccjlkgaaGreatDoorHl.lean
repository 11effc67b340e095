/- The tree of what is above what, made. Of programs that are little. -/
import Derived.Test.YtdilpodccjlkgaaGreatDoorHk
set_option linter.unusedVariables false
set_option linter.unusedSimpArgs false
set_option linter.unusedSectionVars false
namespace Go.Proofs.YtdilpodccjlkgaaGreatDoor
open Go.Proofs.Tryz
open Go.Proofs Go.Lib Go.Shelf Go.RowKit
theorem cL:cX prog 130 #[(0,1),(1,1),(2,1),(3,1)] [.raw (.slice none 0 0),.raw (.slice none 0 0),.raw (.slice none 0 0),.raw (.slice none 0 0)]:=⟨_,_,Zb,zeroValue130,fun w=>by kernel_rfl,rfl⟩
variable {E:World}
set_option maxRecDepth 20000
def gm (S:Int→List Int) (n q:Nat):List Int:=(((aA S n).drop 1).take q).foldl (tH (bl S n)) (e8 n)
theorem vU {S:Int→List Int} {n q:Nat} (h:q<((aA S n).drop 1).length):gm S n (q+1)=tH (bl S n) (gm S n q) ((aA S n).drop 1)[q]:=by
 unfold gm;rw[ql h,List.foldl_append];rfl
theorem zF (S:Int→List Int) (n:Nat):gm S n ((aA S n).drop 1).length=bT S n:=by unfold gm bT;rw[qp,List.drop_one]
theorem rC (S:Int→List Int) (n q:Nat):(gm S n q).length=n:=by unfold gm;rw[mQ (fun l x=>tI _ l x),lC]
theorem Dq {S:Int→List Int} {n:Nat} (hE:EOk S n) {b:Int} (hb:b∈(aA S n).drop 1):b≠0:=by
 have h1:=lB hE
 have h2:=g9 hE
 cases h:aA S n with
 |nil=>rw[h] at h1;simp at h1
 |cons z zs=>
  rw[h] at h1 h2 hb
  simp at h1
  subst h1
  intro e
  subst e
  exact (List.nodup_cons.1 h2).1 (by simpa using hb)
theorem zG {S:Int→List Int} {n:Nat} (hE:EOk S n):0<(aA S n).length:=by
 have h1:=lB hE
 cases h:aA S n with
 |nil=>rw[h] at h1;simp at h1
 |cons z zs=>simp
def sx (N:List Int) (k:Nat):List (Int × Int):=((aU k).filter fun b=>decide (gi N b≠-1)).map fun b=>(gi N b,b)
theorem uo (N:List Int) (k:Nat):sx N (k+1)=sx N k++if gi N (k:Int)≠-1 then[(gi N (k:Int),(k:Int))] else[]:=by
 unfold sx;rw[na,List.filter_append,qv]
 by_cases h:gi N (k:Int)=-1<;>simp[h]
theorem Dr (N:List Int) (k:Nat):(sx N k).length≤k:=by
 unfold sx;rw[qr];exact Nat.le_trans (List.length_filter_le _ _) (by rw[bA];exact Nat.le_refl _)
def ni (f:ad):List (List Int):=cF f.blocks.length (sx (bi (ah f) f.blocks.length) f.blocks.length)
theorem BA {S:Int→List Int} {n:Nat} (hG:eV S n) {b:Int} (h0:0≤b) (hb:gi (bi S n) b≠-1):b∈aA S n∧gi (bi S n) b∈aA S n:=by
 by_cases e:b=0
 ·rw[e,nS hG.npos] at hb;exact absurd rfl hb
 ·rw[ei h0 e] at hb ⊢
  have:=hG.exact.inv.mem b hb
  exact ⟨this,(hG.near_mem this e).1⟩
set_option maxHeartbeats 4000000 in
theorem Ds (f:ad) (hf:small f) (hL:bB E) (ht:bj f=true):aR prog E 33 [.agg (bD f)] []
  fun r O=>(∃fr,tb f.blocks.length fr∧r=.tup [mj f (lg eI (ni f)) (lg eI fr),.int .i64 0])∧O=[]:=by
 have hE:=dL ht
 have hn:=hf.2.2.1
 have hG:=hE.grph
 have hpos:=hG.npos
 have hol:=fg hG
 have hop:=zG hG.toEOk
 have hnear:=sw (E:=E) f hE hn
 have hfr:=fun t a b fb T x=>un (E:=E) f hE hn t a b fb T x _ (tb.begin f.blocks.length)
 have hprd:=ng f hf hL ht
 have hord:=uf f hf hL ht
 have hrng:∀z∈aA (ah f) f.blocks.length,0≤z∧z<f.blocks.length:=fun z hz=>b3 hG.toEOk hz
 refine zq func33 U (by decide) U<|ae<|y9 (cs:=_) U U U<|bF U<|ap U<|z6<|ae<|ac ju jf U U<|ze (hord) U<|za (kO U)<|z6<|zd<|ae<|aT U<|ar wz U<|ai U U<|z6<|yg U (by simp;exact List.ne_nil_of_length_pos hop)<|zg<|zd<|zw (fun j=>false) (by kernel_rfl) U (zh (.rest _))<|ak 0 U (bx jg U Z6 U U)<|ak 1 U (dx Zd U)<|ak 2 U (Gv.lenM jk U)<|ak 3 U (yr ju jf U U)<|ba 4 U<|ze (hprd) U<|z6<|ak 5 U (mA U)<|ak 6 U (kO U)<|bY<|zd<|ya (γ:=Nat × Nat × Nat × Nat × Nat) [4,5,6] (fun g=>[(7,.po g.1 0)]) (fun g=>[(g.1,.cells 130 [.own g.2.2.2.2 f.blocks.length,.own g.2.1 f.blocks.length,eb g.2.2.1 f.blocks.length,eb g.2.2.2.1 f.blocks.length]),(g.2.1,.grow 1 3 (cI (List.replicate f.blocks.length (-1)))),(0,du eI 23 3 g.2.2.1 (List.replicate f.blocks.length [])),(0,du eI 23 3 g.2.2.2.1 (List.replicate f.blocks.length [])),(g.2.2.2.2,.grow 1 3 (cI (bi (ah f) f.blocks.length)))]) (fun g=>True) ?_ (fun _ _ h=>h) ?_
 ·refine zw (fun j=>false) (by kernel_rfl) U (zh (.rest _))<|ak 0 U (CN U)<|ak 1 U (CN U)<|ak 2 U (dq U)<|ak 5 U (dq U)<|ak 7 U (dq U)<|ak 9 U (dq U)<|bX.four (i:=3) (j:=4) (m:=8) (q:=10) U U U U (by kernel_rfl) ?_ ?_ ?_ ?_
  ·refine zr U (zh (.rest _)) (hnear) ?_
   rintro r25 O25 ⟨i25,rfl,rfl⟩
   refine z6<|bX.three (i:=4) (j:=8) (m:=10) U U U (by kernel_rfl) ?_ ?_ ?_
   ·refine y4 (rows:=[[_]]) cC U U U U U<|z6<|bX.three (i:=6) (j:=8) (m:=10) U U U (by kernel_rfl) ?_ ?_ ?_
    ·refine zr U (zh (.r (.rest _))) (aN (-1) f.blocks.length (by omega) hpos) ?_
     rintro r28 O28 ⟨i28,rfl,rfl⟩
     refine z6<|yq (i:=8) (j:=10) U U (by kernel_rfl) ?_ ?_
     ·refine yd (m:=f.blocks.length) ji Zh U U U U U (by simp) (by simp) (by show (24:Int)*_≤_;omega) (by omega) eI 3<|fun b30=>z6<|ba 10 U<|yd (m:=f.blocks.length) ji Zh U U U U U (by simp) (by simp) (by show (24:Int)*_≤_;omega) (by omega) eI 3<|fun b32=>z6<|ak 11 U (y5 (cps:=[(0,[_]),(1,[_]),(2,[_]),(3,[_])]) (rs:=[_,_,_,_]) cL U U U)<|ba 12 U<|yk (cs:=_) U U U U<|fun i34=>zf (zb (zc .t4))<|zf (zb (zc .t2))<|zf (zb (zc .t3))<|zf (zb (zc .t4))<|zf (zb (zc .t4))<|z6<|ak 13 U (gc U)<|bY ?_
      exact ⟨(i34,i28,b30,b32,i25),de,aH,aD,trivial⟩
     ·refine yd (m:=f.blocks.length) ji Zh U U U U U (by simp) (by simp) (by show (24:Int)*_≤_;omega) (by omega) eI 3<|fun b32=>z6<|ba 8 U<|yd (m:=f.blocks.length) ji Zh U U U U U (by simp) (by simp) (by show (24:Int)*_≤_;omega) (by omega) eI 3<|fun b30=>z6<|ak 11 U (y5 (cps:=[(0,[_]),(1,[_]),(2,[_]),(3,[_])]) (rs:=[_,_,_,_]) cL U U U)<|ba 12 U<|yk (cs:=_) U U U U<|fun i34=>zf (zb (zc .t4))<|zf (zb (zc .t3))<|zf (zb (zc .t3))<|zf (zb (zc .t4))<|zf (zb (zc .t4))<|z6<|ak 13 U (gc U)<|bY ?_
      exact ⟨(i34,i28,b30,b32,i25),de,aH,aD,trivial⟩
    ·refine yd (m:=f.blocks.length) ji Zh U U U U U (by simp) (by simp) (by show (24:Int)*_≤_;omega) (by omega) eI 3<|fun b30=>z6<|yq (i:=6) (j:=10) U U (by kernel_rfl) ?_ ?_
     ·refine zr U (zh (.r (.r (.rest _)))) (aN (-1) f.blocks.length (by omega) hpos) ?_
      rintro r28 O28 ⟨i28,rfl,rfl⟩
      refine z6<|ba 10 U<|yd (m:=f.blocks.length) ji Zh U U U U U (by simp) (by simp) (by show (24:Int)*_≤_;omega) (by omega) eI 3<|fun b32=>z6<|ak 11 U (y5 (cps:=[(0,[_]),(1,[_]),(2,[_]),(3,[_])]) (rs:=[_,_,_,_]) cL U U U)<|ba 12 U<|yk (cs:=_) U U U U<|fun i34=>zf (zb (zc .t4))<|zf (zb (zc .t2))<|zf (zb (zc .t4))<|zf (zb (zc .t4))<|zf (zb (zc .t4))<|z6<|ak 13 U (gc U)<|bY ?_
      exact ⟨(i34,i28,b30,b32,i25),de,aH,aD,trivial⟩
     ·refine yd (m:=f.blocks.length) ji Zh U U U U U (by simp) (by simp) (by show (24:Int)*_≤_;omega) (by omega) eI 3<|fun b32=>z6<|ba 6 U<|zr U (zh (.r (.r (.r (.rest _))))) (aN (-1) f.blocks.length (by omega) hpos) ?_
      rintro r28 O28 ⟨i28,rfl,rfl⟩
      refine z6<|ak 11 U (y5 (cps:=[(0,[_]),(1,[_]),(2,[_]),(3,[_])]) (rs:=[_,_,_,_]) cL U U U)<|ba 12 U<|yk (cs:=_) U U U U<|fun i34=>zf (zb (zc .t4))<|zf (zb (zc .t3))<|zf (zb (zc .t4))<|zf (zb (zc .t4))<|zf (zb (zc .t4))<|z6<|ak 13 U (gc U)<|bY ?_
      exact ⟨(i34,i28,b30,b32,i25),de,aH,aD,trivial⟩
    ·refine yd (m:=f.blocks.length) ji Zh U U U U U (by simp) (by simp) (by show (24:Int)*_≤_;omega) (by omega) eI 3<|fun b32=>z6<|yq (i:=6) (j:=8) U U (by kernel_rfl) ?_ ?_
     ·refine zr U (zh (.r (.r (.rest _)))) (aN (-1) f.blocks.length (by omega) hpos) ?_
      rintro r28 O28 ⟨i28,rfl,rfl⟩
      refine z6<|ba 8 U<|yd (m:=f.blocks.length) ji Zh U U U U U (by simp) (by simp) (by show (24:Int)*_≤_;omega) (by omega) eI 3<|fun b30=>z6<|ak 11 U (y5 (cps:=[(0,[_]),(1,[_]),(2,[_]),(3,[_])]) (rs:=[_,_,_,_]) cL U U U)<|ba 12 U<|yk (cs:=_) U U U U<|fun i34=>zf (zb (zc .t4))<|zf (zb (zc .t4))<|zf (zb (zc .t3))<|zf (zb (zc .t4))<|zf (zb (zc .t4))<|z6<|ak 13 U (gc U)<|bY ?_
      exact ⟨(i34,i28,b30,b32,i25),de,aH,aD,trivial⟩
     ·refine yd (m:=f.blocks.length) ji Zh U U U U U (by simp) (by simp) (by show (24:Int)*_≤_;omega) (by omega) eI 3<|fun b30=>z6<|ba 6 U<|zr U (zh (.r (.r (.r (.rest _))))) (aN (-1) f.blocks.length (by omega) hpos) ?_
      rintro r28 O28 ⟨i28,rfl,rfl⟩
      refine z6<|ak 11 U (y5 (cps:=[(0,[_]),(1,[_]),(2,[_]),(3,[_])]) (rs:=[_,_,_,_]) cL U U U)<|ba 12 U<|yk (cs:=_) U U U U<|fun i34=>z6<|ak 13 U (gc U)<|bY ?_
      exact ⟨(i34,i28,b30,b32,i25),de,aH,aD,trivial⟩
   ·refine yd (m:=f.blocks.length) ji Zh U U U U U (by simp) (by simp) (by show (24:Int)*_≤_;omega) (by omega) eI 3<|fun b30=>z6<|yq (i:=4) (j:=10) U U (by kernel_rfl) ?_ ?_
    ·refine y4 (rows:=[[_]]) cC U U U U U<|z6<|yq (i:=6) (j:=10) U U (by kernel_rfl) ?_ ?_
     ·refine zr U (zh (.r (.r (.rest _)))) (aN (-1) f.blocks.length (by omega) hpos) ?_
      rintro r28 O28 ⟨i28,rfl,rfl⟩
      refine z6<|ba 10 U<|yd (m:=f.blocks.length) ji Zh U U U U U (by simp) (by simp) (by show (24:Int)*_≤_;omega) (by omega) eI 3<|fun b32=>z6<|ak 11 U (y5 (cps:=[(0,[_]),(1,[_]),(2,[_]),(3,[_])]) (rs:=[_,_,_,_]) cL U U U)<|ba 12 U<|yk (cs:=_) U U U U<|fun i34=>zf (zb (zc .t4))<|zf (zb (zc .t2))<|zf (zb (zc .t4))<|zf (zb (zc .t4))<|zf (zb (zc .t4))<|z6<|ak 13 U (gc U)<|bY ?_
      exact ⟨(i34,i28,b30,b32,i25),de,aH,aD,trivial⟩
     ·refine yd (m:=f.blocks.length) ji Zh U U U U U (by simp) (by simp) (by show (24:Int)*_≤_;omega) (by omega) eI 3<|fun b32=>z6<|ba 6 U<|zr U (zh (.r (.r (.r (.rest _))))) (aN (-1) f.blocks.length (by omega) hpos) ?_
      rintro r28 O28 ⟨i28,rfl,rfl⟩
      refine z6<|ak 11 U (y5 (cps:=[(0,[_]),(1,[_]),(2,[_]),(3,[_])]) (rs:=[_,_,_,_]) cL U U U)<|ba 12 U<|yk (cs:=_) U U U U<|fun i34=>zf (zb (zc .t4))<|zf (zb (zc .t3))<|zf (zb (zc .t4))<|zf (zb (zc .t4))<|zf (zb (zc .t4))<|z6<|ak 13 U (gc U)<|bY ?_
      exact ⟨(i34,i28,b30,b32,i25),de,aH,aD,trivial⟩
    ·refine yd (m:=f.blocks.length) ji Zh U U U U U (by simp) (by simp) (by show (24:Int)*_≤_;omega) (by omega) eI 3<|fun b32=>z6<|ba 4 U<|y4 (rows:=[[_]]) cC U U U U U<|z6<|ba 6 U<|zr U (zh (.r (.r (.r (.rest _))))) (aN (-1) f.blocks.length (by omega) hpos) ?_
     rintro r28 O28 ⟨i28,rfl,rfl⟩
     refine z6<|ak 11 U (y5 (cps:=[(0,[_]),(1,[_]),(2,[_]),(3,[_])]) (rs:=[_,_,_,_]) cL U U U)<|ba 12 U<|yk (cs:=_) U U U U<|fun i34=>zf (zb (zc .t4))<|zf (zb (zc .t3))<|zf (zb (zc .t4))<|zf (zb (zc .t4))<|zf (zb (zc .t4))<|z6<|ak 13 U (gc U)<|bY ?_
     exact ⟨(i34,i28,b30,b32,i25),de,aH,aD,trivial⟩
   ·refine yd (m:=f.blocks.length) ji Zh U U U U U (by simp) (by simp) (by show (24:Int)*_≤_;omega) (by omega) eI 3<|fun b32=>z6<|yq (i:=4) (j:=8) U U (by kernel_rfl) ?_ ?_
    ·refine y4 (rows:=[[_]]) cC U U U U U<|z6<|yq (i:=6) (j:=8) U U (by kernel_rfl) ?_ ?_
     ·refine zr U (zh (.r (.r (.rest _)))) (aN (-1) f.blocks.length (by omega) hpos) ?_
      rintro r28 O28 ⟨i28,rfl,rfl⟩
      refine z6<|ba 8 U<|yd (m:=f.blocks.length) ji Zh U U U U U (by simp) (by simp) (by show (24:Int)*_≤_;omega) (by omega) eI 3<|fun b30=>z6<|ak 11 U (y5 (cps:=[(0,[_]),(1,[_]),(2,[_]),(3,[_])]) (rs:=[_,_,_,_]) cL U U U)<|ba 12 U<|yk (cs:=_) U U U U<|fun i34=>zf (zb (zc .t4))<|zf (zb (zc .t4))<|zf (zb (zc .t3))<|zf (zb (zc .t4))<|zf (zb (zc .t4))<|z6<|ak 13 U (gc U)<|bY ?_
      exact ⟨(i34,i28,b30,b32,i25),de,aH,aD,trivial⟩
     ·refine yd (m:=f.blocks.length) ji Zh U U U U U (by simp) (by simp) (by show (24:Int)*_≤_;omega) (by omega) eI 3<|fun b30=>z6<|ba 6 U<|zr U (zh (.r (.r (.r (.rest _))))) (aN (-1) f.blocks.length (by omega) hpos) ?_
      rintro r28 O28 ⟨i28,rfl,rfl⟩
      refine z6<|ak 11 U (y5 (cps:=[(0,[_]),(1,[_]),(2,[_]),(3,[_])]) (rs:=[_,_,_,_]) cL U U U)<|ba 12 U<|yk (cs:=_) U U U U<|fun i34=>z6<|ak 13 U (gc U)<|bY ?_
      exact ⟨(i34,i28,b30,b32,i25),de,aH,aD,trivial⟩
    ·refine yd (m:=f.blocks.length) ji Zh U U U U U (by simp) (by simp) (by show (24:Int)*_≤_;omega) (by omega) eI 3<|fun b30=>z6<|ba 4 U<|y4 (rows:=[[_]]) cC U U U U U<|z6<|ba 6 U<|zr U (zh (.r (.r (.r (.rest _))))) (aN (-1) f.blocks.length (by omega) hpos) ?_
     rintro r28 O28 ⟨i28,rfl,rfl⟩
     refine z6<|ak 11 U (y5 (cps:=[(0,[_]),(1,[_]),(2,[_]),(3,[_])]) (rs:=[_,_,_,_]) cL U U U)<|ba 12 U<|yk (cs:=_) U U U U<|fun i34=>z6<|ak 13 U (gc U)<|bY ?_
     exact ⟨(i34,i28,b30,b32,i25),de,aH,aD,trivial⟩
  ·refine y4 (rows:=[[_]]) cC U U U U U<|z6<|bX.three (i:=3) (j:=8) (m:=10) U U U (by kernel_rfl) ?_ ?_ ?_
   ·refine zr U (zh (.rest _)) (hnear) ?_
    rintro r25 O25 ⟨i25,rfl,rfl⟩
    refine z6<|bX.three (i:=6) (j:=8) (m:=10) U U U (by kernel_rfl) ?_ ?_ ?_
    ·refine zr U (zh (.r (.rest _))) (aN (-1) f.blocks.length (by omega) hpos) ?_
     rintro r28 O28 ⟨i28,rfl,rfl⟩
     refine z6<|yq (i:=8) (j:=10) U U (by kernel_rfl) ?_ ?_
     ·refine yd (m:=f.blocks.length) ji Zh U U U U U (by simp) (by simp) (by show (24:Int)*_≤_;omega) (by omega) eI 3<|fun b30=>z6<|ba 10 U<|yd (m:=f.blocks.length) ji Zh U U U U U (by simp) (by simp) (by show (24:Int)*_≤_;omega) (by omega) eI 3<|fun b32=>z6<|ak 11 U (y5 (cps:=[(0,[_]),(1,[_]),(2,[_]),(3,[_])]) (rs:=[_,_,_,_]) cL U U U)<|ba 12 U<|yk (cs:=_) U U U U<|fun i34=>zf (zb (zc .t4))<|zf (zb (zc .t2))<|zf (zb (zc .t3))<|zf (zb (zc .t4))<|zf (zb (zc .t4))<|z6<|ak 13 U (gc U)<|bY ?_
      exact ⟨(i34,i28,b30,b32,i25),de,aH,aD,trivial⟩
     ·refine yd (m:=f.blocks.length) ji Zh U U U U U (by simp) (by simp) (by show (24:Int)*_≤_;omega) (by omega) eI 3<|fun b32=>z6<|ba 8 U<|yd (m:=f.blocks.length) ji Zh U U U U U (by simp) (by simp) (by show (24:Int)*_≤_;omega) (by omega) eI 3<|fun b30=>z6<|ak 11 U (y5 (cps:=[(0,[_]),(1,[_]),(2,[_]),(3,[_])]) (rs:=[_,_,_,_]) cL U U U)<|ba 12 U<|yk (cs:=_) U U U U<|fun i34=>zf (zb (zc .t4))<|zf (zb (zc .t3))<|zf (zb (zc .t3))<|zf (zb (zc .t4))<|zf (zb (zc .t4))<|z6<|ak 13 U (gc U)<|bY ?_
      exact ⟨(i34,i28,b30,b32,i25),de,aH,aD,trivial⟩
    ·refine yd (m:=f.blocks.length) ji Zh U U U U U (by simp) (by simp) (by show (24:Int)*_≤_;omega) (by omega) eI 3<|fun b30=>z6<|yq (i:=6) (j:=10) U U (by kernel_rfl) ?_ ?_
     ·refine zr U (zh (.r (.r (.rest _)))) (aN (-1) f.blocks.length (by omega) hpos) ?_
      rintro r28 O28 ⟨i28,rfl,rfl⟩
      refine z6<|ba 10 U<|yd (m:=f.blocks.length) ji Zh U U U U U (by simp) (by simp) (by show (24:Int)*_≤_;omega) (by omega) eI 3<|fun b32=>z6<|ak 11 U (y5 (cps:=[(0,[_]),(1,[_]),(2,[_]),(3,[_])]) (rs:=[_,_,_,_]) cL U U U)<|ba 12 U<|yk (cs:=_) U U U U<|fun i34=>zf (zb (zc .t4))<|zf (zb (zc .t2))<|zf (zb (zc .t4))<|zf (zb (zc .t4))<|zf (zb (zc .t4))<|z6<|ak 13 U (gc U)<|bY ?_
      exact ⟨(i34,i28,b30,b32,i25),de,aH,aD,trivial⟩
     ·refine yd (m:=f.blocks.length) ji Zh U U U U U (by simp) (by simp) (by show (24:Int)*_≤_;omega) (by omega) eI 3<|fun b32=>z6<|ba 6 U<|zr U (zh (.r (.r (.r (.rest _))))) (aN (-1) f.blocks.length (by omega) hpos) ?_
      rintro r28 O28 ⟨i28,rfl,rfl⟩
      refine z6<|ak 11 U (y5 (cps:=[(0,[_]),(1,[_]),(2,[_]),(3,[_])]) (rs:=[_,_,_,_]) cL U U U)<|ba 12 U<|yk (cs:=_) U U U U<|fun i34=>zf (zb (zc .t4))<|zf (zb (zc .t3))<|zf (zb (zc .t4))<|zf (zb (zc .t4))<|zf (zb (zc .t4))<|z6<|ak 13 U (gc U)<|bY ?_
      exact ⟨(i34,i28,b30,b32,i25),de,aH,aD,trivial⟩
    ·refine yd (m:=f.blocks.length) ji Zh U U U U U (by simp) (by simp) (by show (24:Int)*_≤_;omega) (by omega) eI 3<|fun b32=>z6<|yq (i:=6) (j:=8) U U (by kernel_rfl) ?_ ?_
     ·refine zr U (zh (.r (.r (.rest _)))) (aN (-1) f.blocks.length (by omega) hpos) ?_
      rintro r28 O28 ⟨i28,rfl,rfl⟩
      refine z6<|ba 8 U<|yd (m:=f.blocks.length) ji Zh U U U U U (by simp) (by simp) (by show (24:Int)*_≤_;omega) (by omega) eI 3<|fun b30=>z6<|ak 11 U (y5 (cps:=[(0,[_]),(1,[_]),(2,[_]),(3,[_])]) (rs:=[_,_,_,_]) cL U U U)<|ba 12 U<|yk (cs:=_) U U U U<|fun i34=>zf (zb (zc .t4))<|zf (zb (zc .t4))<|zf (zb (zc .t3))<|zf (zb (zc .t4))<|zf (zb (zc .t4))<|z6<|ak 13 U (gc U)<|bY ?_
      exact ⟨(i34,i28,b30,b32,i25),de,aH,aD,trivial⟩
     ·refine yd (m:=f.blocks.length) ji Zh U U U U U (by simp) (by simp) (by show (24:Int)*_≤_;omega) (by omega) eI 3<|fun b30=>z6<|ba 6 U<|zr U (zh (.r (.r (.r (.rest _))))) (aN (-1) f.blocks.length (by omega) hpos) ?_
      rintro r28 O28 ⟨i28,rfl,rfl⟩
      refine z6<|ak 11 U (y5 (cps:=[(0,[_]),(1,[_]),(2,[_]),(3,[_])]) (rs:=[_,_,_,_]) cL U U U)<|ba 12 U<|yk (cs:=_) U U U U<|fun i34=>z6<|ak 13 U (gc U)<|bY ?_
      exact ⟨(i34,i28,b30,b32,i25),de,aH,aD,trivial⟩
   ·refine yd (m:=f.blocks.length) ji Zh U U U U U (by simp) (by simp) (by show (24:Int)*_≤_;omega) (by omega) eI 3<|fun b30=>z6<|yq (i:=3) (j:=10) U U (by kernel_rfl) ?_ ?_
    ·refine zr U (zh (.r (.rest _))) (hnear) ?_
     rintro r25 O25 ⟨i25,rfl,rfl⟩
     refine z6<|yq (i:=6) (j:=10) U U (by kernel_rfl) ?_ ?_
     ·refine zr U (zh (.r (.r (.rest _)))) (aN (-1) f.blocks.length (by omega) hpos) ?_
      rintro r28 O28 ⟨i28,rfl,rfl⟩
      refine z6<|ba 10 U<|yd (m:=f.blocks.length) ji Zh U U U U U (by simp) (by simp) (by show (24:Int)*_≤_;omega) (by omega) eI 3<|fun b32=>z6<|ak 11 U (y5 (cps:=[(0,[_]),(1,[_]),(2,[_]),(3,[_])]) (rs:=[_,_,_,_]) cL U U U)<|ba 12 U<|yk (cs:=_) U U U U<|fun i34=>zf (zb (zc .t3))<|zf (zb (zc .t2))<|zf (zb (zc .t4))<|zf (zb (zc .t4))<|zf (zb (zc .t4))<|z6<|ak 13 U (gc U)<|bY ?_
      exact ⟨(i34,i28,b30,b32,i25),de,aH,aD,trivial⟩
     ·refine yd (m:=f.blocks.length) ji Zh U U U U U (by simp) (by simp) (by show (24:Int)*_≤_;omega) (by omega) eI 3<|fun b32=>z6<|ba 6 U<|zr U (zh (.r (.r (.r (.rest _))))) (aN (-1) f.blocks.length (by omega) hpos) ?_
      rintro r28 O28 ⟨i28,rfl,rfl⟩
      refine z6<|ak 11 U (y5 (cps:=[(0,[_]),(1,[_]),(2,[_]),(3,[_])]) (rs:=[_,_,_,_]) cL U U U)<|ba 12 U<|yk (cs:=_) U U U U<|fun i34=>zf (zb (zc .t3))<|zf (zb (zc .t3))<|zf (zb (zc .t4))<|zf (zb (zc .t4))<|zf (zb (zc .t4))<|z6<|ak 13 U (gc U)<|bY ?_
      exact ⟨(i34,i28,b30,b32,i25),de,aH,aD,trivial⟩
    ·refine yd (m:=f.blocks.length) ji Zh U U U U U (by simp) (by simp) (by show (24:Int)*_≤_;omega) (by omega) eI 3<|fun b32=>z6<|ba 3 U<|zr U (zh (.r (.r (.rest _)))) (hnear) ?_
     rintro r25 O25 ⟨i25,rfl,rfl⟩
     refine z6<|ba 6 U<|zr U (zh (.r (.r (.r (.rest _))))) (aN (-1) f.blocks.length (by omega) hpos) ?_
     rintro r28 O28 ⟨i28,rfl,rfl⟩
     refine z6<|ak 11 U (y5 (cps:=[(0,[_]),(1,[_]),(2,[_]),(3,[_])]) (rs:=[_,_,_,_]) cL U U U)<|ba 12 U<|yk (cs:=_) U U U U<|fun i34=>zf (zb (zc .t2))<|zf (zb (zc .t3))<|zf (zb (zc .t4))<|zf (zb (zc .t4))<|zf (zb (zc .t4))<|z6<|ak 13 U (gc U)<|bY ?_
     exact ⟨(i34,i28,b30,b32,i25),de,aH,aD,trivial⟩
   ·refine yd (m:=f.blocks.length) ji Zh U U U U U (by simp) (by simp) (by show (24:Int)*_≤_;omega) (by omega) eI 3<|fun b32=>z6<|yq (i:=3) (j:=8) U U (by kernel_rfl) ?_ ?_
    ·refine zr U (zh (.r (.rest _))) (hnear) ?_
     rintro r25 O25 ⟨i25,rfl,rfl⟩
     refine z6<|yq (i:=6) (j:=8) U U (by kernel_rfl) ?_ ?_
     ·refine zr U (zh (.r (.r (.rest _)))) (aN (-1) f.blocks.length (by omega) hpos) ?_
      rintro r28 O28 ⟨i28,rfl,rfl⟩
      refine z6<|ba 8 U<|yd (m:=f.blocks.length) ji Zh U U U U U (by simp) (by simp) (by show (24:Int)*_≤_;omega) (by omega) eI 3<|fun b30=>z6<|ak 11 U (y5 (cps:=[(0,[_]),(1,[_]),(2,[_]),(3,[_])]) (rs:=[_,_,_,_]) cL U U U)<|ba 12 U<|yk (cs:=_) U U U U<|fun i34=>zf (zb (zc .t3))<|zf (zb (zc .t4))<|zf (zb (zc .t3))<|zf (zb (zc .t4))<|zf (zb (zc .t4))<|z6<|ak 13 U (gc U)<|bY ?_
      exact ⟨(i34,i28,b30,b32,i25),de,aH,aD,trivial⟩
     ·refine yd (m:=f.blocks.length) ji Zh U U U U U (by simp) (by simp) (by show (24:Int)*_≤_;omega) (by omega) eI 3<|fun b30=>z6<|ba 6 U<|zr U (zh (.r (.r (.r (.rest _))))) (aN (-1) f.blocks.length (by omega) hpos) ?_
      rintro r28 O28 ⟨i28,rfl,rfl⟩
      refine z6<|ak 11 U (y5 (cps:=[(0,[_]),(1,[_]),(2,[_]),(3,[_])]) (rs:=[_,_,_,_]) cL U U U)<|ba 12 U<|yk (cs:=_) U U U U<|fun i34=>zf (zb (zc .t3))<|zf (zb (zc .t4))<|zf (zb (zc .t4))<|zf (zb (zc .t4))<|zf (zb (zc .t4))<|z6<|ak 13 U (gc U)<|bY ?_
      exact ⟨(i34,i28,b30,b32,i25),de,aH,aD,trivial⟩
    ·refine yd (m:=f.blocks.length) ji Zh U U U U U (by simp) (by simp) (by show (24:Int)*_≤_;omega) (by omega) eI 3<|fun b30=>z6<|ba 3 U<|zr U (zh (.r (.r (.rest _)))) (hnear) ?_
     rintro r25 O25 ⟨i25,rfl,rfl⟩
     refine z6<|ba 6 U<|zr U (zh (.r (.r (.r (.rest _))))) (aN (-1) f.blocks.length (by omega) hpos) ?_
     rintro r28 O28 ⟨i28,rfl,rfl⟩
     refine z6<|ak 11 U (y5 (cps:=[(0,[_]),(1,[_]),(2,[_]),(3,[_])]) (rs:=[_,_,_,_]) cL U U U)<|ba 12 U<|yk (cs:=_) U U U U<|fun i34=>zf (zb (zc .t2))<|zf (zb (zc .t4))<|zf (zb (zc .t4))<|zf (zb (zc .t4))<|zf (zb (zc .t4))<|z6<|ak 13 U (gc U)<|bY ?_
     exact ⟨(i34,i28,b30,b32,i25),de,aH,aD,trivial⟩
  ·refine yd (m:=f.blocks.length) ji Zh U U U U U (by simp) (by simp) (by show (24:Int)*_≤_;omega) (by omega) eI 3<|fun b30=>z6<|bX.three (i:=3) (j:=4) (m:=10) U U U (by kernel_rfl) ?_ ?_ ?_
   ·refine zr U (zh (.r (.rest _))) (hnear) ?_
    rintro r25 O25 ⟨i25,rfl,rfl⟩
    refine z6<|yq (i:=4) (j:=10) U U (by kernel_rfl) ?_ ?_
    ·refine y4 (rows:=[[_]]) cC U U U U U<|z6<|yq (i:=6) (j:=10) U U (by kernel_rfl) ?_ ?_
     ·refine zr U (zh (.r (.r (.rest _)))) (aN (-1) f.blocks.length (by omega) hpos) ?_
      rintro r28 O28 ⟨i28,rfl,rfl⟩
      refine z6<|ba 10 U<|yd (m:=f.blocks.length) ji Zh U U U U U (by simp) (by simp) (by show (24:Int)*_≤_;omega) (by omega) eI 3<|fun b32=>z6<|ak 11 U (y5 (cps:=[(0,[_]),(1,[_]),(2,[_]),(3,[_])]) (rs:=[_,_,_,_]) cL U U U)<|ba 12 U<|yk (cs:=_) U U U U<|fun i34=>zf (zb (zc .t3))<|zf (zb (zc .t2))<|zf (zb (zc .t4))<|zf (zb (zc .t4))<|zf (zb (zc .t4))<|z6<|ak 13 U (gc U)<|bY ?_
      exact ⟨(i34,i28,b30,b32,i25),de,aH,aD,trivial⟩
     ·refine yd (m:=f.blocks.length) ji Zh U U U U U (by simp) (by simp) (by show (24:Int)*_≤_;omega) (by omega) eI 3<|fun b32=>z6<|ba 6 U<|zr U (zh (.r (.r (.r (.rest _))))) (aN (-1) f.blocks.length (by omega) hpos) ?_
      rintro r28 O28 ⟨i28,rfl,rfl⟩
      refine z6<|ak 11 U (y5 (cps:=[(0,[_]),(1,[_]),(2,[_]),(3,[_])]) (rs:=[_,_,_,_]) cL U U U)<|ba 12 U<|yk (cs:=_) U U U U<|fun i34=>zf (zb (zc .t3))<|zf (zb (zc .t3))<|zf (zb (zc .t4))<|zf (zb (zc .t4))<|zf (zb (zc .t4))<|z6<|ak 13 U (gc U)<|bY ?_
      exact ⟨(i34,i28,b30,b32,i25),de,aH,aD,trivial⟩
    ·refine yd (m:=f.blocks.length) ji Zh U U U U U (by simp) (by simp) (by show (24:Int)*_≤_;omega) (by omega) eI 3<|fun b32=>z6<|ba 4 U<|y4 (rows:=[[_]]) cC U U U U U<|z6<|ba 6 U<|zr U (zh (.r (.r (.r (.rest _))))) (aN (-1) f.blocks.length (by omega) hpos) ?_
     rintro r28 O28 ⟨i28,rfl,rfl⟩
     refine z6<|ak 11 U (y5 (cps:=[(0,[_]),(1,[_]),(2,[_]),(3,[_])]) (rs:=[_,_,_,_]) cL U U U)<|ba 12 U<|yk (cs:=_) U U U U<|fun i34=>zf (zb (zc .t3))<|zf (zb (zc .t3))<|zf (zb (zc .t4))<|zf (zb (zc .t4))<|zf (zb (zc .t4))<|z6<|ak 13 U (gc U)<|bY ?_
     exact ⟨(i34,i28,b30,b32,i25),de,aH,aD,trivial⟩
   ·refine y4 (rows:=[[_]]) cC U U U U U<|z6<|yq (i:=3) (j:=10) U U (by kernel_rfl) ?_ ?_
    ·refine zr U (zh (.r (.rest _))) (hnear) ?_
     rintro r25 O25 ⟨i25,rfl,rfl⟩
     refine z6<|yq (i:=6) (j:=10) U U (by kernel_rfl) ?_ ?_
     ·refine zr U (zh (.r (.r (.rest _)))) (aN (-1) f.blocks.length (by omega) hpos) ?_
      rintro r28 O28 ⟨i28,rfl,rfl⟩
      refine z6<|ba 10 U<|yd (m:=f.blocks.length) ji Zh U U U U U (by simp) (by simp) (by show (24:Int)*_≤_;omega) (by omega) eI 3<|fun b32=>z6<|ak 11 U (y5 (cps:=[(0,[_]),(1,[_]),(2,[_]),(3,[_])]) (rs:=[_,_,_,_]) cL U U U)<|ba 12 U<|yk (cs:=_) U U U U<|fun i34=>zf (zb (zc .t3))<|zf (zb (zc .t2))<|zf (zb (zc .t4))<|zf (zb (zc .t4))<|zf (zb (zc .t4))<|z6<|ak 13 U (gc U)<|bY ?_
      exact ⟨(i34,i28,b30,b32,i25),de,aH,aD,trivial⟩
     ·refine yd (m:=f.blocks.length) ji Zh U U U U U (by simp) (by simp) (by show (24:Int)*_≤_;omega) (by omega) eI 3<|fun b32=>z6<|ba 6 U<|zr U (zh (.r (.r (.r (.rest _))))) (aN (-1) f.blocks.length (by omega) hpos) ?_
      rintro r28 O28 ⟨i28,rfl,rfl⟩
      refine z6<|ak 11 U (y5 (cps:=[(0,[_]),(1,[_]),(2,[_]),(3,[_])]) (rs:=[_,_,_,_]) cL U U U)<|ba 12 U<|yk (cs:=_) U U U U<|fun i34=>zf (zb (zc .t3))<|zf (zb (zc .t3))<|zf (zb (zc .t4))<|zf (zb (zc .t4))<|zf (zb (zc .t4))<|z6<|ak 13 U (gc U)<|bY ?_
      exact ⟨(i34,i28,b30,b32,i25),de,aH,aD,trivial⟩
    ·refine yd (m:=f.blocks.length) ji Zh U U U U U (by simp) (by simp) (by show (24:Int)*_≤_;omega) (by omega) eI 3<|fun b32=>z6<|ba 3 U<|zr U (zh (.r (.r (.rest _)))) (hnear) ?_
     rintro r25 O25 ⟨i25,rfl,rfl⟩
     refine z6<|ba 6 U<|zr U (zh (.r (.r (.r (.rest _))))) (aN (-1) f.blocks.length (by omega) hpos) ?_
     rintro r28 O28 ⟨i28,rfl,rfl⟩
     refine z6<|ak 11 U (y5 (cps:=[(0,[_]),(1,[_]),(2,[_]),(3,[_])]) (rs:=[_,_,_,_]) cL U U U)<|ba 12 U<|yk (cs:=_) U U U U<|fun i34=>zf (zb (zc .t2))<|zf (zb (zc .t3))<|zf (zb (zc .t4))<|zf (zb (zc .t4))<|zf (zb (zc .t4))<|z6<|ak 13 U (gc U)<|bY ?_
     exact ⟨(i34,i28,b30,b32,i25),de,aH,aD,trivial⟩
   ·refine yd (m:=f.blocks.length) ji Zh U U U U U (by simp) (by simp) (by show (24:Int)*_≤_;omega) (by omega) eI 3<|fun b32=>z6<|yq (i:=3) (j:=4) U U (by kernel_rfl) ?_ ?_
    ·refine zr U (zh (.r (.r (.rest _)))) (hnear) ?_
     rintro r25 O25 ⟨i25,rfl,rfl⟩
     refine z6<|ba 4 U<|y4 (rows:=[[_]]) cC U U U U U<|z6<|ba 6 U<|zr U (zh (.r (.r (.r (.rest _))))) (aN (-1) f.blocks.length (by omega) hpos) ?_
     rintro r28 O28 ⟨i28,rfl,rfl⟩
     refine z6<|ak 11 U (y5 (cps:=[(0,[_]),(1,[_]),(2,[_]),(3,[_])]) (rs:=[_,_,_,_]) cL U U U)<|ba 12 U<|yk (cs:=_) U U U U<|fun i34=>zf (zb (zc .t2))<|zf (zb (zc .t3))<|zf (zb (zc .t4))<|zf (zb (zc .t4))<|zf (zb (zc .t4))<|z6<|ak 13 U (gc U)<|bY ?_
     exact ⟨(i34,i28,b30,b32,i25),de,aH,aD,trivial⟩
    ·refine y4 (rows:=[[_]]) cC U U U U U<|z6<|ba 3 U<|zr U (zh (.r (.r (.rest _)))) (hnear) ?_
     rintro r25 O25 ⟨i25,rfl,rfl⟩
     refine z6<|ba 6 U<|zr U (zh (.r (.r (.r (.rest _))))) (aN (-1) f.blocks.length (by omega) hpos) ?_
     rintro r28 O28 ⟨i28,rfl,rfl⟩
     refine z6<|ak 11 U (y5 (cps:=[(0,[_]),(1,[_]),(2,[_]),(3,[_])]) (rs:=[_,_,_,_]) cL U U U)<|ba 12 U<|yk (cs:=_) U U U U<|fun i34=>zf (zb (zc .t2))<|zf (zb (zc .t3))<|zf (zb (zc .t4))<|zf (zb (zc .t4))<|zf (zb (zc .t4))<|z6<|ak 13 U (gc U)<|bY ?_
     exact ⟨(i34,i28,b30,b32,i25),de,aH,aD,trivial⟩
  ·refine yd (m:=f.blocks.length) ji Zh U U U U U (by simp) (by simp) (by show (24:Int)*_≤_;omega) (by omega) eI 3<|fun b32=>z6<|bX.three (i:=3) (j:=4) (m:=8) U U U (by kernel_rfl) ?_ ?_ ?_
   ·refine zr U (zh (.r (.rest _))) (hnear) ?_
    rintro r25 O25 ⟨i25,rfl,rfl⟩
    refine z6<|yq (i:=4) (j:=8) U U (by kernel_rfl) ?_ ?_
    ·refine y4 (rows:=[[_]]) cC U U U U U<|z6<|yq (i:=6) (j:=8) U U (by kernel_rfl) ?_ ?_
     ·refine zr U (zh (.r (.r (.rest _)))) (aN (-1) f.blocks.length (by omega) hpos) ?_
      rintro r28 O28 ⟨i28,rfl,rfl⟩
      refine z6<|ba 8 U<|yd (m:=f.blocks.length) ji Zh U U U U U (by simp) (by simp) (by show (24:Int)*_≤_;omega) (by omega) eI 3<|fun b30=>z6<|ak 11 U (y5 (cps:=[(0,[_]),(1,[_]),(2,[_]),(3,[_])]) (rs:=[_,_,_,_]) cL U U U)<|ba 12 U<|yk (cs:=_) U U U U<|fun i34=>zf (zb (zc .t3))<|zf (zb (zc .t4))<|zf (zb (zc .t3))<|zf (zb (zc .t4))<|zf (zb (zc .t4))<|z6<|ak 13 U (gc U)<|bY ?_
      exact ⟨(i34,i28,b30,b32,i25),de,aH,aD,trivial⟩
     ·refine yd (m:=f.blocks.length) ji Zh U U U U U (by simp) (by simp) (by show (24:Int)*_≤_;omega) (by omega) eI 3<|fun b30=>z6<|ba 6 U<|zr U (zh (.r (.r (.r (.rest _))))) (aN (-1) f.blocks.length (by omega) hpos) ?_
      rintro r28 O28 ⟨i28,rfl,rfl⟩
      refine z6<|ak 11 U (y5 (cps:=[(0,[_]),(1,[_]),(2,[_]),(3,[_])]) (rs:=[_,_,_,_]) cL U U U)<|ba 12 U<|yk (cs:=_) U U U U<|fun i34=>zf (zb (zc .t3))<|zf (zb (zc .t4))<|zf (zb (zc .t4))<|zf (zb (zc .t4))<|zf (zb (zc .t4))<|z6<|ak 13 U (gc U)<|bY ?_
      exact ⟨(i34,i28,b30,b32,i25),de,aH,aD,trivial⟩
    ·refine yd (m:=f.blocks.length) ji Zh U U U U U (by simp) (by simp) (by show (24:Int)*_≤_;omega) (by omega) eI 3<|fun b30=>z6<|ba 4 U<|y4 (rows:=[[_]]) cC U U U U U<|z6<|ba 6 U<|zr U (zh (.r (.r (.r (.rest _))))) (aN (-1) f.blocks.length (by omega) hpos) ?_
     rintro r28 O28 ⟨i28,rfl,rfl⟩
     refine z6<|ak 11 U (y5 (cps:=[(0,[_]),(1,[_]),(2,[_]),(3,[_])]) (rs:=[_,_,_,_]) cL U U U)<|ba 12 U<|yk (cs:=_) U U U U<|fun i34=>zf (zb (zc .t3))<|zf (zb (zc .t4))<|zf (zb (zc .t4))<|zf (zb (zc .t4))<|zf (zb (zc .t4))<|z6<|ak 13 U (gc U)<|bY ?_
     exact ⟨(i34,i28,b30,b32,i25),de,aH,aD,trivial⟩
   ·refine y4 (rows:=[[_]]) cC U U U U U<|z6<|yq (i:=3) (j:=8) U U (by kernel_rfl) ?_ ?_
    ·refine zr U (zh (.r (.rest _))) (hnear) ?_
     rintro r25 O25 ⟨i25,rfl,rfl⟩
     refine z6<|yq (i:=6) (j:=8) U U (by kernel_rfl) ?_ ?_
     ·refine zr U (zh (.r (.r (.rest _)))) (aN (-1) f.blocks.length (by omega) hpos) ?_
      rintro r28 O28 ⟨i28,rfl,rfl⟩
      refine z6<|ba 8 U<|yd (m:=f.blocks.length) ji Zh U U U U U (by simp) (by simp) (by show (24:Int)*_≤_;omega) (by omega) eI 3<|fun b30=>z6<|ak 11 U (y5 (cps:=[(0,[_]),(1,[_]),(2,[_]),(3,[_])]) (rs:=[_,_,_,_]) cL U U U)<|ba 12 U<|yk (cs:=_) U U U U<|fun i34=>zf (zb (zc .t3))<|zf (zb (zc .t4))<|zf (zb (zc .t3))<|zf (zb (zc .t4))<|zf (zb (zc .t4))<|z6<|ak 13 U (gc U)<|bY ?_
      exact ⟨(i34,i28,b30,b32,i25),de,aH,aD,trivial⟩
     ·refine yd (m:=f.blocks.length) ji Zh U U U U U (by simp) (by simp) (by show (24:Int)*_≤_;omega) (by omega) eI 3<|fun b30=>z6<|ba 6 U<|zr U (zh (.r (.r (.r (.rest _))))) (aN (-1) f.blocks.length (by omega) hpos) ?_
      rintro r28 O28 ⟨i28,rfl,rfl⟩
      refine z6<|ak 11 U (y5 (cps:=[(0,[_]),(1,[_]),(2,[_]),(3,[_])]) (rs:=[_,_,_,_]) cL U U U)<|ba 12 U<|yk (cs:=_) U U U U<|fun i34=>zf (zb (zc .t3))<|zf (zb (zc .t4))<|zf (zb (zc .t4))<|zf (zb (zc .t4))<|zf (zb (zc .t4))<|z6<|ak 13 U (gc U)<|bY ?_
      exact ⟨(i34,i28,b30,b32,i25),de,aH,aD,trivial⟩
    ·refine yd (m:=f.blocks.length) ji Zh U U U U U (by simp) (by simp) (by show (24:Int)*_≤_;omega) (by omega) eI 3<|fun b30=>z6<|ba 3 U<|zr U (zh (.r (.r (.rest _)))) (hnear) ?_
     rintro r25 O25 ⟨i25,rfl,rfl⟩
     refine z6<|ba 6 U<|zr U (zh (.r (.r (.r (.rest _))))) (aN (-1) f.blocks.length (by omega) hpos) ?_
     rintro r28 O28 ⟨i28,rfl,rfl⟩
     refine z6<|ak 11 U (y5 (cps:=[(0,[_]),(1,[_]),(2,[_]),(3,[_])]) (rs:=[_,_,_,_]) cL U U U)<|ba 12 U<|yk (cs:=_) U U U U<|fun i34=>zf (zb (zc .t2))<|zf (zb (zc .t4))<|zf (zb (zc .t4))<|zf (zb (zc .t4))<|zf (zb (zc .t4))<|z6<|ak 13 U (gc U)<|bY ?_
     exact ⟨(i34,i28,b30,b32,i25),de,aH,aD,trivial⟩
   ·refine yd (m:=f.blocks.length) ji Zh U U U U U (by simp) (by simp) (by show (24:Int)*_≤_;omega) (by omega) eI 3<|fun b30=>z6<|yq (i:=3) (j:=4) U U (by kernel_rfl) ?_ ?_
    ·refine zr U (zh (.r (.r (.rest _)))) (hnear) ?_
     rintro r25 O25 ⟨i25,rfl,rfl⟩
     refine z6<|ba 4 U<|y4 (rows:=[[_]]) cC U U U U U<|z6<|ba 6 U<|zr U (zh (.r (.r (.r (.rest _))))) (aN (-1) f.blocks.length (by omega) hpos) ?_
     rintro r28 O28 ⟨i28,rfl,rfl⟩
     refine z6<|ak 11 U (y5 (cps:=[(0,[_]),(1,[_]),(2,[_]),(3,[_])]) (rs:=[_,_,_,_]) cL U U U)<|ba 12 U<|yk (cs:=_) U U U U<|fun i34=>zf (zb (zc .t2))<|zf (zb (zc .t4))<|zf (zb (zc .t4))<|zf (zb (zc .t4))<|zf (zb (zc .t4))<|z6<|ak 13 U (gc U)<|bY ?_
     exact ⟨(i34,i28,b30,b32,i25),de,aH,aD,trivial⟩
    ·refine y4 (rows:=[[_]]) cC U U U U U<|z6<|ba 3 U<|zr U (zh (.r (.r (.rest _)))) (hnear) ?_
     rintro r25 O25 ⟨i25,rfl,rfl⟩
     refine z6<|ba 6 U<|zr U (zh (.r (.r (.r (.rest _))))) (aN (-1) f.blocks.length (by omega) hpos) ?_
     rintro r28 O28 ⟨i28,rfl,rfl⟩
     refine z6<|ak 11 U (y5 (cps:=[(0,[_]),(1,[_]),(2,[_]),(3,[_])]) (rs:=[_,_,_,_]) cL U U U)<|ba 12 U<|yk (cs:=_) U U U U<|fun i34=>zf (zb (zc .t2))<|zf (zb (zc .t4))<|zf (zb (zc .t4))<|zf (zb (zc .t4))<|zf (zb (zc .t4))<|z6<|ak 13 U (gc U)<|bY ?_
     exact ⟨(i34,i28,b30,b32,i25),de,aH,aD,trivial⟩
 ·rintro ⟨i34,i28,b30,b32,i25⟩ _
  refine ae<|aE U<|aw U<|za (zn Zb U j8 (by decide) U U)<|za (zt (c:=.own _ _) j9 U ⟨_,.head⟩ U)<|za (yp (j:=0) wz j6 U U U ⟨_,.t1⟩ (by first|rfl|(simp[aQ,aW];done)|(simp[aQ,aW];omega)) hpos)<|q6 (j:=0) j6 U U .t1 (by first|omega|(simp;omega))<|z6<|zd<|ae<|aT U<|za (Gv.cutLoM (j:=1) wz j6 U U U (by omega))<|ar wz U<|aa U<|z6<|zj<|y8 (γ:=Nat) [4,5,6,7,41,42] (fun q=>[(43,.int .i64 q)]) (fun q=>[(i34,.cells 130 [.own i25 f.blocks.length,.own i28 f.blocks.length,eb b30 f.blocks.length,eb b32 f.blocks.length]),(i28,.grow 1 3 (cI (gm (ah f) f.blocks.length q))),(0,du eI 23 3 b30 (List.replicate f.blocks.length [])),(0,du eI 23 3 b32 (List.replicate f.blocks.length [])),(i25,.grow 1 3 (cI (bi (ah f) f.blocks.length)))]) (fun q=>q≤((aA (ah f) f.blocks.length).drop 1).length∧∀x,-1≤gi (gm (ah f) f.blocks.length q) x∧gi (gm (ah f) f.blocks.length q) x≤q) (fun q=>((aA (ah f) f.blocks.length).drop 1).length - q) 0 aH aD (⟨qn _,fun x=>by rw[show gm (ah f) f.blocks.length 0=e8 f.blocks.length from rfl,ma hpos];dsimp only;split<;>omega⟩) ?_
  rintro q ⟨hq,hb⟩
  refine ae<|ax U U<|z6<|zd<|zu U (fun cq=>?_) (fun cq=>?_)
  ·have hq2:q<((aA (ah f) f.blocks.length).drop 1).length:=by simpa using cq
   obtain ⟨b,hbe⟩:∃b,((aA (ah f) f.blocks.length).drop 1)[q]=b:=⟨_,rfl⟩
   have hbt:b∈(aA (ah f) f.blocks.length).drop 1:=hbe▸qo hq2
   have hbm:b∈aA (ah f) f.blocks.length:=List.mem_of_mem_drop hbt
   have hb0:=Dq hG.toEOk hbt
   obtain ⟨hbp,hbn⟩:=hrng b hbm
   have hnm:=(hG.near_mem hbm hb0).1
   rw[←ei hbp hb0] at hnm
   obtain ⟨hnp,hnn⟩:=hrng _ hnm
   have hgN:(bi (ah f) f.blocks.length)[b.toNat]?=some (gi (bi (ah f) f.blocks.length) b):=fN hbp (by rw[fi];omega)
   have hgL:(gm (ah f) f.blocks.length q)[(gi (bi (ah f) f.blocks.length) b).toNat]?=some (gi (gm (ah f) f.blocks.length q) (gi (bi (ah f) f.blocks.length) b)):=fN hnp (by rw[rC];omega)
   have hbb:=hb (gi (bi (ah f) f.blocks.length) b)
   have hsucc:gm (ah f) f.blocks.length (q+1)=(gm (ah f) f.blocks.length q).set b.toNat (gi (gm (ah f) f.blocks.length q) (gi (bi (ah f) f.blocks.length) b)+1):=by rw[vU hq2,hbe,ei hbp hb0];rfl
   have hlen:=rC (ah f) f.blocks.length q
   have hNl:=fi (ah f) f.blocks.length
   have hql:q≤1000:=by have:((aA (ah f) f.blocks.length).drop 1).length≤(aA (ah f) f.blocks.length).length:=(by simp);omega
   refine zg<|zd<|zj<|ae<|za (bh q wz j6 U U U (by rw[qk hq2,hbe])) ?_
   refine ay j7 U<|ap U<|z6<|zw (fun j=>Nat.beq j 20) (by kernel_rfl) U (zh (.r (.l (.l (.l (.r (.rest _)))))))<|ak 0 U (ef U)<|ak 1 U (yb U)<|ak 2 U (zn Zb U j8 (by decide) U U)<|ak 3 U (zt (c:=.own _ _) j9 U ⟨_,.head⟩ U)<|ak 4 U (dq U)<|ak 5 U (ef U)<|ak 6 U (yb U)<|ak 7 U (zn Zb U j8 (by decide) U U)<|ak 8 U (zt (c:=.own _ _) j9 U ⟨_,.head⟩ U)<|ak 9 U (ef U)<|ak 10 U (yb U)<|ak 11 U (zn Zb U j8 (by decide) U U)<|ak 12 U (zt (c:=.own _ _) j9 U ⟨_,.head⟩ U)<|ak 13 U (dq U)<|ak 14 U (yp (j:=b.toNat) wz j6 U U (by omega) ⟨_,.t1⟩ (by first|rfl|(simp[aQ,aW];done)|(simp[aQ,aW];omega)) (by omega))<|ak 15 U (q3 (j:=b.toNat) j7 U ⟨_,.t1⟩ hgN)<|ba 16 U<|za (yp (j:=(gi (bi (ah f) f.blocks.length) b).toNat) wz j6 U U (by omega) ⟨_,.head⟩ (by first|rfl|(simp[aQ,aW];done)|(simp[aQ,aW];omega)) (by omega))<|z6<|ba 17 U<|za (q3 (j:=(gi (bi (ah f) f.blocks.length) b).toNat) j7 U ⟨_,.head⟩ hgL)<|z6<|ak 18 U (CA U U)<|ba 19 U<|za (yp (j:=b.toNat) wz j6 U U (by omega) ⟨_,.head⟩ (by first|rfl|(simp[aQ,aW];done)|(simp[aQ,aW];omega)) (by omega))<|z6<|ym<|yi (i:=20) U (by kernel_rfl) (by kernel_rfl)<|q6 (j:=b.toNat) j6 U U .t2 (by first|omega|(simp;omega))<|zf (zb (zc .t1))<|zf (zb (zc .t4))<|zf (zb (zc .t4))<|zf (zb (zc .t4))<|zf (zb (zc .t4))<|z6<|yo (by kernel_rfl)<|aO ?_
   refine aC U U<|aa U<|z6 ?_
   exact ⟨q+1,nu,aH,⟨_,(.refl _),by rw[hsucc]⟩,⟨hq2,fun x=>by rw[hsucc,sg hbp (by omega)];have:=hb x;split<;>omega⟩,by omega⟩
  ·have hqn:q=((aA (ah f) f.blocks.length).drop 1).length:=by have h0:¬(q:Int)<(((aA (ah f) f.blocks.length).drop 1).length:Int):=(by simpa using cq);omega
   subst hqn
   rw[zF]
   refine y7<|zd<|ae<|aa U<|aa U<|z6<|zj<|y8 (γ:=Nat) [4,6,7,68] (fun k=>[(69,.int .i64 k)]) (fun k=>[(i34,.cells 130 [.own i25 f.blocks.length,.own i28 f.blocks.length,eb b30 f.blocks.length,eb b32 f.blocks.length]),(i28,.grow 1 3 (cI (bT (ah f) f.blocks.length))),(0,du eI 23 3 b30 (cF f.blocks.length (sx (bi (ah f) f.blocks.length) k))),(0,du eI 23 3 b32 (List.replicate f.blocks.length [])),(i25,.grow 1 3 (cI (bi (ah f) f.blocks.length)))]) (fun k=>k≤f.blocks.length) (fun k=>f.blocks.length - k) 0 aH ⟨_,(.refl _),by rw[oY];rfl⟩ (qn _) ?_
   rintro k hk
   refine ae<|ax U U<|z6<|zd<|zu U (fun ck=>?_) (fun ck=>?_)
   ·have hk2:k<f.blocks.length:=by simp at ck;omega
    have hNl:=fi (ah f) f.blocks.length
    have hgN:(bi (ah f) f.blocks.length)[k]?=some (gi (bi (ah f) f.blocks.length) (k:Int)):=fN (x:=(k:Int)) (by omega) (by rw[fi];omega)
    have hel:=Dr (bi (ah f) f.blocks.length) k
    refine zg<|zd<|zj<|ae<|aa U<|ap U<|z6<|ae<|aE U<|aw U<|za (zn Zb U j8 (by decide) U U)<|za (zt (c:=.own _ _) j9 U ⟨_,.head⟩ U)<|aa U<|za (yp (j:=k) wz j6 U U U ⟨_,.t4⟩ (by first|rfl|(simp[aQ,aW];done)|(simp[aQ,aW];omega)) hk2)<|za (q3 (j:=k) j7 U ⟨_,.t4⟩ hgN)<|ap U<|z6<|ae<|aa U<|aM U U<|z6<|zy U (fun cn=>?_) (fun cn=>?_)
    ·have hne:gi (bi (ah f) f.blocks.length) (k:Int)≠-1:=by simpa using cn
     have hpm:=(BA hG (by omega) hne).2
     obtain ⟨hp0,hpn⟩:=hrng _ hpm
     obtain ⟨p,hpe⟩:∃p,gi (bi (ah f) f.blocks.length) (k:Int)=p:=⟨_,rfl⟩
     rw[hpe] at hne hpm hp0 hpn
     have hpl:p.toNat<(cF f.blocks.length (sx (bi (ah f) f.blocks.length) k)).length:=by rw[cP];omega
     have hrl:=iX hpl
     have hsucc:sx (bi (ah f) f.blocks.length) (k+1)=sx (bi (ah f) f.blocks.length) k++[(p,(k:Int))]:=by rw[uo,hpe,if_pos hne]
     rw[hpe]
     refine ya (γ:=Unit) [4,6,7,68,69] (fun u=>[]) (fun u=>[(i34,.cells 130 [.own i25 f.blocks.length,.own i28 f.blocks.length,eb b30 f.blocks.length,eb b32 f.blocks.length]),(i28,.grow 1 3 (cI (bT (ah f) f.blocks.length))),(0,du eI 23 3 b30 ((cF f.blocks.length (sx (bi (ah f) f.blocks.length) k)).set p.toNat ((cF f.blocks.length (sx (bi (ah f) f.blocks.length) k))[p.toNat]++[(k:Int)]))),(0,du eI 23 3 b32 (List.replicate f.blocks.length [])),(i25,.grow 1 3 (cI (bi (ah f) f.blocks.length)))]) (fun u=>True) ?_ (fun _ _ h=>h) ?_
     ·refine zw (fun j=>Nat.beq j 16) (by kernel_rfl) U (zh (.r (.l (.l (.l (.r (.rest _)))))))<|ak 0 U (ef U)<|ak 1 U (yb U)<|ak 2 U (zn Zb U Xa (by decide) U U)<|ak 3 U (zt (c:=eb _ _) isAgg70 U ⟨_,.head⟩ U)<|ak 4 U (dq U)<|ak 5 U (ef U)<|ak 6 U (yb U)<|ak 7 U (zn Zb U Xa (by decide) U U)<|ak 8 U (zt (c:=eb _ _) isAgg70 U ⟨_,.head⟩ U)<|ak 9 U (dq U)<|ak 10 U (qh (j:=p.toNat) ji j8 U U (by omega) (by omega))<|ak 12 U (dq U)<|yq (i:=11) (j:=13) U U (by kernel_rfl) ?_ ?_
      ·refine q8 (j:=p.toNat) (r:=(cF f.blocks.length (sx (bi (ah f) f.blocks.length) k))[p.toNat]) j9 U (qk hpl) (fun _=>.t1)<|fun i92=>z6<|ba 13 U<|y4 (rows:=[[_]]) cC U U U U U<|z6<|ba 14 U<|yj (k:=1) wz X8 U U U U U (fun _=>.head) (by rw[eI.av_len];rfl) (by decide) U (by show (_+1)*8≤_;omega) (by show _+1≤_;omega)<|fun i95=>z6<|ak 15 U (qh (j:=p.toNat) ji j8 U U (by omega) (by omega))<|ym<|yi (i:=16) U (by kernel_rfl) (by kernel_rfl)<|qi (j:=p.toNat) (r:=(cF f.blocks.length (sx (bi (ah f) f.blocks.length) k))[p.toNat]++[(k:Int)]) j8 U U (by omega) .t2 .t3 U (eI.av_push _ _) (by simp)<|zf (zb (zc .t1))<|zf (zb (zc .t4))<|zf (zb (zc .t4))<|zf (zb (zc .t4))<|zf (zb (zc .t4))<|z6<|yo (by kernel_rfl) ?_
       exact ⟨(),iO,trivial,aD,trivial⟩
      ·refine y4 (rows:=[[_]]) cC U U U U U<|z6<|ba 11 U<|q8 (j:=p.toNat) (r:=(cF f.blocks.length (sx (bi (ah f) f.blocks.length) k))[p.toNat]) j9 U (qk hpl) (fun _=>.t1)<|fun i92=>z6<|ba 14 U<|yj (k:=1) wz X8 U U U U U (fun _=>.head) (by rw[eI.av_len];rfl) (by decide) U (by show (_+1)*8≤_;omega) (by show _+1≤_;omega)<|fun i95=>z6<|ak 15 U (qh (j:=p.toNat) ji j8 U U (by omega) (by omega))<|ym<|yi (i:=16) U (by kernel_rfl) (by kernel_rfl)<|qi (j:=p.toNat) (r:=(cF f.blocks.length (sx (bi (ah f) f.blocks.length) k))[p.toNat]++[(k:Int)]) j8 U U (by omega) .t2 .t3 U (eI.av_push _ _) (by simp)<|zf (zb (zc .t1))<|zf (zb (zc .t4))<|zf (zb (zc .t4))<|zf (zb (zc .t4))<|zf (zb (zc .t4))<|z6<|yo (by kernel_rfl) ?_
       exact ⟨(),iO,trivial,aD,trivial⟩
     ·rintro _ _
      refine aO<|aC U U<|aa U<|z6 ?_
      exact ⟨k+1,fl,aH,⟨_,(.refl _),by rw[hsucc,ks hp0 hpl]⟩,hk2,by omega⟩
    ·have hne:gi (bi (ah f) f.blocks.length) (k:Int)=-1:=by simpa using cn
     have hsucc:sx (bi (ah f) f.blocks.length) (k+1)=sx (bi (ah f) f.blocks.length) k:=by rw[uo,if_neg (by rw[hne];simp)];simp
     refine zg<|aO<|aC U U<|aa U<|z6 ?_
     exact ⟨k+1,fl,aH,⟨_,(.refl _),by rw[hsucc]⟩,hk2,by omega⟩
   ·have hkn:k=f.blocks.length:=by simp at ck;omega
    subst hkn
    refine y3 (zb (zc .t4))<|y3 (zb (zc .t2))<|y3 (zb (zc .t2))<|y3 (zb (zc .t4))<|y7<|ae<|aE U<|aT U<|aT U<|zr U (zh (.l (.l (.l (.l (.r (.rest _))))))) (hfr _ _ _ _ 0 _) ?_
    rintro r101 O101 ⟨rfl,fr,hfr2,rfl⟩
    refine z6<|ae<|aE U<|za (gc U)<|ap U<|z6<|y3 (aX.knowIC (off:=0) .t3 .t1 U (fi _ _))<|y3 (aX.knowIC (off:=1) .t2 .t1 U hG.lev.len)<|y3 (aX.nestKnowC (off:=2) .t2 .t1 U (cP _ _))<|y3 (aX.nestKnowC (off:=3) .head .head U hfr2.1)<|y3 (yf (t:=2) U .head)<|zi<|q7 (x:=.pf _) (y:=.int _ _) U U ?_
    exact ⟨⟨fr,hfr2,rfl⟩,rfl⟩
def gN (f:ad):AV:=mj f (lg eI (ni f)) .any
theorem uq (f:ad) (hf:small f) (hL:bB E) (ht:bj f=true):aK prog E 33 [.agg (bD f)] (.tup [gN f,.int .i64 0]):=
 (Ds f hf hL ht).weak fun x O h=>by
  obtain ⟨⟨fr,hfr,rfl⟩,rfl⟩:=h
  refine ⟨U,fun I v hv=>?_⟩
  obtain ⟨vs,e,w0,us,e2,h0,hr⟩:=hv
  obtain ⟨b,off,ws,e3,hl,hk⟩:=h0
  obtain ⟨u0,t0,f0,a0,u1,t1,f1,a1,u2,t2,f2,a2,u3,t3,f3,a3,hz⟩:=hl
  exact ⟨vs,e,w0,us,e2,⟨b,off,ws,e3,⟨u0,t0,f0,a0,u1,t1,f1,a1,u2,t2,f2,a2,u3,t3,f3,trivial,hz⟩,hk⟩,hr⟩
end Go.Proofs.YtdilpodccjlkgaaGreatDoor
