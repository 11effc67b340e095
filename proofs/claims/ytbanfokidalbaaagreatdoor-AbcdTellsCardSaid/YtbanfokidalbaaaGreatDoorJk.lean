/- The tree of what is above what, made. Of programs that are little. -/
import Derived.Test.YtbanfokidalbaaaGreatDoorJj
set_option linter.unusedVariables false
set_option linter.unusedSimpArgs false
set_option linter.unusedSectionVars false
namespace Go.Proofs.YtbanfokidalbaaaGreatDoor
open Go.Proofs.Tryz
open Go.Proofs Go.Lib Go.Shelf Go.RowKit
theorem cN:el prog 159 #[(0,1),(1,1),(2,1),(3,1)] [.raw (.slice none 0 0),.raw (.slice none 0 0),.raw (.slice none 0 0),.raw (.slice none 0 0)]:=⟨_,_,Zc,zeroValue159,fun w=>by kernel_rfl,rfl⟩
variable {E:World}
set_option maxRecDepth 20000
def gQ (S:Int→List Int) (n q:Nat):List Int:=(((aD S n).drop 1).take q).foldl (vA (cW S n)) (fp n)
theorem Ap {S:Int→List Int} {n q:Nat} (h:q<((aD S n).drop 1).length):gQ S n (q+1)=vA (cW S n) (gQ S n q) ((aD S n).drop 1)[q]:=by
 unfold gQ;rw[qr h,List.foldl_append];rfl
theorem DS (S:Int→List Int) (n:Nat):gQ S n ((aD S n).drop 1).length=b5 S n:=by unfold gQ b5;rw[qv,List.drop_one]
theorem tQ (S:Int→List Int) (n q:Nat):(gQ S n q).length=n:=by unfold gQ;rw[oc (fun l x=>vB _ l x),mj]
theorem IL {S:Int→List Int} {n:Nat} (hE:EOk S n) {b:Int} (hb:b∈(aD S n).drop 1):b≠0:=by
 have h1:=me hE
 have h2:=iW hE
 cases h:aD S n with
 |nil=>rw[h] at h1;simp at h1
 |cons z zs=>
  rw[h] at h1 h2 hb
  simp at h1
  subst h1
  intro e
  subst e
  exact (List.nodup_cons.1 h2).1 (by simpa using hb)
theorem DT {S:Int→List Int} {n:Nat} (hE:EOk S n):0<(aD S n).length:=by
 have h1:=me hE
 cases h:aD S n with
 |nil=>rw[h] at h1;simp at h1
 |cons z zs=>simp
def vy (N:List Int) (k:Nat):List (Int × Int):=((d5 k).filter fun b=>decide (gi N b≠-1)).map fun b=>(gi N b,b)
theorem wI (N:List Int) (k:Nat):vy N (k+1)=vy N k++if gi N (k:Int)≠-1 then[(gi N (k:Int),(k:Int))] else[]:=by
 unfold vy;rw[oy,List.filter_append,List.map_append]
 by_cases h:gi N (k:Int)=-1<;>simp[h]
theorem IM (N:List Int) (k:Nat):(vy N k).length≤k:=by
 unfold vy;rw[qx];exact Nat.le_trans (List.length_filter_le _ _) (by rw[fq];exact Nat.le_refl _)
def BO (f:ad):List (List Int):=cE f.blocks.length (vy (bu (ao f) f.blocks.length) f.blocks.length)
theorem Gd {S:Int→List Int} {n:Nat} (hG:f8 S n) {b:Int} (h0:0≤b) (hb:gi (bu S n) b≠-1):b∈aD S n∧gi (bu S n) b∈aD S n:=by
 by_cases e:b=0
 ·rw[e,uP hG.npos] at hb;exact absurd rfl hb
 ·rw[gm h0 e] at hb ⊢
  have:=hG.exact.inv.mem b hb
  exact ⟨this,(hG.near_mem this e).1⟩
set_option maxHeartbeats 4000000 in
theorem IO (f:ad) (hf:small f) (hL:aE E) (ht:aR f=true):ba prog E 36 [.agg (bL f)] []
  fun r O=>(∃fr,vx f.blocks.length fr∧r=.tup [rC f (oY eI (BO f)) (oY eI fr),.int .i64 0])∧O=[]:=by
 have hE:=bT ht
 have hn:=hf.2.2.1
 have hG:=hE.grph
 have hpos:=hG.npos
 have hol:=fy hG
 have hop:=DT hG.toEOk
 have hnear:=uQ (E:=E) f hE hn
 have hfr:=fun t a b fb T x=>wH (E:=E) f hE hn t a b fb T x _ (vx.begin f.blocks.length)
 have hprd:=wx f hf hL ht
 have hord:=wy f hf hL ht
 have hrng:∀z∈aD (ao f) f.blocks.length,0≤z∧z<f.blocks.length:=fun z hz=>dq hG.toEOk hz
 refine zo func36 Z (by decide) Z<|ah<|yb (cs:=_) Z Z Z<|bV Z<|ay Z<|z6<|ah<|ab jm jh Z Z<|ze (hord) Z<|za (iw Z)<|z6<|zc<|ah<|aU Z<|ak j9 Z<|aj Z Z<|z6<|yj Z (by simp;exact List.ne_nil_of_length_pos hop)<|zd<|zc<|y7 (fun j=>false) (by kernel_rfl) Z (zn (.rest _))<|au 0 Z (cA je Z Ze Z Z)<|au 1 Z (iS Zl Z)<|au 2 Z (Gv.lenM jk Z)<|au 3 Z (yk jm jh Z Z)<|aV 4 Z<|ze (hprd) Z<|z6<|au 5 Z (Fa Z)<|au 6 Z (iw Z)<|bY<|zc<|yf (γ:=Nat × Nat × Nat × Nat × Nat) [4,5,6] (fun g=>[(7,.po g.1 0)]) (fun g=>[(g.1,.cells 159 [.own g.2.2.2.2 f.blocks.length,.own g.2.1 f.blocks.length,dn g.2.2.1 f.blocks.length,dn g.2.2.2.1 f.blocks.length]),(g.2.1,.grow 1 3 (cI (List.replicate f.blocks.length (-1)))),(0,cJ eI 23 3 g.2.2.1 (List.replicate f.blocks.length [])),(0,cJ eI 23 3 g.2.2.2.1 (List.replicate f.blocks.length [])),(g.2.2.2.2,.grow 1 3 (cI (bu (ao f) f.blocks.length)))]) (fun g=>True) ?_ (fun _ _ h=>h) ?_
 ·refine y7 (fun j=>false) (by kernel_rfl) Z (zn (.rest _))<|au 0 Z (kl Z)<|au 1 Z (kl Z)<|au 2 Z (cG Z)<|au 5 Z (cG Z)<|au 7 Z (cG Z)<|au 9 Z (cG Z)<|bK.four (i:=3) (j:=4) (m:=8) (q:=10) Z Z Z Z (by kernel_rfl) ?_ ?_ ?_ ?_
  ·refine zu Z (zn (.rest _)) (hnear) ?_
   rintro r25 O25 ⟨i25,rfl,rfl⟩
   refine z6<|bK.three (i:=4) (j:=8) (m:=10) Z Z Z (by kernel_rfl) ?_ ?_ ?_
   ·refine y8 (rows:=[[_]]) cZ Z Z Z Z Z<|z6<|bK.three (i:=6) (j:=8) (m:=10) Z Z Z (by kernel_rfl) ?_ ?_ ?_
    ·refine zu Z (zn (.r (.rest _))) (aL (-1) f.blocks.length (by omega) hpos) ?_
     rintro r28 O28 ⟨i28,rfl,rfl⟩
     refine z6<|yv (i:=8) (j:=10) Z Z (by kernel_rfl) ?_ ?_
     ·refine ye (m:=f.blocks.length) jf Zh Z Z Z Z Z (by simp) (by simp) (by show (24:Int)*_≤_;omega) (by omega) eI 3<|fun b30=>z6<|aV 10 Z<|ye (m:=f.blocks.length) jf Zh Z Z Z Z Z (by simp) (by simp) (by show (24:Int)*_≤_;omega) (by omega) eI 3<|fun b32=>z6<|au 11 Z (zz (cps:=[(0,[_]),(1,[_]),(2,[_]),(3,[_])]) (rs:=[_,_,_,_]) cN Z Z Z)<|aV 12 Z<|yq (cs:=_) Z Z Z Z<|fun i34=>zf (zi (zj .t4))<|zf (zi (zj .t2))<|zf (zi (zj .t3))<|zf (zi (zj .t4))<|zf (zi (zj .t4))<|z6<|au 13 Z (iQ Z)<|bY ?_
      exact ⟨(i34,i28,b30,b32,i25),dC,aG,aC,trivial⟩
     ·refine ye (m:=f.blocks.length) jf Zh Z Z Z Z Z (by simp) (by simp) (by show (24:Int)*_≤_;omega) (by omega) eI 3<|fun b32=>z6<|aV 8 Z<|ye (m:=f.blocks.length) jf Zh Z Z Z Z Z (by simp) (by simp) (by show (24:Int)*_≤_;omega) (by omega) eI 3<|fun b30=>z6<|au 11 Z (zz (cps:=[(0,[_]),(1,[_]),(2,[_]),(3,[_])]) (rs:=[_,_,_,_]) cN Z Z Z)<|aV 12 Z<|yq (cs:=_) Z Z Z Z<|fun i34=>zf (zi (zj .t4))<|zf (zi (zj .t3))<|zf (zi (zj .t3))<|zf (zi (zj .t4))<|zf (zi (zj .t4))<|z6<|au 13 Z (iQ Z)<|bY ?_
      exact ⟨(i34,i28,b30,b32,i25),dC,aG,aC,trivial⟩
    ·refine ye (m:=f.blocks.length) jf Zh Z Z Z Z Z (by simp) (by simp) (by show (24:Int)*_≤_;omega) (by omega) eI 3<|fun b30=>z6<|yv (i:=6) (j:=10) Z Z (by kernel_rfl) ?_ ?_
     ·refine zu Z (zn (.r (.r (.rest _)))) (aL (-1) f.blocks.length (by omega) hpos) ?_
      rintro r28 O28 ⟨i28,rfl,rfl⟩
      refine z6<|aV 10 Z<|ye (m:=f.blocks.length) jf Zh Z Z Z Z Z (by simp) (by simp) (by show (24:Int)*_≤_;omega) (by omega) eI 3<|fun b32=>z6<|au 11 Z (zz (cps:=[(0,[_]),(1,[_]),(2,[_]),(3,[_])]) (rs:=[_,_,_,_]) cN Z Z Z)<|aV 12 Z<|yq (cs:=_) Z Z Z Z<|fun i34=>zf (zi (zj .t4))<|zf (zi (zj .t2))<|zf (zi (zj .t4))<|zf (zi (zj .t4))<|zf (zi (zj .t4))<|z6<|au 13 Z (iQ Z)<|bY ?_
      exact ⟨(i34,i28,b30,b32,i25),dC,aG,aC,trivial⟩
     ·refine ye (m:=f.blocks.length) jf Zh Z Z Z Z Z (by simp) (by simp) (by show (24:Int)*_≤_;omega) (by omega) eI 3<|fun b32=>z6<|aV 6 Z<|zu Z (zn (.r (.r (.r (.rest _))))) (aL (-1) f.blocks.length (by omega) hpos) ?_
      rintro r28 O28 ⟨i28,rfl,rfl⟩
      refine z6<|au 11 Z (zz (cps:=[(0,[_]),(1,[_]),(2,[_]),(3,[_])]) (rs:=[_,_,_,_]) cN Z Z Z)<|aV 12 Z<|yq (cs:=_) Z Z Z Z<|fun i34=>zf (zi (zj .t4))<|zf (zi (zj .t3))<|zf (zi (zj .t4))<|zf (zi (zj .t4))<|zf (zi (zj .t4))<|z6<|au 13 Z (iQ Z)<|bY ?_
      exact ⟨(i34,i28,b30,b32,i25),dC,aG,aC,trivial⟩
    ·refine ye (m:=f.blocks.length) jf Zh Z Z Z Z Z (by simp) (by simp) (by show (24:Int)*_≤_;omega) (by omega) eI 3<|fun b32=>z6<|yv (i:=6) (j:=8) Z Z (by kernel_rfl) ?_ ?_
     ·refine zu Z (zn (.r (.r (.rest _)))) (aL (-1) f.blocks.length (by omega) hpos) ?_
      rintro r28 O28 ⟨i28,rfl,rfl⟩
      refine z6<|aV 8 Z<|ye (m:=f.blocks.length) jf Zh Z Z Z Z Z (by simp) (by simp) (by show (24:Int)*_≤_;omega) (by omega) eI 3<|fun b30=>z6<|au 11 Z (zz (cps:=[(0,[_]),(1,[_]),(2,[_]),(3,[_])]) (rs:=[_,_,_,_]) cN Z Z Z)<|aV 12 Z<|yq (cs:=_) Z Z Z Z<|fun i34=>zf (zi (zj .t4))<|zf (zi (zj .t4))<|zf (zi (zj .t3))<|zf (zi (zj .t4))<|zf (zi (zj .t4))<|z6<|au 13 Z (iQ Z)<|bY ?_
      exact ⟨(i34,i28,b30,b32,i25),dC,aG,aC,trivial⟩
     ·refine ye (m:=f.blocks.length) jf Zh Z Z Z Z Z (by simp) (by simp) (by show (24:Int)*_≤_;omega) (by omega) eI 3<|fun b30=>z6<|aV 6 Z<|zu Z (zn (.r (.r (.r (.rest _))))) (aL (-1) f.blocks.length (by omega) hpos) ?_
      rintro r28 O28 ⟨i28,rfl,rfl⟩
      refine z6<|au 11 Z (zz (cps:=[(0,[_]),(1,[_]),(2,[_]),(3,[_])]) (rs:=[_,_,_,_]) cN Z Z Z)<|aV 12 Z<|yq (cs:=_) Z Z Z Z<|fun i34=>z6<|au 13 Z (iQ Z)<|bY ?_
      exact ⟨(i34,i28,b30,b32,i25),dC,aG,aC,trivial⟩
   ·refine ye (m:=f.blocks.length) jf Zh Z Z Z Z Z (by simp) (by simp) (by show (24:Int)*_≤_;omega) (by omega) eI 3<|fun b30=>z6<|yv (i:=4) (j:=10) Z Z (by kernel_rfl) ?_ ?_
    ·refine y8 (rows:=[[_]]) cZ Z Z Z Z Z<|z6<|yv (i:=6) (j:=10) Z Z (by kernel_rfl) ?_ ?_
     ·refine zu Z (zn (.r (.r (.rest _)))) (aL (-1) f.blocks.length (by omega) hpos) ?_
      rintro r28 O28 ⟨i28,rfl,rfl⟩
      refine z6<|aV 10 Z<|ye (m:=f.blocks.length) jf Zh Z Z Z Z Z (by simp) (by simp) (by show (24:Int)*_≤_;omega) (by omega) eI 3<|fun b32=>z6<|au 11 Z (zz (cps:=[(0,[_]),(1,[_]),(2,[_]),(3,[_])]) (rs:=[_,_,_,_]) cN Z Z Z)<|aV 12 Z<|yq (cs:=_) Z Z Z Z<|fun i34=>zf (zi (zj .t4))<|zf (zi (zj .t2))<|zf (zi (zj .t4))<|zf (zi (zj .t4))<|zf (zi (zj .t4))<|z6<|au 13 Z (iQ Z)<|bY ?_
      exact ⟨(i34,i28,b30,b32,i25),dC,aG,aC,trivial⟩
     ·refine ye (m:=f.blocks.length) jf Zh Z Z Z Z Z (by simp) (by simp) (by show (24:Int)*_≤_;omega) (by omega) eI 3<|fun b32=>z6<|aV 6 Z<|zu Z (zn (.r (.r (.r (.rest _))))) (aL (-1) f.blocks.length (by omega) hpos) ?_
      rintro r28 O28 ⟨i28,rfl,rfl⟩
      refine z6<|au 11 Z (zz (cps:=[(0,[_]),(1,[_]),(2,[_]),(3,[_])]) (rs:=[_,_,_,_]) cN Z Z Z)<|aV 12 Z<|yq (cs:=_) Z Z Z Z<|fun i34=>zf (zi (zj .t4))<|zf (zi (zj .t3))<|zf (zi (zj .t4))<|zf (zi (zj .t4))<|zf (zi (zj .t4))<|z6<|au 13 Z (iQ Z)<|bY ?_
      exact ⟨(i34,i28,b30,b32,i25),dC,aG,aC,trivial⟩
    ·refine ye (m:=f.blocks.length) jf Zh Z Z Z Z Z (by simp) (by simp) (by show (24:Int)*_≤_;omega) (by omega) eI 3<|fun b32=>z6<|aV 4 Z<|y8 (rows:=[[_]]) cZ Z Z Z Z Z<|z6<|aV 6 Z<|zu Z (zn (.r (.r (.r (.rest _))))) (aL (-1) f.blocks.length (by omega) hpos) ?_
     rintro r28 O28 ⟨i28,rfl,rfl⟩
     refine z6<|au 11 Z (zz (cps:=[(0,[_]),(1,[_]),(2,[_]),(3,[_])]) (rs:=[_,_,_,_]) cN Z Z Z)<|aV 12 Z<|yq (cs:=_) Z Z Z Z<|fun i34=>zf (zi (zj .t4))<|zf (zi (zj .t3))<|zf (zi (zj .t4))<|zf (zi (zj .t4))<|zf (zi (zj .t4))<|z6<|au 13 Z (iQ Z)<|bY ?_
     exact ⟨(i34,i28,b30,b32,i25),dC,aG,aC,trivial⟩
   ·refine ye (m:=f.blocks.length) jf Zh Z Z Z Z Z (by simp) (by simp) (by show (24:Int)*_≤_;omega) (by omega) eI 3<|fun b32=>z6<|yv (i:=4) (j:=8) Z Z (by kernel_rfl) ?_ ?_
    ·refine y8 (rows:=[[_]]) cZ Z Z Z Z Z<|z6<|yv (i:=6) (j:=8) Z Z (by kernel_rfl) ?_ ?_
     ·refine zu Z (zn (.r (.r (.rest _)))) (aL (-1) f.blocks.length (by omega) hpos) ?_
      rintro r28 O28 ⟨i28,rfl,rfl⟩
      refine z6<|aV 8 Z<|ye (m:=f.blocks.length) jf Zh Z Z Z Z Z (by simp) (by simp) (by show (24:Int)*_≤_;omega) (by omega) eI 3<|fun b30=>z6<|au 11 Z (zz (cps:=[(0,[_]),(1,[_]),(2,[_]),(3,[_])]) (rs:=[_,_,_,_]) cN Z Z Z)<|aV 12 Z<|yq (cs:=_) Z Z Z Z<|fun i34=>zf (zi (zj .t4))<|zf (zi (zj .t4))<|zf (zi (zj .t3))<|zf (zi (zj .t4))<|zf (zi (zj .t4))<|z6<|au 13 Z (iQ Z)<|bY ?_
      exact ⟨(i34,i28,b30,b32,i25),dC,aG,aC,trivial⟩
     ·refine ye (m:=f.blocks.length) jf Zh Z Z Z Z Z (by simp) (by simp) (by show (24:Int)*_≤_;omega) (by omega) eI 3<|fun b30=>z6<|aV 6 Z<|zu Z (zn (.r (.r (.r (.rest _))))) (aL (-1) f.blocks.length (by omega) hpos) ?_
      rintro r28 O28 ⟨i28,rfl,rfl⟩
      refine z6<|au 11 Z (zz (cps:=[(0,[_]),(1,[_]),(2,[_]),(3,[_])]) (rs:=[_,_,_,_]) cN Z Z Z)<|aV 12 Z<|yq (cs:=_) Z Z Z Z<|fun i34=>z6<|au 13 Z (iQ Z)<|bY ?_
      exact ⟨(i34,i28,b30,b32,i25),dC,aG,aC,trivial⟩
    ·refine ye (m:=f.blocks.length) jf Zh Z Z Z Z Z (by simp) (by simp) (by show (24:Int)*_≤_;omega) (by omega) eI 3<|fun b30=>z6<|aV 4 Z<|y8 (rows:=[[_]]) cZ Z Z Z Z Z<|z6<|aV 6 Z<|zu Z (zn (.r (.r (.r (.rest _))))) (aL (-1) f.blocks.length (by omega) hpos) ?_
     rintro r28 O28 ⟨i28,rfl,rfl⟩
     refine z6<|au 11 Z (zz (cps:=[(0,[_]),(1,[_]),(2,[_]),(3,[_])]) (rs:=[_,_,_,_]) cN Z Z Z)<|aV 12 Z<|yq (cs:=_) Z Z Z Z<|fun i34=>z6<|au 13 Z (iQ Z)<|bY ?_
     exact ⟨(i34,i28,b30,b32,i25),dC,aG,aC,trivial⟩
  ·refine y8 (rows:=[[_]]) cZ Z Z Z Z Z<|z6<|bK.three (i:=3) (j:=8) (m:=10) Z Z Z (by kernel_rfl) ?_ ?_ ?_
   ·refine zu Z (zn (.rest _)) (hnear) ?_
    rintro r25 O25 ⟨i25,rfl,rfl⟩
    refine z6<|bK.three (i:=6) (j:=8) (m:=10) Z Z Z (by kernel_rfl) ?_ ?_ ?_
    ·refine zu Z (zn (.r (.rest _))) (aL (-1) f.blocks.length (by omega) hpos) ?_
     rintro r28 O28 ⟨i28,rfl,rfl⟩
     refine z6<|yv (i:=8) (j:=10) Z Z (by kernel_rfl) ?_ ?_
     ·refine ye (m:=f.blocks.length) jf Zh Z Z Z Z Z (by simp) (by simp) (by show (24:Int)*_≤_;omega) (by omega) eI 3<|fun b30=>z6<|aV 10 Z<|ye (m:=f.blocks.length) jf Zh Z Z Z Z Z (by simp) (by simp) (by show (24:Int)*_≤_;omega) (by omega) eI 3<|fun b32=>z6<|au 11 Z (zz (cps:=[(0,[_]),(1,[_]),(2,[_]),(3,[_])]) (rs:=[_,_,_,_]) cN Z Z Z)<|aV 12 Z<|yq (cs:=_) Z Z Z Z<|fun i34=>zf (zi (zj .t4))<|zf (zi (zj .t2))<|zf (zi (zj .t3))<|zf (zi (zj .t4))<|zf (zi (zj .t4))<|z6<|au 13 Z (iQ Z)<|bY ?_
      exact ⟨(i34,i28,b30,b32,i25),dC,aG,aC,trivial⟩
     ·refine ye (m:=f.blocks.length) jf Zh Z Z Z Z Z (by simp) (by simp) (by show (24:Int)*_≤_;omega) (by omega) eI 3<|fun b32=>z6<|aV 8 Z<|ye (m:=f.blocks.length) jf Zh Z Z Z Z Z (by simp) (by simp) (by show (24:Int)*_≤_;omega) (by omega) eI 3<|fun b30=>z6<|au 11 Z (zz (cps:=[(0,[_]),(1,[_]),(2,[_]),(3,[_])]) (rs:=[_,_,_,_]) cN Z Z Z)<|aV 12 Z<|yq (cs:=_) Z Z Z Z<|fun i34=>zf (zi (zj .t4))<|zf (zi (zj .t3))<|zf (zi (zj .t3))<|zf (zi (zj .t4))<|zf (zi (zj .t4))<|z6<|au 13 Z (iQ Z)<|bY ?_
      exact ⟨(i34,i28,b30,b32,i25),dC,aG,aC,trivial⟩
    ·refine ye (m:=f.blocks.length) jf Zh Z Z Z Z Z (by simp) (by simp) (by show (24:Int)*_≤_;omega) (by omega) eI 3<|fun b30=>z6<|yv (i:=6) (j:=10) Z Z (by kernel_rfl) ?_ ?_
     ·refine zu Z (zn (.r (.r (.rest _)))) (aL (-1) f.blocks.length (by omega) hpos) ?_
      rintro r28 O28 ⟨i28,rfl,rfl⟩
      refine z6<|aV 10 Z<|ye (m:=f.blocks.length) jf Zh Z Z Z Z Z (by simp) (by simp) (by show (24:Int)*_≤_;omega) (by omega) eI 3<|fun b32=>z6<|au 11 Z (zz (cps:=[(0,[_]),(1,[_]),(2,[_]),(3,[_])]) (rs:=[_,_,_,_]) cN Z Z Z)<|aV 12 Z<|yq (cs:=_) Z Z Z Z<|fun i34=>zf (zi (zj .t4))<|zf (zi (zj .t2))<|zf (zi (zj .t4))<|zf (zi (zj .t4))<|zf (zi (zj .t4))<|z6<|au 13 Z (iQ Z)<|bY ?_
      exact ⟨(i34,i28,b30,b32,i25),dC,aG,aC,trivial⟩
     ·refine ye (m:=f.blocks.length) jf Zh Z Z Z Z Z (by simp) (by simp) (by show (24:Int)*_≤_;omega) (by omega) eI 3<|fun b32=>z6<|aV 6 Z<|zu Z (zn (.r (.r (.r (.rest _))))) (aL (-1) f.blocks.length (by omega) hpos) ?_
      rintro r28 O28 ⟨i28,rfl,rfl⟩
      refine z6<|au 11 Z (zz (cps:=[(0,[_]),(1,[_]),(2,[_]),(3,[_])]) (rs:=[_,_,_,_]) cN Z Z Z)<|aV 12 Z<|yq (cs:=_) Z Z Z Z<|fun i34=>zf (zi (zj .t4))<|zf (zi (zj .t3))<|zf (zi (zj .t4))<|zf (zi (zj .t4))<|zf (zi (zj .t4))<|z6<|au 13 Z (iQ Z)<|bY ?_
      exact ⟨(i34,i28,b30,b32,i25),dC,aG,aC,trivial⟩
    ·refine ye (m:=f.blocks.length) jf Zh Z Z Z Z Z (by simp) (by simp) (by show (24:Int)*_≤_;omega) (by omega) eI 3<|fun b32=>z6<|yv (i:=6) (j:=8) Z Z (by kernel_rfl) ?_ ?_
     ·refine zu Z (zn (.r (.r (.rest _)))) (aL (-1) f.blocks.length (by omega) hpos) ?_
      rintro r28 O28 ⟨i28,rfl,rfl⟩
      refine z6<|aV 8 Z<|ye (m:=f.blocks.length) jf Zh Z Z Z Z Z (by simp) (by simp) (by show (24:Int)*_≤_;omega) (by omega) eI 3<|fun b30=>z6<|au 11 Z (zz (cps:=[(0,[_]),(1,[_]),(2,[_]),(3,[_])]) (rs:=[_,_,_,_]) cN Z Z Z)<|aV 12 Z<|yq (cs:=_) Z Z Z Z<|fun i34=>zf (zi (zj .t4))<|zf (zi (zj .t4))<|zf (zi (zj .t3))<|zf (zi (zj .t4))<|zf (zi (zj .t4))<|z6<|au 13 Z (iQ Z)<|bY ?_
      exact ⟨(i34,i28,b30,b32,i25),dC,aG,aC,trivial⟩
     ·refine ye (m:=f.blocks.length) jf Zh Z Z Z Z Z (by simp) (by simp) (by show (24:Int)*_≤_;omega) (by omega) eI 3<|fun b30=>z6<|aV 6 Z<|zu Z (zn (.r (.r (.r (.rest _))))) (aL (-1) f.blocks.length (by omega) hpos) ?_
      rintro r28 O28 ⟨i28,rfl,rfl⟩
      refine z6<|au 11 Z (zz (cps:=[(0,[_]),(1,[_]),(2,[_]),(3,[_])]) (rs:=[_,_,_,_]) cN Z Z Z)<|aV 12 Z<|yq (cs:=_) Z Z Z Z<|fun i34=>z6<|au 13 Z (iQ Z)<|bY ?_
      exact ⟨(i34,i28,b30,b32,i25),dC,aG,aC,trivial⟩
   ·refine ye (m:=f.blocks.length) jf Zh Z Z Z Z Z (by simp) (by simp) (by show (24:Int)*_≤_;omega) (by omega) eI 3<|fun b30=>z6<|yv (i:=3) (j:=10) Z Z (by kernel_rfl) ?_ ?_
    ·refine zu Z (zn (.r (.rest _))) (hnear) ?_
     rintro r25 O25 ⟨i25,rfl,rfl⟩
     refine z6<|yv (i:=6) (j:=10) Z Z (by kernel_rfl) ?_ ?_
     ·refine zu Z (zn (.r (.r (.rest _)))) (aL (-1) f.blocks.length (by omega) hpos) ?_
      rintro r28 O28 ⟨i28,rfl,rfl⟩
      refine z6<|aV 10 Z<|ye (m:=f.blocks.length) jf Zh Z Z Z Z Z (by simp) (by simp) (by show (24:Int)*_≤_;omega) (by omega) eI 3<|fun b32=>z6<|au 11 Z (zz (cps:=[(0,[_]),(1,[_]),(2,[_]),(3,[_])]) (rs:=[_,_,_,_]) cN Z Z Z)<|aV 12 Z<|yq (cs:=_) Z Z Z Z<|fun i34=>zf (zi (zj .t3))<|zf (zi (zj .t2))<|zf (zi (zj .t4))<|zf (zi (zj .t4))<|zf (zi (zj .t4))<|z6<|au 13 Z (iQ Z)<|bY ?_
      exact ⟨(i34,i28,b30,b32,i25),dC,aG,aC,trivial⟩
     ·refine ye (m:=f.blocks.length) jf Zh Z Z Z Z Z (by simp) (by simp) (by show (24:Int)*_≤_;omega) (by omega) eI 3<|fun b32=>z6<|aV 6 Z<|zu Z (zn (.r (.r (.r (.rest _))))) (aL (-1) f.blocks.length (by omega) hpos) ?_
      rintro r28 O28 ⟨i28,rfl,rfl⟩
      refine z6<|au 11 Z (zz (cps:=[(0,[_]),(1,[_]),(2,[_]),(3,[_])]) (rs:=[_,_,_,_]) cN Z Z Z)<|aV 12 Z<|yq (cs:=_) Z Z Z Z<|fun i34=>zf (zi (zj .t3))<|zf (zi (zj .t3))<|zf (zi (zj .t4))<|zf (zi (zj .t4))<|zf (zi (zj .t4))<|z6<|au 13 Z (iQ Z)<|bY ?_
      exact ⟨(i34,i28,b30,b32,i25),dC,aG,aC,trivial⟩
    ·refine ye (m:=f.blocks.length) jf Zh Z Z Z Z Z (by simp) (by simp) (by show (24:Int)*_≤_;omega) (by omega) eI 3<|fun b32=>z6<|aV 3 Z<|zu Z (zn (.r (.r (.rest _)))) (hnear) ?_
     rintro r25 O25 ⟨i25,rfl,rfl⟩
     refine z6<|aV 6 Z<|zu Z (zn (.r (.r (.r (.rest _))))) (aL (-1) f.blocks.length (by omega) hpos) ?_
     rintro r28 O28 ⟨i28,rfl,rfl⟩
     refine z6<|au 11 Z (zz (cps:=[(0,[_]),(1,[_]),(2,[_]),(3,[_])]) (rs:=[_,_,_,_]) cN Z Z Z)<|aV 12 Z<|yq (cs:=_) Z Z Z Z<|fun i34=>zf (zi (zj .t2))<|zf (zi (zj .t3))<|zf (zi (zj .t4))<|zf (zi (zj .t4))<|zf (zi (zj .t4))<|z6<|au 13 Z (iQ Z)<|bY ?_
     exact ⟨(i34,i28,b30,b32,i25),dC,aG,aC,trivial⟩
   ·refine ye (m:=f.blocks.length) jf Zh Z Z Z Z Z (by simp) (by simp) (by show (24:Int)*_≤_;omega) (by omega) eI 3<|fun b32=>z6<|yv (i:=3) (j:=8) Z Z (by kernel_rfl) ?_ ?_
    ·refine zu Z (zn (.r (.rest _))) (hnear) ?_
     rintro r25 O25 ⟨i25,rfl,rfl⟩
     refine z6<|yv (i:=6) (j:=8) Z Z (by kernel_rfl) ?_ ?_
     ·refine zu Z (zn (.r (.r (.rest _)))) (aL (-1) f.blocks.length (by omega) hpos) ?_
      rintro r28 O28 ⟨i28,rfl,rfl⟩
      refine z6<|aV 8 Z<|ye (m:=f.blocks.length) jf Zh Z Z Z Z Z (by simp) (by simp) (by show (24:Int)*_≤_;omega) (by omega) eI 3<|fun b30=>z6<|au 11 Z (zz (cps:=[(0,[_]),(1,[_]),(2,[_]),(3,[_])]) (rs:=[_,_,_,_]) cN Z Z Z)<|aV 12 Z<|yq (cs:=_) Z Z Z Z<|fun i34=>zf (zi (zj .t3))<|zf (zi (zj .t4))<|zf (zi (zj .t3))<|zf (zi (zj .t4))<|zf (zi (zj .t4))<|z6<|au 13 Z (iQ Z)<|bY ?_
      exact ⟨(i34,i28,b30,b32,i25),dC,aG,aC,trivial⟩
     ·refine ye (m:=f.blocks.length) jf Zh Z Z Z Z Z (by simp) (by simp) (by show (24:Int)*_≤_;omega) (by omega) eI 3<|fun b30=>z6<|aV 6 Z<|zu Z (zn (.r (.r (.r (.rest _))))) (aL (-1) f.blocks.length (by omega) hpos) ?_
      rintro r28 O28 ⟨i28,rfl,rfl⟩
      refine z6<|au 11 Z (zz (cps:=[(0,[_]),(1,[_]),(2,[_]),(3,[_])]) (rs:=[_,_,_,_]) cN Z Z Z)<|aV 12 Z<|yq (cs:=_) Z Z Z Z<|fun i34=>zf (zi (zj .t3))<|zf (zi (zj .t4))<|zf (zi (zj .t4))<|zf (zi (zj .t4))<|zf (zi (zj .t4))<|z6<|au 13 Z (iQ Z)<|bY ?_
      exact ⟨(i34,i28,b30,b32,i25),dC,aG,aC,trivial⟩
    ·refine ye (m:=f.blocks.length) jf Zh Z Z Z Z Z (by simp) (by simp) (by show (24:Int)*_≤_;omega) (by omega) eI 3<|fun b30=>z6<|aV 3 Z<|zu Z (zn (.r (.r (.rest _)))) (hnear) ?_
     rintro r25 O25 ⟨i25,rfl,rfl⟩
     refine z6<|aV 6 Z<|zu Z (zn (.r (.r (.r (.rest _))))) (aL (-1) f.blocks.length (by omega) hpos) ?_
     rintro r28 O28 ⟨i28,rfl,rfl⟩
     refine z6<|au 11 Z (zz (cps:=[(0,[_]),(1,[_]),(2,[_]),(3,[_])]) (rs:=[_,_,_,_]) cN Z Z Z)<|aV 12 Z<|yq (cs:=_) Z Z Z Z<|fun i34=>zf (zi (zj .t2))<|zf (zi (zj .t4))<|zf (zi (zj .t4))<|zf (zi (zj .t4))<|zf (zi (zj .t4))<|z6<|au 13 Z (iQ Z)<|bY ?_
     exact ⟨(i34,i28,b30,b32,i25),dC,aG,aC,trivial⟩
  ·refine ye (m:=f.blocks.length) jf Zh Z Z Z Z Z (by simp) (by simp) (by show (24:Int)*_≤_;omega) (by omega) eI 3<|fun b30=>z6<|bK.three (i:=3) (j:=4) (m:=10) Z Z Z (by kernel_rfl) ?_ ?_ ?_
   ·refine zu Z (zn (.r (.rest _))) (hnear) ?_
    rintro r25 O25 ⟨i25,rfl,rfl⟩
    refine z6<|yv (i:=4) (j:=10) Z Z (by kernel_rfl) ?_ ?_
    ·refine y8 (rows:=[[_]]) cZ Z Z Z Z Z<|z6<|yv (i:=6) (j:=10) Z Z (by kernel_rfl) ?_ ?_
     ·refine zu Z (zn (.r (.r (.rest _)))) (aL (-1) f.blocks.length (by omega) hpos) ?_
      rintro r28 O28 ⟨i28,rfl,rfl⟩
      refine z6<|aV 10 Z<|ye (m:=f.blocks.length) jf Zh Z Z Z Z Z (by simp) (by simp) (by show (24:Int)*_≤_;omega) (by omega) eI 3<|fun b32=>z6<|au 11 Z (zz (cps:=[(0,[_]),(1,[_]),(2,[_]),(3,[_])]) (rs:=[_,_,_,_]) cN Z Z Z)<|aV 12 Z<|yq (cs:=_) Z Z Z Z<|fun i34=>zf (zi (zj .t3))<|zf (zi (zj .t2))<|zf (zi (zj .t4))<|zf (zi (zj .t4))<|zf (zi (zj .t4))<|z6<|au 13 Z (iQ Z)<|bY ?_
      exact ⟨(i34,i28,b30,b32,i25),dC,aG,aC,trivial⟩
     ·refine ye (m:=f.blocks.length) jf Zh Z Z Z Z Z (by simp) (by simp) (by show (24:Int)*_≤_;omega) (by omega) eI 3<|fun b32=>z6<|aV 6 Z<|zu Z (zn (.r (.r (.r (.rest _))))) (aL (-1) f.blocks.length (by omega) hpos) ?_
      rintro r28 O28 ⟨i28,rfl,rfl⟩
      refine z6<|au 11 Z (zz (cps:=[(0,[_]),(1,[_]),(2,[_]),(3,[_])]) (rs:=[_,_,_,_]) cN Z Z Z)<|aV 12 Z<|yq (cs:=_) Z Z Z Z<|fun i34=>zf (zi (zj .t3))<|zf (zi (zj .t3))<|zf (zi (zj .t4))<|zf (zi (zj .t4))<|zf (zi (zj .t4))<|z6<|au 13 Z (iQ Z)<|bY ?_
      exact ⟨(i34,i28,b30,b32,i25),dC,aG,aC,trivial⟩
    ·refine ye (m:=f.blocks.length) jf Zh Z Z Z Z Z (by simp) (by simp) (by show (24:Int)*_≤_;omega) (by omega) eI 3<|fun b32=>z6<|aV 4 Z<|y8 (rows:=[[_]]) cZ Z Z Z Z Z<|z6<|aV 6 Z<|zu Z (zn (.r (.r (.r (.rest _))))) (aL (-1) f.blocks.length (by omega) hpos) ?_
     rintro r28 O28 ⟨i28,rfl,rfl⟩
     refine z6<|au 11 Z (zz (cps:=[(0,[_]),(1,[_]),(2,[_]),(3,[_])]) (rs:=[_,_,_,_]) cN Z Z Z)<|aV 12 Z<|yq (cs:=_) Z Z Z Z<|fun i34=>zf (zi (zj .t3))<|zf (zi (zj .t3))<|zf (zi (zj .t4))<|zf (zi (zj .t4))<|zf (zi (zj .t4))<|z6<|au 13 Z (iQ Z)<|bY ?_
     exact ⟨(i34,i28,b30,b32,i25),dC,aG,aC,trivial⟩
   ·refine y8 (rows:=[[_]]) cZ Z Z Z Z Z<|z6<|yv (i:=3) (j:=10) Z Z (by kernel_rfl) ?_ ?_
    ·refine zu Z (zn (.r (.rest _))) (hnear) ?_
     rintro r25 O25 ⟨i25,rfl,rfl⟩
     refine z6<|yv (i:=6) (j:=10) Z Z (by kernel_rfl) ?_ ?_
     ·refine zu Z (zn (.r (.r (.rest _)))) (aL (-1) f.blocks.length (by omega) hpos) ?_
      rintro r28 O28 ⟨i28,rfl,rfl⟩
      refine z6<|aV 10 Z<|ye (m:=f.blocks.length) jf Zh Z Z Z Z Z (by simp) (by simp) (by show (24:Int)*_≤_;omega) (by omega) eI 3<|fun b32=>z6<|au 11 Z (zz (cps:=[(0,[_]),(1,[_]),(2,[_]),(3,[_])]) (rs:=[_,_,_,_]) cN Z Z Z)<|aV 12 Z<|yq (cs:=_) Z Z Z Z<|fun i34=>zf (zi (zj .t3))<|zf (zi (zj .t2))<|zf (zi (zj .t4))<|zf (zi (zj .t4))<|zf (zi (zj .t4))<|z6<|au 13 Z (iQ Z)<|bY ?_
      exact ⟨(i34,i28,b30,b32,i25),dC,aG,aC,trivial⟩
     ·refine ye (m:=f.blocks.length) jf Zh Z Z Z Z Z (by simp) (by simp) (by show (24:Int)*_≤_;omega) (by omega) eI 3<|fun b32=>z6<|aV 6 Z<|zu Z (zn (.r (.r (.r (.rest _))))) (aL (-1) f.blocks.length (by omega) hpos) ?_
      rintro r28 O28 ⟨i28,rfl,rfl⟩
      refine z6<|au 11 Z (zz (cps:=[(0,[_]),(1,[_]),(2,[_]),(3,[_])]) (rs:=[_,_,_,_]) cN Z Z Z)<|aV 12 Z<|yq (cs:=_) Z Z Z Z<|fun i34=>zf (zi (zj .t3))<|zf (zi (zj .t3))<|zf (zi (zj .t4))<|zf (zi (zj .t4))<|zf (zi (zj .t4))<|z6<|au 13 Z (iQ Z)<|bY ?_
      exact ⟨(i34,i28,b30,b32,i25),dC,aG,aC,trivial⟩
    ·refine ye (m:=f.blocks.length) jf Zh Z Z Z Z Z (by simp) (by simp) (by show (24:Int)*_≤_;omega) (by omega) eI 3<|fun b32=>z6<|aV 3 Z<|zu Z (zn (.r (.r (.rest _)))) (hnear) ?_
     rintro r25 O25 ⟨i25,rfl,rfl⟩
     refine z6<|aV 6 Z<|zu Z (zn (.r (.r (.r (.rest _))))) (aL (-1) f.blocks.length (by omega) hpos) ?_
     rintro r28 O28 ⟨i28,rfl,rfl⟩
     refine z6<|au 11 Z (zz (cps:=[(0,[_]),(1,[_]),(2,[_]),(3,[_])]) (rs:=[_,_,_,_]) cN Z Z Z)<|aV 12 Z<|yq (cs:=_) Z Z Z Z<|fun i34=>zf (zi (zj .t2))<|zf (zi (zj .t3))<|zf (zi (zj .t4))<|zf (zi (zj .t4))<|zf (zi (zj .t4))<|z6<|au 13 Z (iQ Z)<|bY ?_
     exact ⟨(i34,i28,b30,b32,i25),dC,aG,aC,trivial⟩
   ·refine ye (m:=f.blocks.length) jf Zh Z Z Z Z Z (by simp) (by simp) (by show (24:Int)*_≤_;omega) (by omega) eI 3<|fun b32=>z6<|yv (i:=3) (j:=4) Z Z (by kernel_rfl) ?_ ?_
    ·refine zu Z (zn (.r (.r (.rest _)))) (hnear) ?_
     rintro r25 O25 ⟨i25,rfl,rfl⟩
     refine z6<|aV 4 Z<|y8 (rows:=[[_]]) cZ Z Z Z Z Z<|z6<|aV 6 Z<|zu Z (zn (.r (.r (.r (.rest _))))) (aL (-1) f.blocks.length (by omega) hpos) ?_
     rintro r28 O28 ⟨i28,rfl,rfl⟩
     refine z6<|au 11 Z (zz (cps:=[(0,[_]),(1,[_]),(2,[_]),(3,[_])]) (rs:=[_,_,_,_]) cN Z Z Z)<|aV 12 Z<|yq (cs:=_) Z Z Z Z<|fun i34=>zf (zi (zj .t2))<|zf (zi (zj .t3))<|zf (zi (zj .t4))<|zf (zi (zj .t4))<|zf (zi (zj .t4))<|z6<|au 13 Z (iQ Z)<|bY ?_
     exact ⟨(i34,i28,b30,b32,i25),dC,aG,aC,trivial⟩
    ·refine y8 (rows:=[[_]]) cZ Z Z Z Z Z<|z6<|aV 3 Z<|zu Z (zn (.r (.r (.rest _)))) (hnear) ?_
     rintro r25 O25 ⟨i25,rfl,rfl⟩
     refine z6<|aV 6 Z<|zu Z (zn (.r (.r (.r (.rest _))))) (aL (-1) f.blocks.length (by omega) hpos) ?_
     rintro r28 O28 ⟨i28,rfl,rfl⟩
     refine z6<|au 11 Z (zz (cps:=[(0,[_]),(1,[_]),(2,[_]),(3,[_])]) (rs:=[_,_,_,_]) cN Z Z Z)<|aV 12 Z<|yq (cs:=_) Z Z Z Z<|fun i34=>zf (zi (zj .t2))<|zf (zi (zj .t3))<|zf (zi (zj .t4))<|zf (zi (zj .t4))<|zf (zi (zj .t4))<|z6<|au 13 Z (iQ Z)<|bY ?_
     exact ⟨(i34,i28,b30,b32,i25),dC,aG,aC,trivial⟩
  ·refine ye (m:=f.blocks.length) jf Zh Z Z Z Z Z (by simp) (by simp) (by show (24:Int)*_≤_;omega) (by omega) eI 3<|fun b32=>z6<|bK.three (i:=3) (j:=4) (m:=8) Z Z Z (by kernel_rfl) ?_ ?_ ?_
   ·refine zu Z (zn (.r (.rest _))) (hnear) ?_
    rintro r25 O25 ⟨i25,rfl,rfl⟩
    refine z6<|yv (i:=4) (j:=8) Z Z (by kernel_rfl) ?_ ?_
    ·refine y8 (rows:=[[_]]) cZ Z Z Z Z Z<|z6<|yv (i:=6) (j:=8) Z Z (by kernel_rfl) ?_ ?_
     ·refine zu Z (zn (.r (.r (.rest _)))) (aL (-1) f.blocks.length (by omega) hpos) ?_
      rintro r28 O28 ⟨i28,rfl,rfl⟩
      refine z6<|aV 8 Z<|ye (m:=f.blocks.length) jf Zh Z Z Z Z Z (by simp) (by simp) (by show (24:Int)*_≤_;omega) (by omega) eI 3<|fun b30=>z6<|au 11 Z (zz (cps:=[(0,[_]),(1,[_]),(2,[_]),(3,[_])]) (rs:=[_,_,_,_]) cN Z Z Z)<|aV 12 Z<|yq (cs:=_) Z Z Z Z<|fun i34=>zf (zi (zj .t3))<|zf (zi (zj .t4))<|zf (zi (zj .t3))<|zf (zi (zj .t4))<|zf (zi (zj .t4))<|z6<|au 13 Z (iQ Z)<|bY ?_
      exact ⟨(i34,i28,b30,b32,i25),dC,aG,aC,trivial⟩
     ·refine ye (m:=f.blocks.length) jf Zh Z Z Z Z Z (by simp) (by simp) (by show (24:Int)*_≤_;omega) (by omega) eI 3<|fun b30=>z6<|aV 6 Z<|zu Z (zn (.r (.r (.r (.rest _))))) (aL (-1) f.blocks.length (by omega) hpos) ?_
      rintro r28 O28 ⟨i28,rfl,rfl⟩
      refine z6<|au 11 Z (zz (cps:=[(0,[_]),(1,[_]),(2,[_]),(3,[_])]) (rs:=[_,_,_,_]) cN Z Z Z)<|aV 12 Z<|yq (cs:=_) Z Z Z Z<|fun i34=>zf (zi (zj .t3))<|zf (zi (zj .t4))<|zf (zi (zj .t4))<|zf (zi (zj .t4))<|zf (zi (zj .t4))<|z6<|au 13 Z (iQ Z)<|bY ?_
      exact ⟨(i34,i28,b30,b32,i25),dC,aG,aC,trivial⟩
    ·refine ye (m:=f.blocks.length) jf Zh Z Z Z Z Z (by simp) (by simp) (by show (24:Int)*_≤_;omega) (by omega) eI 3<|fun b30=>z6<|aV 4 Z<|y8 (rows:=[[_]]) cZ Z Z Z Z Z<|z6<|aV 6 Z<|zu Z (zn (.r (.r (.r (.rest _))))) (aL (-1) f.blocks.length (by omega) hpos) ?_
     rintro r28 O28 ⟨i28,rfl,rfl⟩
     refine z6<|au 11 Z (zz (cps:=[(0,[_]),(1,[_]),(2,[_]),(3,[_])]) (rs:=[_,_,_,_]) cN Z Z Z)<|aV 12 Z<|yq (cs:=_) Z Z Z Z<|fun i34=>zf (zi (zj .t3))<|zf (zi (zj .t4))<|zf (zi (zj .t4))<|zf (zi (zj .t4))<|zf (zi (zj .t4))<|z6<|au 13 Z (iQ Z)<|bY ?_
     exact ⟨(i34,i28,b30,b32,i25),dC,aG,aC,trivial⟩
   ·refine y8 (rows:=[[_]]) cZ Z Z Z Z Z<|z6<|yv (i:=3) (j:=8) Z Z (by kernel_rfl) ?_ ?_
    ·refine zu Z (zn (.r (.rest _))) (hnear) ?_
     rintro r25 O25 ⟨i25,rfl,rfl⟩
     refine z6<|yv (i:=6) (j:=8) Z Z (by kernel_rfl) ?_ ?_
     ·refine zu Z (zn (.r (.r (.rest _)))) (aL (-1) f.blocks.length (by omega) hpos) ?_
      rintro r28 O28 ⟨i28,rfl,rfl⟩
      refine z6<|aV 8 Z<|ye (m:=f.blocks.length) jf Zh Z Z Z Z Z (by simp) (by simp) (by show (24:Int)*_≤_;omega) (by omega) eI 3<|fun b30=>z6<|au 11 Z (zz (cps:=[(0,[_]),(1,[_]),(2,[_]),(3,[_])]) (rs:=[_,_,_,_]) cN Z Z Z)<|aV 12 Z<|yq (cs:=_) Z Z Z Z<|fun i34=>zf (zi (zj .t3))<|zf (zi (zj .t4))<|zf (zi (zj .t3))<|zf (zi (zj .t4))<|zf (zi (zj .t4))<|z6<|au 13 Z (iQ Z)<|bY ?_
      exact ⟨(i34,i28,b30,b32,i25),dC,aG,aC,trivial⟩
     ·refine ye (m:=f.blocks.length) jf Zh Z Z Z Z Z (by simp) (by simp) (by show (24:Int)*_≤_;omega) (by omega) eI 3<|fun b30=>z6<|aV 6 Z<|zu Z (zn (.r (.r (.r (.rest _))))) (aL (-1) f.blocks.length (by omega) hpos) ?_
      rintro r28 O28 ⟨i28,rfl,rfl⟩
      refine z6<|au 11 Z (zz (cps:=[(0,[_]),(1,[_]),(2,[_]),(3,[_])]) (rs:=[_,_,_,_]) cN Z Z Z)<|aV 12 Z<|yq (cs:=_) Z Z Z Z<|fun i34=>zf (zi (zj .t3))<|zf (zi (zj .t4))<|zf (zi (zj .t4))<|zf (zi (zj .t4))<|zf (zi (zj .t4))<|z6<|au 13 Z (iQ Z)<|bY ?_
      exact ⟨(i34,i28,b30,b32,i25),dC,aG,aC,trivial⟩
    ·refine ye (m:=f.blocks.length) jf Zh Z Z Z Z Z (by simp) (by simp) (by show (24:Int)*_≤_;omega) (by omega) eI 3<|fun b30=>z6<|aV 3 Z<|zu Z (zn (.r (.r (.rest _)))) (hnear) ?_
     rintro r25 O25 ⟨i25,rfl,rfl⟩
     refine z6<|aV 6 Z<|zu Z (zn (.r (.r (.r (.rest _))))) (aL (-1) f.blocks.length (by omega) hpos) ?_
     rintro r28 O28 ⟨i28,rfl,rfl⟩
     refine z6<|au 11 Z (zz (cps:=[(0,[_]),(1,[_]),(2,[_]),(3,[_])]) (rs:=[_,_,_,_]) cN Z Z Z)<|aV 12 Z<|yq (cs:=_) Z Z Z Z<|fun i34=>zf (zi (zj .t2))<|zf (zi (zj .t4))<|zf (zi (zj .t4))<|zf (zi (zj .t4))<|zf (zi (zj .t4))<|z6<|au 13 Z (iQ Z)<|bY ?_
     exact ⟨(i34,i28,b30,b32,i25),dC,aG,aC,trivial⟩
   ·refine ye (m:=f.blocks.length) jf Zh Z Z Z Z Z (by simp) (by simp) (by show (24:Int)*_≤_;omega) (by omega) eI 3<|fun b30=>z6<|yv (i:=3) (j:=4) Z Z (by kernel_rfl) ?_ ?_
    ·refine zu Z (zn (.r (.r (.rest _)))) (hnear) ?_
     rintro r25 O25 ⟨i25,rfl,rfl⟩
     refine z6<|aV 4 Z<|y8 (rows:=[[_]]) cZ Z Z Z Z Z<|z6<|aV 6 Z<|zu Z (zn (.r (.r (.r (.rest _))))) (aL (-1) f.blocks.length (by omega) hpos) ?_
     rintro r28 O28 ⟨i28,rfl,rfl⟩
     refine z6<|au 11 Z (zz (cps:=[(0,[_]),(1,[_]),(2,[_]),(3,[_])]) (rs:=[_,_,_,_]) cN Z Z Z)<|aV 12 Z<|yq (cs:=_) Z Z Z Z<|fun i34=>zf (zi (zj .t2))<|zf (zi (zj .t4))<|zf (zi (zj .t4))<|zf (zi (zj .t4))<|zf (zi (zj .t4))<|z6<|au 13 Z (iQ Z)<|bY ?_
     exact ⟨(i34,i28,b30,b32,i25),dC,aG,aC,trivial⟩
    ·refine y8 (rows:=[[_]]) cZ Z Z Z Z Z<|z6<|aV 3 Z<|zu Z (zn (.r (.r (.rest _)))) (hnear) ?_
     rintro r25 O25 ⟨i25,rfl,rfl⟩
     refine z6<|aV 6 Z<|zu Z (zn (.r (.r (.r (.rest _))))) (aL (-1) f.blocks.length (by omega) hpos) ?_
     rintro r28 O28 ⟨i28,rfl,rfl⟩
     refine z6<|au 11 Z (zz (cps:=[(0,[_]),(1,[_]),(2,[_]),(3,[_])]) (rs:=[_,_,_,_]) cN Z Z Z)<|aV 12 Z<|yq (cs:=_) Z Z Z Z<|fun i34=>zf (zi (zj .t2))<|zf (zi (zj .t4))<|zf (zi (zj .t4))<|zf (zi (zj .t4))<|zf (zi (zj .t4))<|z6<|au 13 Z (iQ Z)<|bY ?_
     exact ⟨(i34,i28,b30,b32,i25),dC,aG,aC,trivial⟩
 ·rintro ⟨i34,i28,b30,b32,i25⟩ _
  refine ah<|aY Z<|za (yc Z)<|za (zr Zc Z jg (by decide) Z Z)<|za (zw (c:=.own _ _) jn Z ⟨_,.head⟩ Z)<|za (q0 (j:=0) j9 ja Z Z Z ⟨_,.t1⟩ (by first|rfl|(simp[bf,bd];done)|(simp[bf,bd];omega)) hpos)<|az.storeI (j:=0) ja Z Z .t1 (by first|omega|(simp;omega))<|z6<|zc<|ah<|aU Z<|za (Gv.cutLoM (j:=1) j9 ja Z Z Z (by omega))<|ak j9 Z<|aa Z<|z6<|zh<|ya (γ:=Nat) [4,5,6,7,41,42] (fun q=>[(43,.int .i64 q)]) (fun q=>[(i34,.cells 159 [.own i25 f.blocks.length,.own i28 f.blocks.length,dn b30 f.blocks.length,dn b32 f.blocks.length]),(i28,.grow 1 3 (cI (gQ (ao f) f.blocks.length q))),(0,cJ eI 23 3 b30 (List.replicate f.blocks.length [])),(0,cJ eI 23 3 b32 (List.replicate f.blocks.length [])),(i25,.grow 1 3 (cI (bu (ao f) f.blocks.length)))]) (fun q=>q≤((aD (ao f) f.blocks.length).drop 1).length∧∀x,-1≤gi (gQ (ao f) f.blocks.length q) x∧gi (gQ (ao f) f.blocks.length q) x≤q) (fun q=>((aD (ao f) f.blocks.length).drop 1).length - q) 0 aG aC (⟨qt _,fun x=>by rw[show gQ (ao f) f.blocks.length 0=fp f.blocks.length from rfl,mR hpos];dsimp only;split<;>omega⟩) ?_
  rintro q ⟨hq,hb⟩
  refine ah<|aw Z Z<|z6<|zc<|zp Z (fun cq=>?_) (fun cq=>?_)
  ·have hq2:q<((aD (ao f) f.blocks.length).drop 1).length:=by simpa using cq
   obtain ⟨b,hbe⟩:∃b,((aD (ao f) f.blocks.length).drop 1)[q]=b:=⟨_,rfl⟩
   have hbt:b∈(aD (ao f) f.blocks.length).drop 1:=hbe▸qu hq2
   have hbm:b∈aD (ao f) f.blocks.length:=List.mem_of_mem_drop hbt
   have hb0:=IL hG.toEOk hbt
   obtain ⟨hbp,hbn⟩:=hrng b hbm
   have hnm:=(hG.near_mem hbm hb0).1
   rw[←gm hbp hb0] at hnm
   obtain ⟨hnp,hnn⟩:=hrng _ hnm
   have hgN:(bu (ao f) f.blocks.length)[b.toNat]?=some (gi (bu (ao f) f.blocks.length) b):=f7 hbp (by rw[fF];omega)
   have hgL:(gQ (ao f) f.blocks.length q)[(gi (bu (ao f) f.blocks.length) b).toNat]?=some (gi (gQ (ao f) f.blocks.length q) (gi (bu (ao f) f.blocks.length) b)):=f7 hnp (by rw[tQ];omega)
   have hbb:=hb (gi (bu (ao f) f.blocks.length) b)
   have hsucc:gQ (ao f) f.blocks.length (q+1)=(gQ (ao f) f.blocks.length q).set b.toNat (gi (gQ (ao f) f.blocks.length q) (gi (bu (ao f) f.blocks.length) b)+1):=by rw[Ap hq2,hbe,gm hbp hb0];rfl
   have hlen:=tQ (ao f) f.blocks.length q
   have hNl:=fF (ao f) f.blocks.length
   have hql:q≤1000:=by have:((aD (ao f) f.blocks.length).drop 1).length≤(aD (ao f) f.blocks.length).length:=(by simp);omega
   refine zd<|zc<|zh<|ah<|za (bD q j9 ja Z Z Z (by rw[qq hq2,hbe])) ?_
   refine ax jc Z<|ay Z<|z6<|y7 (fun j=>Nat.beq j 20) (by kernel_rfl) Z (zn (.r (.l (.l (.l (.r (.rest _)))))))<|au 0 Z (l2 Z)<|au 1 Z (yc Z)<|au 2 Z (zr Zc Z jg (by decide) Z Z)<|au 3 Z (zw (c:=.own _ _) jn Z ⟨_,.head⟩ Z)<|au 4 Z (cG Z)<|au 5 Z (l2 Z)<|au 6 Z (yc Z)<|au 7 Z (zr Zc Z jg (by decide) Z Z)<|au 8 Z (zw (c:=.own _ _) jn Z ⟨_,.head⟩ Z)<|au 9 Z (l2 Z)<|au 10 Z (yc Z)<|au 11 Z (zr Zc Z jg (by decide) Z Z)<|au 12 Z (zw (c:=.own _ _) jn Z ⟨_,.head⟩ Z)<|au 13 Z (cG Z)<|au 14 Z (q0 (j:=b.toNat) j9 ja Z Z (by omega) ⟨_,.t1⟩ (by first|rfl|(simp[bf,bd];done)|(simp[bf,bd];omega)) (by omega))<|au 15 Z (qh (j:=b.toNat) jc Z ⟨_,.t1⟩ hgN)<|aV 16 Z<|za (q0 (j:=(gi (bu (ao f) f.blocks.length) b).toNat) j9 ja Z Z (by omega) ⟨_,.head⟩ (by first|rfl|(simp[bf,bd];done)|(simp[bf,bd];omega)) (by omega))<|z6<|aV 17 Z<|za (qh (j:=(gi (bu (ao f) f.blocks.length) b).toNat) jc Z ⟨_,.head⟩ hgL)<|z6<|au 18 Z (M9 Z Z)<|aV 19 Z<|za (q0 (j:=b.toNat) j9 ja Z Z (by omega) ⟨_,.head⟩ (by first|rfl|(simp[bf,bd];done)|(simp[bf,bd];omega)) (by omega))<|z6<|yx<|q1 (i:=20) Z (by kernel_rfl) (by kernel_rfl)<|az.storeI (j:=b.toNat) ja Z Z .t2 (by first|omega|(simp;omega))<|zf (zi (zj .t1))<|zf (zi (zj .t4))<|zf (zi (zj .t4))<|zf (zi (zj .t4))<|zf (zi (zj .t4))<|z6<|yz (by kernel_rfl)<|aM ?_
   refine aA Z Z<|aa Z<|z6 ?_
   exact ⟨q+1,pt,aG,⟨_,(.refl _),by rw[hsucc]⟩,⟨hq2,fun x=>by rw[hsucc,uo hbp (by omega)];have:=hb x;split<;>omega⟩,by omega⟩
  ·have hqn:q=((aD (ao f) f.blocks.length).drop 1).length:=by have h0:¬(q:Int)<(((aD (ao f) f.blocks.length).drop 1).length:Int):=(by simpa using cq);omega
   subst hqn
   rw[DS]
   refine y9<|zc<|ah<|aa Z<|aa Z<|z6<|zh<|ya (γ:=Nat) [4,6,7,68] (fun k=>[(69,.int .i64 k)]) (fun k=>[(i34,.cells 159 [.own i25 f.blocks.length,.own i28 f.blocks.length,dn b30 f.blocks.length,dn b32 f.blocks.length]),(i28,.grow 1 3 (cI (b5 (ao f) f.blocks.length))),(0,cJ eI 23 3 b30 (cE f.blocks.length (vy (bu (ao f) f.blocks.length) k))),(0,cJ eI 23 3 b32 (List.replicate f.blocks.length [])),(i25,.grow 1 3 (cI (bu (ao f) f.blocks.length)))]) (fun k=>k≤f.blocks.length) (fun k=>f.blocks.length - k) 0 aG ⟨_,(.refl _),by rw[p8];rfl⟩ (qt _) ?_
   rintro k hk
   refine ah<|aw Z Z<|z6<|zc<|zp Z (fun ck=>?_) (fun ck=>?_)
   ·have hk2:k<f.blocks.length:=by simp at ck;omega
    have hNl:=fF (ao f) f.blocks.length
    have hgN:(bu (ao f) f.blocks.length)[k]?=some (gi (bu (ao f) f.blocks.length) (k:Int)):=f7 (x:=(k:Int)) (by omega) (by rw[fF];omega)
    have hel:=IM (bu (ao f) f.blocks.length) k
    refine zd<|zc<|zh<|ah<|aa Z<|ay Z<|z6<|ah<|aY Z<|za (yc Z)<|za (zr Zc Z jg (by decide) Z Z)<|za (zw (c:=.own _ _) jn Z ⟨_,.head⟩ Z)<|aa Z<|za (q0 (j:=k) j9 ja Z Z Z ⟨_,.t4⟩ (by first|rfl|(simp[bf,bd];done)|(simp[bf,bd];omega)) hk2)<|za (qh (j:=k) jc Z ⟨_,.t4⟩ hgN)<|ay Z<|z6<|ah<|aa Z<|aH Z Z<|z6<|zt Z (fun cn=>?_) (fun cn=>?_)
    ·have hne:gi (bu (ao f) f.blocks.length) (k:Int)≠-1:=by simpa using cn
     have hpm:=(Gd hG (by omega) hne).2
     obtain ⟨hp0,hpn⟩:=hrng _ hpm
     obtain ⟨p,hpe⟩:∃p,gi (bu (ao f) f.blocks.length) (k:Int)=p:=⟨_,rfl⟩
     rw[hpe] at hne hpm hp0 hpn
     have hpl:p.toNat<(cE f.blocks.length (vy (bu (ao f) f.blocks.length) k)).length:=by rw[cR];omega
     have hrl:=kj hpl
     have hsucc:vy (bu (ao f) f.blocks.length) (k+1)=vy (bu (ao f) f.blocks.length) k++[(p,(k:Int))]:=by rw[wI,hpe,if_pos hne]
     rw[hpe]
     refine yf (γ:=Unit) [4,6,7,68,69] (fun u=>[]) (fun u=>[(i34,.cells 159 [.own i25 f.blocks.length,.own i28 f.blocks.length,dn b30 f.blocks.length,dn b32 f.blocks.length]),(i28,.grow 1 3 (cI (b5 (ao f) f.blocks.length))),(0,cJ eI 23 3 b30 ((cE f.blocks.length (vy (bu (ao f) f.blocks.length) k)).set p.toNat ((cE f.blocks.length (vy (bu (ao f) f.blocks.length) k))[p.toNat]++[(k:Int)]))),(0,cJ eI 23 3 b32 (List.replicate f.blocks.length [])),(i25,.grow 1 3 (cI (bu (ao f) f.blocks.length)))]) (fun u=>True) ?_ (fun _ _ h=>h) ?_
     ·refine y7 (fun j=>Nat.beq j 16) (by kernel_rfl) Z (zn (.r (.l (.l (.l (.r (.rest _)))))))<|au 0 Z (l2 Z)<|au 1 Z (yc Z)<|au 2 Z (zr Zc Z sizeOf154 (by decide) Z Z)<|au 3 Z (zw (c:=dn _ _) isAgg154 Z ⟨_,.head⟩ Z)<|au 4 Z (cG Z)<|au 5 Z (l2 Z)<|au 6 Z (yc Z)<|au 7 Z (zr Zc Z sizeOf154 (by decide) Z Z)<|au 8 Z (zw (c:=dn _ _) isAgg154 Z ⟨_,.head⟩ Z)<|au 9 Z (cG Z)<|au 10 Z (qe (j:=p.toNat) jf jg Z Z (by omega) (by omega))<|au 12 Z (cG Z)<|yv (i:=11) (j:=13) Z Z (by kernel_rfl) ?_ ?_
      ·refine q5 (j:=p.toNat) (r:=(cE f.blocks.length (vy (bu (ao f) f.blocks.length) k))[p.toNat]) jn Z (qq hpl) (fun _=>.t1)<|fun i92=>z6<|aV 13 Z<|y8 (rows:=[[_]]) cZ Z Z Z Z Z<|z6<|aV 14 Z<|yn (k:=1) j9 type3 Z Z Z Z Z (fun _=>.head) (by rw[eI.av_len];rfl) (by decide) Z (by show (_+1)*8≤_;omega) (by show _+1≤_;omega)<|fun i95=>z6<|au 15 Z (qe (j:=p.toNat) jf jg Z Z (by omega) (by omega))<|yx<|q1 (i:=16) Z (by kernel_rfl) (by kernel_rfl)<|qf (j:=p.toNat) (r:=(cE f.blocks.length (vy (bu (ao f) f.blocks.length) k))[p.toNat]++[(k:Int)]) jg Z Z (by omega) .t2 .t3 Z (eI.av_push _ _) (by simp)<|zf (zi (zj .t1))<|zf (zi (zj .t4))<|zf (zi (zj .t4))<|zf (zi (zj .t4))<|zf (zi (zj .t4))<|z6<|yz (by kernel_rfl) ?_
       exact ⟨(),iT,trivial,aC,trivial⟩
      ·refine y8 (rows:=[[_]]) cZ Z Z Z Z Z<|z6<|aV 11 Z<|q5 (j:=p.toNat) (r:=(cE f.blocks.length (vy (bu (ao f) f.blocks.length) k))[p.toNat]) jn Z (qq hpl) (fun _=>.t1)<|fun i92=>z6<|aV 14 Z<|yn (k:=1) j9 type3 Z Z Z Z Z (fun _=>.head) (by rw[eI.av_len];rfl) (by decide) Z (by show (_+1)*8≤_;omega) (by show _+1≤_;omega)<|fun i95=>z6<|au 15 Z (qe (j:=p.toNat) jf jg Z Z (by omega) (by omega))<|yx<|q1 (i:=16) Z (by kernel_rfl) (by kernel_rfl)<|qf (j:=p.toNat) (r:=(cE f.blocks.length (vy (bu (ao f) f.blocks.length) k))[p.toNat]++[(k:Int)]) jg Z Z (by omega) .t2 .t3 Z (eI.av_push _ _) (by simp)<|zf (zi (zj .t1))<|zf (zi (zj .t4))<|zf (zi (zj .t4))<|zf (zi (zj .t4))<|zf (zi (zj .t4))<|z6<|yz (by kernel_rfl) ?_
       exact ⟨(),iT,trivial,aC,trivial⟩
     ·rintro _ _
      refine aM<|aA Z Z<|aa Z<|z6 ?_
      exact ⟨k+1,e7,aG,⟨_,(.refl _),by rw[hsucc,k9 hp0 hpl]⟩,hk2,by omega⟩
    ·have hne:gi (bu (ao f) f.blocks.length) (k:Int)=-1:=by simpa using cn
     have hsucc:vy (bu (ao f) f.blocks.length) (k+1)=vy (bu (ao f) f.blocks.length) k:=by rw[wI,if_neg (by rw[hne];simp)];simp
     refine zd<|aM<|aA Z Z<|aa Z<|z6 ?_
     exact ⟨k+1,e7,aG,⟨_,(.refl _),by rw[hsucc]⟩,hk2,by omega⟩
   ·have hkn:k=f.blocks.length:=by simp at ck;omega
    subst hkn
    refine yg (zi (zj .t4))<|yg (zi (zj .t2))<|yg (zi (zj .t2))<|yg (zi (zj .t4))<|y9<|ah<|aY Z<|aU Z<|aU Z<|zu Z (zn (.l (.l (.l (.l (.r (.rest _))))))) (hfr _ _ _ _ 0 _) ?_
    rintro r101 O101 ⟨rfl,fr,hfr2,rfl⟩
    refine z6<|ah<|aY Z<|za (iQ Z)<|ay Z<|z6<|yg (aK.knowIC (off:=0) .t3 .t1 Z (fF _ _))<|yg (aK.knowIC (off:=1) .t2 .t1 Z hG.lev.len)<|yg (aK.nestKnowC (off:=2) .t2 .t1 Z (cR _ _))<|yg (aK.nestKnowC (off:=3) .head .head Z hfr2.1)<|yg (yd (t:=2) Z .head)<|zg<|qb (x:=.pf _) (y:=.int _ _) Z Z ?_
    exact ⟨⟨fr,hfr2,rfl⟩,rfl⟩
def JN (f:ad):AV:=rC f (oY eI (BO f)) .any
theorem rD (f:ad) (hf:small f) (hL:aE E) (ht:aR f=true):aJ prog E 36 [.agg (bL f)] (.tup [JN f,.int .i64 0]):=
 (IO f hf hL ht).weak fun x O h=>by
  obtain ⟨⟨fr,hfr,rfl⟩,rfl⟩:=h
  refine ⟨Z,fun I v hv=>?_⟩
  obtain ⟨vs,e,w0,us,e2,h0,hr⟩:=hv
  obtain ⟨b,off,ws,e3,hl,hk⟩:=h0
  obtain ⟨u0,t0,f0,a0,u1,t1,f1,a1,u2,t2,f2,a2,u3,t3,f3,a3,hz⟩:=hl
  exact ⟨vs,e,w0,us,e2,⟨b,off,ws,e3,⟨u0,t0,f0,a0,u1,t1,f1,a1,u2,t2,f2,a2,u3,t3,f3,trivial,hz⟩,hk⟩,hr⟩
end Go.Proofs.YtbanfokidalbaaaGreatDoor
