/- Shaped programs may be run. No conditions. -/
import Derived.Test.YtjpnhkmfhlnpcaaGreatDoorZp
import Derived.Test.YtjpnhkmfhlnpcaaGreatDoorZm
import Derived.Test.YtjpnhkmfhlnpcaaGreatDoorZf
set_option linter.unusedVariables false
set_option linter.unusedSimpArgs false
set_option linter.unusedSectionVars false
namespace Go.Proofs.YtjpnhkmfhlnpcaaGreatDoor
section
open Go.Proofs.Tryz
open Go.Proofs Go.Lib Go.Shelf Go.RowKit
theorem C3:iJ prog 52 #[(0,3),(3,1),(4,1),(5,1),(6,1),(7,1),(8,1),(9,13),(22,1)] [.raw (.slice none 0 0),.raw (.slice none 0 0),.raw (.slice none 0 0),.raw (.slice none 0 0),.raw (.slice none 0 0),.raw (.slice none 0 0),.raw (.slice none 0 0),.int .i64 0,.int .i64 0,.int .i64 0,.int .i64 0,.int .i64 0,.raw (.slice none 0 0),.int .i64 0,.int .i64 0,.int .i64 0,.int .i64 0,.int .i64 0,.int .i64 0,.int .i64 0,.int .i64 0,.int .i64 0,.bool false]:=⟨_,_,jf,zeroValue52,fun w=>by kernel_rfl,rfl⟩
variable {E:World}
set_option maxRecDepth 20000
def EM (a:vP):List AV:=[.int .i64 a.int,.bool a.b,.int .i64 a.arr]
def EN (r:List Int):List AV:=[.fro 1 (r.map b5)]
def rQ (i:vb):List AV:=[.fro 3 (i.args.map EM),.fro 1 (i.arrays.map EN)]
def kj (s:GS):List AV:=[.int .i64 s.en,.int .i64 s.val,.int .i64 s.tr,.fro 1 (s.trace.map b5),.int .i64 s.st,.int .i64 (s.ck 0),.int .i64 (s.ck 1),.int .i64 (s.ck 2),.int .i64 (s.ck 3),.int .i64 (s.ck 4),.int .i64 (s.ck 5),.int .i64 (s.ck 6),.int .i64 (s.ck 7)]
def kW (n k:Nat):List Int:=List.replicate k (-1)++List.replicate (n - k) 0
theorem GV (n:Nat):kW n 0=List.replicate n 0:=by unfold kW;simp
theorem GW (n:Nat):kW n n=List.replicate n (-1):=by unfold kW;simp
theorem rR {n k:Nat} (h:k≤n):(kW n k).length=n:=by unfold kW;simp;omega
theorem C4 {n k:Nat} (h:k<n):(kW n k).set k (-1)=kW n (k+1):=by
 unfold kW
 rw[List.set_append_right _ _ (by simp),List.length_replicate,Nat.sub_self,show n - k=(n - (k+1))+1 by omega,List.replicate_succ,List.set_cons_zero,List.replicate_succ',qs];rfl
section
variable {α β:Type} {g:Nat→α→β} {d:β} {n k:Nat} {l:List α}
theorem wm:cM g d n (l.take 0)=List.replicate n d:=by unfold cM;simp
theorem EO (h:l.length≤n):(cM g d n l).length=n:=by unfold cM;simp;omega
theorem fg (h:l.length≤n) (k:Nat):(cM g d n (l.take k)).length=n:=EO (by rw[w3];omega)
theorem l8 (hk:k<l.length) (h:l.length≤n):(cM g d n (l.take k)).set k (g k l[k])=cM g d n (l.take (k+1)):=by
 have hl:((l.take k).zipIdx.map fun q=>g q.2 q.1).length=k:=by simp;omega
 unfold cM
 rw[List.set_append_right _ _ (by rw[hl];exact Nat.le_refl _),hl,Nat.sub_self,w3,w3,Nat.min_eq_left (by omega),Nat.min_eq_left (by omega),show n - k=(n - (k+1))+1 by omega,List.replicate_succ,List.set_cons_zero,qr hk,List.zipIdx_append,List.map_append,qs]
 have:(l.take k).length=k:=by rw[w3];omega
 simp[this]
theorem mM (hk:k<l.length) (h:l.length≤n) (e:g k l[k]=d):cM g d n (l.take k)=cM g d n (l.take (k+1)):=by
 rw[←l8 hk h,e]
 refine (List.ext_getElem? fun j=>?_)
 by_cases hj:k=j
 ·subst hj
  rw[List.getElem?_set_self (by rw[fg h];omega)]
  have hl:((l.take k).zipIdx.map fun q=>g q.2 q.1).length=k:=by simp;omega
  unfold cM
  rw[List.getElem?_append_right (by rw[hl];exact Nat.le_refl _),hl,Nat.sub_self,w3,Nat.min_eq_left (by omega),List.getElem?_replicate,if_pos (by omega)]
 ·rw[List.getElem?_set_ne hj]
end
theorem EP (r:List Int):(r.map b5).flatten=cI r:=nR r
abbrev GX (ints:List Int) (bools:List Bool) (arrs:List Int) (arrays:List (List Int)):GS:=⟨ints,bools,arrs,arrays,0,0,3,0,0,[],0,fun _=>0,false⟩
theorem GY (f:ab) (iw ja jb jc jo jt:Nat) {ids:List Nat} {s:GS} (h:ids.length=s.arrays.length) (i:Nat) (r:List Int) (m:Nat) (hm:m=r.length):(iw,bF.cells 52 (bQ f++[.own ja f.vars.length,.own jb f.vars.length,.own jc f.vars.length,.own jo (s.arrays.length+1),.int .i64 s.blk,.int .i64 s.pc,.int .i64 s.en,.int .i64 s.val,.int .i64 s.tr,.own jt s.trace.length,.int .i64 s.st,.int .i64 (s.ck 0),.int .i64 (s.ck 1),.int .i64 (s.ck 2),.int .i64 (s.ck 3),.int .i64 (s.ck 4),.int .i64 (s.ck 5),.int .i64 (s.ck 6),.int .i64 (s.ck 7),.bool s.ended]))::(ja,.grow 1 2 (cI s.ints))::(jb,.grow 1 4 (cB s.bools))::(jc,.grow 1 3 (cI s.arrs))::(jo,.grow 1 44 (gm ids s.arrays++[.own i m]))::(jt,.grow 1 2 (cI s.trace))::[(0,ur (pE (ids++[i]) (s.arrays++[r])))]=wO f iw ja jb jc jo jt (ids++[i]) { s with arrays:=s.arrays++[r] }:=by
 subst hm
 unfold wO wR GR
 rw[←rP i r h]
 simp only[qw,List.length_singleton]
set_option maxHeartbeats 16000000 in
theorem m8 (f:ab) (i:vb) (hv:f.vars.length≤1000) (ha:i.args.length≤f.vars.length) (hn:i.arrays.length≤40) (hr:∀r∈i.arrays,r.length≤100):bY prog E 15 [.agg (bQ f),.agg (rQ i)] [] (fun y O=>∃iw ja jb jc jo jt ids,ids.length=i.arrays.length∧y=.po iw 0∧O=wO f iw ja jb jc jo jt ids (dF f i)):=by
 refine zo func15 Z (by decide) Z<|ah<|yb (cs:=_) Z Z Z<|yb (cs:=_) Z Z Z<|za (rv Z)<|z7<|ah<|aq ji Z Y6 Z Z<|aM Yg Z<|ae Zb Z<|aw Z<|z7<|zb<|yq (γ:=Nat × Nat × Nat × Nat) [2,3] (fun g=>[(6,.po g.1 0)]) (fun g=>[(g.1,.cells 52 (bQ f++[.own g.2.1 f.vars.length,.own g.2.2.1 f.vars.length,.own g.2.2.2 f.vars.length,.raw (.slice none 0 0),.int .i64 0,.int .i64 0,.int .i64 0,.int .i64 0,.int .i64 0,.raw (.slice none 0 0),.int .i64 0,.int .i64 0,.int .i64 0,.int .i64 0,.int .i64 0,.int .i64 0,.int .i64 0,.int .i64 0,.int .i64 0,.bool false])),(g.2.1,.grow 1 2 (cI (List.replicate f.vars.length 0))),(g.2.2.1,.grow 1 4 (cB (List.replicate f.vars.length false))),(g.2.2.2,.grow 1 3 (cI (List.replicate f.vars.length 0)))]) (fun g=>True) ?_ (fun _ _ h=>h) ?_
 ·refine zq (fun j=>false) (by kernel_rfl) Z (zu (.rest _))<|ak 0 Z (yv js jk Z Z)<|ak 1 Z (d9 Z)<|ak 3 Z (d9 Z)<|ak 5 Z (d9 Z)<|bJ.three (i:=2) (j:=4) (m:=6) Z Z Z (by kernel_rfl) ?_ ?_ ?_
  ·refine qm (m:=f.vars.length) jr Yf Z Z Z Z Z (by simp) (by simp) (by show (8:Int)*_≤_;omega) (by omega)<|fun i17=>z7<|qc (i:=4) (j:=6) Z Z (by kernel_rfl) ?_ ?_
   ·refine ao.makeB (m:=f.vars.length) jn Y2 Z Z Z Z Z (by simp) (by simp) (by show (1:Int)*_≤_;omega) (by omega)<|fun i19=>z7<|bO 6 Z<|qm (m:=f.vars.length) jd Zo Z Z Z Z Z (by simp) (by simp) (by show (8:Int)*_≤_;omega) (by omega)<|fun i21=>z7<|ak 7 Z (ya (cps:=[(0,[_,_,_]),(1,[_]),(2,[_]),(3,[_])]) (rs:=[_,_,_,_,_,_,.raw (.slice none 0 0),.int .i64 0,.int .i64 0,.int .i64 0,.int .i64 0,.int .i64 0,.raw (.slice none 0 0),.int .i64 0,.int .i64 0,.int .i64 0,.int .i64 0,.int .i64 0,.int .i64 0,.int .i64 0,.int .i64 0,.int .i64 0,.bool false]) C3 Z Z Z)<|bO 8 Z<|ao.boxO (cs:=_) Z Z Z Z<|fun i23=>zx (zn (zp .t1))<|zx (zn (zp .t2))<|zx (zn (zp .t3))<|zx (zn (zp .t3))<|z7<|ak 9 Z (DS Z)<|eG ?_
    exact ⟨(i23,i17,i19,i21),eE,aW,aN,trivial⟩
   ·refine qm (m:=f.vars.length) jd Zo Z Z Z Z Z (by simp) (by simp) (by show (8:Int)*_≤_;omega) (by omega)<|fun i21=>z7<|bO 4 Z<|ao.makeB (m:=f.vars.length) jn Y2 Z Z Z Z Z (by simp) (by simp) (by show (1:Int)*_≤_;omega) (by omega)<|fun i19=>z7<|ak 7 Z (ya (cps:=[(0,[_,_,_]),(1,[_]),(2,[_]),(3,[_])]) (rs:=[_,_,_,_,_,_,.raw (.slice none 0 0),.int .i64 0,.int .i64 0,.int .i64 0,.int .i64 0,.int .i64 0,.raw (.slice none 0 0),.int .i64 0,.int .i64 0,.int .i64 0,.int .i64 0,.int .i64 0,.int .i64 0,.int .i64 0,.int .i64 0,.int .i64 0,.bool false]) C3 Z Z Z)<|bO 8 Z<|ao.boxO (cs:=_) Z Z Z Z<|fun i23=>zx (zn (zp .t2))<|zx (zn (zp .t2))<|zx (zn (zp .t3))<|zx (zn (zp .t3))<|z7<|ak 9 Z (DS Z)<|eG ?_
    exact ⟨(i23,i17,i19,i21),eE,aW,aN,trivial⟩
  ·refine ao.makeB (m:=f.vars.length) jn Y2 Z Z Z Z Z (by simp) (by simp) (by show (1:Int)*_≤_;omega) (by omega)<|fun i19=>z7<|qc (i:=2) (j:=6) Z Z (by kernel_rfl) ?_ ?_
   ·refine qm (m:=f.vars.length) jr Yf Z Z Z Z Z (by simp) (by simp) (by show (8:Int)*_≤_;omega) (by omega)<|fun i17=>z7<|bO 6 Z<|qm (m:=f.vars.length) jd Zo Z Z Z Z Z (by simp) (by simp) (by show (8:Int)*_≤_;omega) (by omega)<|fun i21=>z7<|ak 7 Z (ya (cps:=[(0,[_,_,_]),(1,[_]),(2,[_]),(3,[_])]) (rs:=[_,_,_,_,_,_,.raw (.slice none 0 0),.int .i64 0,.int .i64 0,.int .i64 0,.int .i64 0,.int .i64 0,.raw (.slice none 0 0),.int .i64 0,.int .i64 0,.int .i64 0,.int .i64 0,.int .i64 0,.int .i64 0,.int .i64 0,.int .i64 0,.int .i64 0,.bool false]) C3 Z Z Z)<|bO 8 Z<|ao.boxO (cs:=_) Z Z Z Z<|fun i23=>zx (zn (zp .t1))<|zx (zn (zp .t3))<|zx (zn (zp .t3))<|zx (zn (zp .t3))<|z7<|ak 9 Z (DS Z)<|eG ?_
    exact ⟨(i23,i17,i19,i21),eE,aW,aN,trivial⟩
   ·refine qm (m:=f.vars.length) jd Zo Z Z Z Z Z (by simp) (by simp) (by show (8:Int)*_≤_;omega) (by omega)<|fun i21=>z7<|bO 2 Z<|qm (m:=f.vars.length) jr Yf Z Z Z Z Z (by simp) (by simp) (by show (8:Int)*_≤_;omega) (by omega)<|fun i17=>z7<|ak 7 Z (ya (cps:=[(0,[_,_,_]),(1,[_]),(2,[_]),(3,[_])]) (rs:=[_,_,_,_,_,_,.raw (.slice none 0 0),.int .i64 0,.int .i64 0,.int .i64 0,.int .i64 0,.int .i64 0,.raw (.slice none 0 0),.int .i64 0,.int .i64 0,.int .i64 0,.int .i64 0,.int .i64 0,.int .i64 0,.int .i64 0,.int .i64 0,.int .i64 0,.bool false]) C3 Z Z Z)<|bO 8 Z<|ao.boxO (cs:=_) Z Z Z Z<|fun i23=>zx (zn (zp .t2))<|zx (zn (zp .t3))<|zx (zn (zp .t3))<|zx (zn (zp .t3))<|z7<|ak 9 Z (DS Z)<|eG ?_
    exact ⟨(i23,i17,i19,i21),eE,aW,aN,trivial⟩
  ·refine qm (m:=f.vars.length) jd Zo Z Z Z Z Z (by simp) (by simp) (by show (8:Int)*_≤_;omega) (by omega)<|fun i21=>z7<|qc (i:=2) (j:=4) Z Z (by kernel_rfl) ?_ ?_
   ·refine qm (m:=f.vars.length) jr Yf Z Z Z Z Z (by simp) (by simp) (by show (8:Int)*_≤_;omega) (by omega)<|fun i17=>z7<|bO 4 Z<|ao.makeB (m:=f.vars.length) jn Y2 Z Z Z Z Z (by simp) (by simp) (by show (1:Int)*_≤_;omega) (by omega)<|fun i19=>z7<|ak 7 Z (ya (cps:=[(0,[_,_,_]),(1,[_]),(2,[_]),(3,[_])]) (rs:=[_,_,_,_,_,_,.raw (.slice none 0 0),.int .i64 0,.int .i64 0,.int .i64 0,.int .i64 0,.int .i64 0,.raw (.slice none 0 0),.int .i64 0,.int .i64 0,.int .i64 0,.int .i64 0,.int .i64 0,.int .i64 0,.int .i64 0,.int .i64 0,.int .i64 0,.bool false]) C3 Z Z Z)<|bO 8 Z<|ao.boxO (cs:=_) Z Z Z Z<|fun i23=>zx (zn (zp .t3))<|zx (zn (zp .t2))<|zx (zn (zp .t3))<|zx (zn (zp .t3))<|z7<|ak 9 Z (DS Z)<|eG ?_
    exact ⟨(i23,i17,i19,i21),eE,aW,aN,trivial⟩
   ·refine ao.makeB (m:=f.vars.length) jn Y2 Z Z Z Z Z (by simp) (by simp) (by show (1:Int)*_≤_;omega) (by omega)<|fun i19=>z7<|bO 2 Z<|qm (m:=f.vars.length) jr Yf Z Z Z Z Z (by simp) (by simp) (by show (8:Int)*_≤_;omega) (by omega)<|fun i17=>z7<|ak 7 Z (ya (cps:=[(0,[_,_,_]),(1,[_]),(2,[_]),(3,[_])]) (rs:=[_,_,_,_,_,_,.raw (.slice none 0 0),.int .i64 0,.int .i64 0,.int .i64 0,.int .i64 0,.int .i64 0,.raw (.slice none 0 0),.int .i64 0,.int .i64 0,.int .i64 0,.int .i64 0,.int .i64 0,.int .i64 0,.int .i64 0,.int .i64 0,.int .i64 0,.bool false]) C3 Z Z Z)<|bO 8 Z<|ao.boxO (cs:=_) Z Z Z Z<|fun i23=>z7<|ak 9 Z (DS Z)<|eG ?_
    exact ⟨(i23,i17,i19,i21),eE,aW,aN,trivial⟩
 ·rintro ⟨i23,i17,i19,i21⟩ _
  refine ah<|bn Z<|az Z<|za (zc jf Z Z7 (by decide) Z Z)<|za (zc jy Z sizeOf46 (by decide) Z Z)<|yg (l:=[_]) (new:=[_,_,_,_,_,_,_,_,_,_,_,_,_,_,_,_,_,_,_,_,_,_,_]) sizeOf46 Z Z Z Z Z Z .head Z Z<|z7<|di (off:=6) (k:=1) (T:=44) (fun _=>.head) Z<|fun jo=>di (off:=12) (k:=1) (T:=2) (fun _=>.t1) Z<|fun jt=>yc aX.bagNew<|yc (zn (zp .head))<|yc (zn (zp .t1))<|yc (zn (zp .t2))<|yc (zn (zp .t6))<|yc (zn (zp .t6))<|yc (zn (zp .t6))<|yc (zn (zp .t6))<|zb<|ah<|bn Z<|az Z<|za (zc jf Z jm (by decide) Z Z)<|za (zj (c:=.own _ _) jw Z ⟨_,.head⟩ Z)<|za (Gv.lenO jd Z)<|aa Z<|z7<|zg<|y7 (γ:=Nat) [2,3,6,32] (fun k=>[(33,.int .i64 k)]) (fun k=>wO f i23 i17 i19 i21 jo jt [] (GX (List.replicate f.vars.length 0) (List.replicate f.vars.length false) (kW f.vars.length k) [])) (fun k=>k≤f.vars.length) (fun k=>f.vars.length - k) 0 aW ⟨_,(.refl _),by rw[GV];rfl⟩ (qt _) ?_
  rintro k hk
  refine ah<|ay Z Z<|z7<|zb<|zm Z (fun ck=>?_) (fun ck=>?_)
  ·have hk2:k<f.vars.length:=by simp at ck;omega
   refine ze<|zb<|zg<|ah<|aa Z<|aw Z<|z7<|bi<|bn Z<|az Z<|za (zc jf Z jm (by decide) Z Z)<|za (zj (c:=.own _ _) jw Z ⟨_,.head⟩ Z)<|aa Z<|za (yj (j:=k) jd je Z Z Z ⟨_,.t3⟩ ((aJ _).trans (rR hk)) hk2)<|q8 (j:=k) je Z Z .t3 (by rw[rR hk];exact hk2)<|z7<|bi<|aC Z Z<|aa Z<|z7 ?_
   exact ⟨k+1,gY,aW,⟨_,(.refl _),by rw[←C4 hk2]⟩,hk2,by omega⟩
  ·obtain rfl:k=f.vars.length:=by simp at ck;omega
   rw[GW]
   refine zz<|zb<|ah<|aq Zw Z sizeOf35 Z Z<|aM isAgg35 Z<|ae Yh Z<|aa Z<|z7<|zg<|y7 (γ:=Nat) [2,3,6,44,45] (fun k=>[(46,.int .i64 k)]) (fun k=>wO f i23 i17 i19 i21 jo jt [] (GX (cM (o9 f) 0 f.vars.length (i.args.take k)) (cM (pa f) false f.vars.length (i.args.take k)) (cM (nA f) (-1) f.vars.length (i.args.take k)) [])) (fun k=>k≤i.args.length) (fun k=>i.args.length - k) 0 aW ⟨_,(.refl _),by rw[wm,wm,wm]⟩ (qt _) ?_
   rintro k hk
   refine ah<|ay Z Z<|z7<|zb<|zm Z (fun ck=>?_) (fun ck=>?_)
   ·have hk2:k<i.args.length:=by simp at ck;omega
    obtain ⟨a,hea⟩:∃a,i.args[k]=a:=⟨_,rfl⟩
    have hag:i.args[k]?=some a:=by rw[qq hk2,hea]
    obtain ⟨v,hev⟩:∃v,f.vars[k]?=some v:=⟨_,qq (by omega)⟩
    have hty:nT f k=v.ty:=by unfold nT;rw[hev];rfl
    have sI:=l8 (g:=o9 f) (d:=0) hk2 ha
    have sB:=l8 (g:=pa f) (d:=false) hk2 ha
    have sA:=l8 (g:=nA f) (d:=-1) hk2 ha
    have kI:=mM (g:=o9 f) (d:=0) hk2 ha
    have kB:=mM (g:=pa f) (d:=false) hk2 ha
    have kA:=mM (g:=nA f) (d:=-1) hk2 ha
    rw[hea] at sI sB sA kI kB kA
    refine ze<|zb<|zg<|ah<|aa Z<|za (cH k Yh sizeOf80 Z Z Z hag)<|ac isAgg80 sizeOf80 Z Z<|zy (cs:=[.int .i64 0,.bool false,.int .i64 0]) zeroValue80 Z Z<|fun i9=>aw Z<|zt sizeOf80 Z Z Z Z Z Z .head Z<|zx (yo (t:=9) Z .head)<|z7<|ah<|aq ji Z Y6 Z Z<|aM Yg Z<|aa Z<|za (cH k Zb Y7 Z Z Z hev)<|aq Zm Z sizeOf64 Z Z<|aE isAgg64 Z<|z7<|zg<|ah<|ax Z Z<|ad Z<|z7<|zm Z (fun c0=>?_) (fun c0=>?_)
    ·have c0:nT f k=0:=hty.trans (by simpa using c0)
     rw[show o9 f k a=a.int by unfold o9;rw[if_pos c0]] at sI
     have eB:=kB (by unfold pa;rw[if_pos c0])
     have eA:=kA (by unfold nA;rw[if_pos c0])
     refine zq (fun j=>Nat.beq j 8) (by kernel_rfl) Z (zu (.r (.rest _)))<|ak 0 Z (eU Z)<|ak 1 Z (zw Z)<|ak 2 Z (zc jf Z Za (by decide) Z Z)<|ak 3 Z (zj (c:=.own _ _) Zk Z ⟨_,.head⟩ Z)<|ak 4 Z (d9 Z)<|ak 5 Z (eK Yn Z Z8 Z Z)<|ak 6 Z (gH Y9 Z)<|bO 7 Z<|za (yj (j:=k) jr Z8 Z Z Z ⟨_,.head⟩ ((aJ _).trans (fg ha k)) (by omega))<|z7<|yi<|yk (i:=8) Z (by kernel_rfl) (by kernel_rfl)<|q8 (j:=k) Z8 Z Z .t1 (by rw[fg ha];omega)<|z7<|yl (by kernel_rfl)<|bi<|aC Z Z<|aa Z<|z7 ?_
     exact ⟨k+1,vv,aW,⟨_,(.refl _),by rw[←sI,←eB,←eA]⟩,hk2,by omega⟩
    ·have c0:¬nT f k=0:=fun h=>c0 (by rw[hty] at h;simpa using h)
     have eI:=kI (by unfold o9;rw[if_neg c0])
     refine ah<|ax Z Z<|ad Z<|z7<|zm Z (fun c1=>?_) (fun c1=>?_)
     ·have c1:nT f k=1:=hty.trans (by simpa using c1)
      rw[show pa f k a=a.b by unfold pa;rw[if_neg c0,if_pos c1]] at sB
      have eA:=kA (by unfold nA;rw[if_neg c0,if_pos c1])
      refine zq (fun j=>Nat.beq j 8) (by kernel_rfl) Z (zu (.r (.rest _)))<|ak 0 Z (eU Z)<|ak 1 Z (zw Z)<|ak 2 Z (zc jf Z Ya (by decide) Z Z)<|ak 3 Z (zj (c:=.own _ _) Yi Z ⟨_,.head⟩ Z)<|ak 4 Z (d9 Z)<|ak 5 Z (eK Yn Z Z3 Z Z)<|ak 6 Z (qg (c:=.bool _) Yc Z)<|bO 7 Z<|za (yj (j:=k) jn Z3 Z Z Z ⟨_,.t1⟩ ((bt _).trans (fg ha k)) (by omega))<|z7<|yi<|yk (i:=8) Z (by kernel_rfl) (by kernel_rfl)<|qe (j:=k) Z3 Z Z .t2 (by rw[fg ha];omega)<|z7<|yl (by kernel_rfl)<|bi<|aC Z Z<|aa Z<|z7 ?_
      exact ⟨k+1,vv,aW,⟨_,(.refl _),by rw[←sB,←eI,←eA]⟩,hk2,by omega⟩
     ·have c1:¬nT f k=1:=fun h=>c1 (by rw[hty] at h;simpa using h)
      rw[show nA f k a=a.arr by unfold nA;rw[if_neg c0,if_neg c1]] at sA
      have eB:=kB (by unfold pa;rw[if_neg c0,if_neg c1])
      refine zq (fun j=>Nat.beq j 8) (by kernel_rfl) Z (zu (.r (.rest _)))<|ak 0 Z (eU Z)<|ak 1 Z (zw Z)<|ak 2 Z (zc jf Z jm (by decide) Z Z)<|ak 3 Z (zj (c:=.own _ _) jw Z ⟨_,.head⟩ Z)<|ak 4 Z (d9 Z)<|ak 5 Z (eK Yn Z je Z Z)<|ak 6 Z (gH jj Z)<|bO 7 Z<|za (yj (j:=k) jd je Z Z Z ⟨_,.t2⟩ ((aJ _).trans (fg ha k)) (by omega))<|z7<|yi<|yk (i:=8) Z (by kernel_rfl) (by kernel_rfl)<|q8 (j:=k) je Z Z .t3 (by rw[fg ha];omega)<|z7<|yl (by kernel_rfl)<|bi<|aC Z Z<|aa Z<|z7 ?_
      exact ⟨k+1,vv,aW,⟨_,(.refl _),by rw[←sA,←eI,←eB]⟩,hk2,by omega⟩
   ·obtain rfl:k=i.args.length:=by simp at ck;omega
    rw[qv]
    refine zz<|zb<|ah<|aq Zw Z Zt Z Z<|aM Ye Z<|ae Z9 Z<|aa Z<|z7<|zg<|y7 (γ:=Nat × Nat × List Nat) [6,87,88] (fun g=>[(89,.int .i64 g.1)]) (fun g=>wO f i23 i17 i19 i21 g.2.1 jt g.2.2 (GX (cM (o9 f) 0 f.vars.length i.args) (cM (pa f) false f.vars.length i.args) (cM (nA f) (-1) f.vars.length i.args) (i.arrays.take g.1))) (fun g=>g.1≤i.arrays.length∧g.2.2.length=(i.arrays.take g.1).length) (fun g=>i.arrays.length - g.1) (0,jo,[]) aW aN (⟨qt _,Z⟩) ?_
    rintro ⟨k,jo,ids⟩ ⟨hk,hids⟩
    try dsimp only at *
    refine ah<|ay Z Z<|z7<|zb<|zm Z (fun ck=>?_) (fun ck=>?_)
    ·have hk2:k<i.arrays.length:=by simp at ck;omega
     obtain ⟨r,her⟩:∃r,i.arrays[k]=r:=⟨_,rfl⟩
     have hrg:i.arrays[k]?=some r:=by rw[qq hk2,her]
     have hrl:=hr r (w0 hrg)
     have hts:i.arrays.take (k+1)=i.arrays.take k++[r]:=by rw[qr hk2,her]
     have htl:(i.arrays.take k).length=k:=by rw[w3];omega
     refine ze<|zb<|zg<|ah<|za (cH k Z9 Za Z Z Z hrg)<|aM Zk Z<|za (va Z)<|z7<|zq (fun j=>Nat.beq j 12) (by kernel_rfl) Z (zu (.r (.rest _)))<|ak 0 Z (eU Z)<|ak 1 Z (eU Z)<|ak 2 Z (zw Z)<|ak 3 Z (zc jf Z Zt (by decide) Z Z)<|ak 4 Z (zj (c:=.own _ _) Ye Z ⟨_,.head⟩ Z)<|ak 6 Z (vu Z)<|bO 5 Z<|ye (k:=1) jr Yf<|fun i98=>z7<|bO 7 Z<|ym (k:=1) jr Yf Z Z Z Z Z (fun _=>.head) Z (by decide) (by rw[EP];exact bN r) (by show (_+_)*8≤_;simp;omega) (by simp;omega)<|fun i100=>z7<|bO 8 Z<|yf (rows:=[[_]]) EG Z Z Z Z Z<|z7<|bO 9 Z<|ym (k:=1) Z9 type44 Z Z Z Z Z (fun _=>.t4) (by show _=(i.arrays.take k).length*1;rw[iz hids];omega) (by decide) Z (by show ((i.arrays.take k).length+1)*24≤_;omega) (by show (i.arrays.take k).length+1≤_;omega)<|fun i102=>z7<|yr (i:=10) Z (by kernel_rfl) (by kernel_rfl) (by kernel_rfl) (by kernel_rfl) (zw Z)<|ak 11 Z (zc jf Z Zt (by decide) Z Z)<|yi<|yk (i:=12) Z (by kernel_rfl) (by kernel_rfl)<|yg (l:=[_]) (new:=[_,_,_,_,_,_,_,_,_,_,_,_,_,_,_,_,_,_,_,_,_,_,_]) Zt Z Z Z Z Z Z .head Z Z<|z7<|yl (by kernel_rfl)<|yc (aX.bagIn (X':=pE (ids++[i100]) (i.arrays.take k++[r])) .t1 ((by rw[List.nil_append,EP];exact uK i100 r hids)) .t6)<|bi<|aC Z Z<|aa Z ?_
     refine z7 ?_
     exact ⟨(k+1,i102,ids++[i100]),hZ,aW,⟨_,(.refl _),by dsimp only;rw[hts];exact GY f i23 i17 i19 i21 i102 jt (s:=GX (cM (o9 f) 0 f.vars.length i.args) (cM (pa f) false f.vars.length i.args) (cM (nA f) (-1) f.vars.length i.args) (i.arrays.take k)) hids i100 r _ (by simp)⟩,⟨hk2,by dsimp only;rw[hts];simp[hids]⟩,by dsimp only;omega⟩
    ·obtain rfl:k=i.arrays.length:=by simp at ck;omega
     rw[qv] at hids
     rw[qv]
     refine zz<|ah<|bn Z<|za (DS Z)<|z7<|zf<|zh (x:=.po _ _) Z ?_
     exact ⟨i23,i17,i19,i21,jo,jt,ids,hids,rfl,rfl⟩
end
section
open Go.Proofs.Tryz
open Go.Proofs Go.Lib Go.Shelf Go.RowKit
variable {E:World}
set_option maxRecDepth 20000
set_option maxHeartbeats 4000000 in
theorem C5 (f:ab) (i:vb) (n:Nat) (hR:pd f) (hv:f.vars.length≤1000) (hs:small f) (hi:bB f (dF f i)) (ha:i.args.length≤f.vars.length) (hn:n≤1000000000):aZ prog E 18 [.agg (bQ f),.agg (rQ i),.int .i64 n] (.agg (kj (df f n (dF f i)))):=by
 have hls:=hi.ls
 have hlr:=hi.lr
 refine zo func18 Z (by decide) Z<|ah<|yb (cs:=_) Z Z Z<|yb (cs:=_) Z Z Z<|zy (cs:=[.int .i64 0,.int .i64 0,.int .i64 0,.raw (.slice none 0 0),.int .i64 0,.int .i64 0,.int .i64 0,.int .i64 0,.int .i64 0,.int .i64 0,.int .i64 0,.int .i64 0,.int .i64 0]) zeroValue50 Z Z<|fun i6=>z7<|ah<|ac js jk Z Z<|ac isAgg38 sizeOf38 Z Z<|yu Z (zu (.r (.rest _))) (m8 f i hv ha hls hlr) ?_
 rintro r11 O11 ⟨iw,ja,jb,jc,jo,jt,ids,hids,rfl,rfl⟩
 refine za (DS Z)<|z7<|zb<|ah<|aw Z<|z7<|zg<|y7 (γ:=Nat × GS × Nat × Nat × List Nat) [2,6,7] (fun g=>[(8,.int .i64 g.1)]) (fun g=>wO f iw ja jb jc g.2.2.1 g.2.2.2.1 g.2.2.2.2 g.2.1++[(i6,.cells 50 [.int .i64 0,.int .i64 0,.int .i64 0,.raw (.slice none 0 0),.int .i64 0,.int .i64 0,.int .i64 0,.int .i64 0,.int .i64 0,.int .i64 0,.int .i64 0,.int .i64 0,.int .i64 0])]) (fun g=>g.1≤n∧df f (n - g.1) g.2.1=df f n (dF f i)∧bB f g.2.1∧g.2.1.st≤g.1∧(∀q,g.2.1.ck q≤g.1)∧g.2.2.2.2.length=g.2.1.arrays.length) (fun g=>n - g.1) (0,dF f i,jo,jt,ids) aW aN (⟨qt _,Z,hi,qt _,fun _=>qt _,hids⟩) ?_
 rintro ⟨k,s,jo,jt,ids⟩ ⟨hk,hrun,hg,hst,hck,hids⟩
 try dsimp only at *
 refine zb<|ah<|aa Z<|aa Z<|ay Z Z<|ai Z<|zk (s:=15) Z (fun ck=>?_) (fun ck=>?_)
 ·have hk2:k<n:=by simp at ck;omega
  refine z8 Z Z ck<|bn Z<|z8 Z Z ck<|az Z<|z8 Z Z ck<|za (zc jf Z Z3 (by decide) Z Z)<|z8 Z Z ck<|za (zj (c:=.bool _) Yc Z ⟨_,.head⟩ Z)<|z8 Z Z ck<|aD Z<|ap Z ck Z<|z7<|zr Z (fun ce=>?_) (fun ce=>?_)
  ·have he:s.ended=false:=by simpa using ce
   rw[show n - k=(n - (k+1))+1 by omega,df,if_neg (by rw[he];decide)] at hrun
   refine ze<|zb<|zg<|bi<|bn Z<|yu Z (zu (.l (.l (.l (.l (.l (.l (.l (.r (.rest _)))))))))) (pH f iw ja jb jc jo jt ids s hids hg hR hv hs (by omega) (fun q=>by have:=hck q;omega)) ?_
   rintro r25 O25 ⟨jo',jt',ids',hl',rfl,rfl⟩
   refine z7<|bi<|aa Z<|aC Z Z<|aw Z<|z7 ?_
   exact ⟨(k+1,cU f s,jo',jt',ids'),hZ,aW,aN,⟨hk2,hrun,hg.step hR,by rw[xM];dsimp only;omega,fun q=>Nat.le_trans (xN f s q) (by have:=hck q;dsimp only;omega),hl'⟩,by dsimp only;omega⟩
  ·have he:s.ended=true:=by simpa using ce
   have hend:df f n (dF f i)=s:=by rw[←hrun];exact mJ he _
   rw[hend]
   refine zz<|zb<|yc (aX.knowIC (off:=12) .t5 .head Z Z)<|bi<|bn Z<|az Z<|za (zc jf Z Z7 (by decide) Z Z)<|za (Gv.loadAC (l:=[_,_,_,_,_,_,_,_,_,_,_,_,_]) isAgg50 Z7 Z ⟨_,.head⟩ Z Z)<|zt Z7 Z Z Z Z Z Z .t6 Z<|z7<|zf<|dh.c1 Z ⟨_,.t6⟩ isAgg50 Z7 Z ?_
   rfl
 ·have hk2:k=n:=by simp at ck;omega
  have hend:df f n (dF f i)=s:=by rw[←hrun,hk2,Nat.sub_self];rfl
  rw[hend]
  refine z6 Z Z ck<|z6 Z Z ck<|z6 Z Z ck<|z6 Z Z ck<|z6 Z Z ck<|al Z ck Z<|z7<|yp Z Z<|zz<|zb<|yc (aX.knowIC (off:=12) .t5 .head Z Z)<|bi<|bn Z<|az Z<|za (zc jf Z Z7 (by decide) Z Z)<|za (Gv.loadAC (l:=[_,_,_,_,_,_,_,_,_,_,_,_,_]) isAgg50 Z7 Z ⟨_,.head⟩ Z Z)<|zt Z7 Z Z Z Z Z Z .t6 Z<|z7<|zf<|dh.c1 Z ⟨_,.t6⟩ isAgg50 Z7 Z ?_
  rfl
theorem uM (f:ab) (i:vb) (hp:f.params.length≤f.vars.length) (hl:i.args.length≤281474976710656) (hl2:i.arrays.length≤281474976710656):aZ prog E 12 [.agg (bQ f),.agg (rQ i)] (.int .i64 (fH f i)):=by
 refine zo func12 Z (by decide) Z<|ah<|yb (cs:=_) Z Z Z<|yb (cs:=_) Z Z Z<|aw Z<|z7<|zb<|ah<|aq Zw Z sizeOf35 Z Z<|aM isAgg35 Z<|ae Yh Z<|aq ji Z jm Z Z<|aM jw Z<|ae jd Z<|za (yn Z Z)<|z7<|zr Z (fun c1=>?_) (fun c1=>?_)
 ·have c1:¬i.args.length=f.params.length:=by simp at c1;omega
  refine ah<|aw Z<|z7<|zf<|zh (x:=.int _ _) Z ?_
  unfold fH;rw[if_pos c1]
 ·have c1:i.args.length=f.params.length:=by simp at c1;omega
  refine ze<|zb<|ah<|aq Zw Z sizeOf35 Z Z<|aM isAgg35 Z<|ae Yh Z<|aa Z<|z7<|zg<|y7 (γ:=Nat) [2,3,17,18] (fun k=>[(19,.int .i64 k)]) (fun k=>[]) (fun k=>k≤i.args.length∧∀(j:Nat) a,j<k→i.args[j]?=some a→gX f i (a,j)=false) (fun k=>i.args.length - k) 0 aW aN (⟨qt _,fun j a h=>absurd h (Nat.not_lt_zero _)⟩) ?_
  rintro k ⟨hk,hok⟩
  refine ah<|ay Z Z<|z7<|zb<|zm Z (fun ck=>?_) (fun ck=>?_)
  ·have hk2:k<i.args.length:=by simp at ck;omega
   obtain ⟨a,hea⟩:∃a,i.args[k]=a:=⟨_,rfl⟩
   have hag:i.args[k]?=some a:=by rw[qq hk2,hea]
   obtain ⟨v,hev⟩:∃v,f.vars[k]?=some v:=⟨_,qq (by omega)⟩
   have hty:nT f k=v.ty:=by unfold nT;rw[hev];rfl
   refine ze<|zb<|zg<|ah<|aa Z<|za (cH k Yh sizeOf80 Z Z Z hag)<|ac isAgg80 sizeOf80 Z Z<|zy (cs:=[.int .i64 0,.bool false,.int .i64 0]) zeroValue80 Z Z<|fun i6=>aw Z<|zt sizeOf80 Z Z Z Z Z Z .head Z<|zx (yo (t:=6) Z .head)<|z7<|zb<|yq (γ:=Bool) [2,3,17,18,19] (fun z=>[(43,.bool z)]) (fun z=>[]) (fun z=>z=gX f i (a,k)) ?_ (fun _ _ h=>h) ?_
   ·refine bi<|aq ji Z Y6 Z Z<|aM Yg Z<|aa Z<|za (cH k Zb Y7 Z Z Z hev)<|aq Zm Z sizeOf64 Z Z<|aE isAgg64 Z<|ax Z Z<|ai Z<|zk (s:=31) Z (fun c2=>?_) (fun c2=>?_)
    ·have d2:nT f k=2:=hty.trans (by simpa using c2)
     refine z8 Z Z c2<|aq Yn Z je Z Z<|z8 Z Z c2<|aE jj Z<|z8 Z Z c2<|ay Z Z<|z8 Z Z c2<|ai Z<|zk (s:=35) Z (fun c3=>?_) (fun c3=>?_)
     ·have d3:a.arr < -1:=by simpa using c3
      refine z6 Z Z c3<|z6 Z Z c3<|z6 Z Z c3<|z6 Z Z c3<|z6 Z Z c3<|z6 Z Z c3<|z8 Z Z c2<|ap Z c3 Z<|ap Z c2 Z<|z7 ?_
      exact ⟨_,vv,aW,aN,by unfold gX;simp[d2,d3]⟩
     ·have d3:¬a.arr < -1:=by simpa using c3
      refine z8 Z Z c3<|aq Yn Z je Z Z<|z8 Z Z c3<|aE jj Z<|z8 Z Z c3<|aq Zw Z Zt Z Z<|z8 Z Z c3<|aM Ye Z<|z8 Z Z c3<|ae Z9 Z<|z8 Z Z c3<|za (ql Z Z)<|z8 Z Z c2<|al Z c3 Z<|ap Z c2 Z<|z7 ?_
      exact ⟨_,vv,aW,aN,by unfold gX;simp[d2,d3]⟩
    ·have d2:¬nT f k=2:=fun h=>by rw[hty] at h;simp[h] at c2
     refine z6 Z Z c2<|z6 Z Z c2<|z6 Z Z c2<|z6 Z Z c2<|zd Z Z<|zd Z Z<|zd Z Z<|zd Z Z<|zd Z Z<|zd Z Z<|z6 Z Z c2<|al Z c2 Z<|z7 ?_
     exact ⟨_,vv,aW,aN,by unfold gX;simp[d2]⟩
   ·rintro z hz
    refine zr Z (fun cz=>?_) (fun cz=>?_)
    ·have hb:i.args.zipIdx.any (gX f i)=true:=List.any_eq_true.2 ⟨(a,k),w0 (i:=k) (by rw[List.getElem?_zipIdx,hag];simp),hz.symm.trans cz⟩
     refine ah<|aw Z<|z7<|zf<|zh (x:=.int _ _) Z ?_
     unfold fH;rw[if_neg (fun h=>h c1),if_pos hb]
    ·refine ze<|bi<|aC Z Z<|aa Z<|z7 ?_
     exact ⟨k+1,gY,aW,aN,⟨hk2,fun j b hj hb=>by rcases (by omega:j<k∨j=k) with h|rfl;exact hok j b h hb;rw[hag] at hb;cases hb;exact hz.symm.trans cz⟩,by omega⟩
  ·obtain rfl:k=i.args.length:=by simp at ck;omega
   have hb:¬i.args.zipIdx.any (gX f i)=true:=fun h=>by
    obtain ⟨⟨a,j⟩,hm,hh⟩:=List.any_eq_true.1 h
    obtain ⟨hj,e⟩:=List.mk_mem_zipIdx_iff_getElem?.1 hm |> fun h=>(⟨(List.getElem?_eq_some_iff.1 h).1,h⟩:j<i.args.length∧_)
    rw[hok j a hj e] at hh;cases hh
   refine zz<|zb<|ah<|aq Zw Z Zt Z Z<|aM Ye Z<|ae Z9 Z<|za (yy Z Z)<|z7<|zm Z (fun c32=>?_) (fun c32=>?_)
   ·have c32:32<i.arrays.length:=by omega
    refine ah<|aw Z<|z7<|zf<|zh (x:=.int _ _) Z ?_
    unfold fH;rw[if_neg (fun h=>h c1),if_neg hb,if_pos c32]
   ·have c32:¬32<i.arrays.length:=by omega
    refine ze<|zb<|ah<|aq Zw Z Zt Z Z<|aM Ye Z<|ae Z9 Z<|aa Z<|z7<|zg<|y7 (γ:=Nat) [50,51] (fun k=>[(52,.int .i64 k)]) (fun k=>[]) (fun k=>k≤i.arrays.length∧∀r∈i.arrays.take k,decide (64<r.length)=false) (fun k=>i.arrays.length - k) 0 aW aN (⟨qt _,fun r h=>by simp at h⟩) ?_
    rintro k ⟨hk,hok⟩
    refine ah<|ay Z Z<|z7<|zb<|zm Z (fun ck=>?_) (fun ck=>?_)
    ·have hk2:k<i.arrays.length:=by simp at ck;omega
     obtain ⟨r,her⟩:∃r,i.arrays[k]=r:=⟨_,rfl⟩
     have hrg:i.arrays[k]?=some r:=by rw[qq hk2,her]
     refine ze<|zb<|zg<|ah<|za (cH k Z9 Za Z Z Z hrg)<|aM Zk Z<|za (va Z)<|z7<|ah<|bC Z<|ae jr Z<|za (yy Z Z)<|z7<|zm Z (fun cr=>?_) (fun cr=>?_)
     ·have cr:64<r.length:=by omega
      have hb4:i.arrays.any (fun r=>decide (64<r.length))=true:=List.any_eq_true.2 ⟨r,w0 hrg,w4 cr⟩
      refine ah<|aw Z<|z7<|zf<|zh (x:=.int _ _) Z ?_
      unfold fH;rw[if_neg (fun h=>h c1),if_neg hb,if_neg c32,if_pos hb4]
     ·have cr:¬64<r.length:=by omega
      refine ze<|bi<|aC Z Z<|aa Z<|z7 ?_
      exact ⟨k+1,eE,aW,aN,⟨hk2,fun q hq=>by rw[qr hk2] at hq;rcases List.mem_append.1 hq with hq|hq;exact hok q hq;rw[List.mem_singleton.1 hq,her];exact w5 cr⟩,by omega⟩
    ·obtain rfl:k=i.arrays.length:=by simp at ck;omega
     rw[qv] at hok
     have hb4:¬i.arrays.any (fun r=>decide (64<r.length))=true:=fun h=>by
      obtain ⟨r,hm,hh⟩:=List.any_eq_true.1 h
      rw[hok r hm] at hh;cases hh
     refine zz<|ah<|aw Z<|z7<|zf<|zh (x:=.int _ _) Z ?_
     unfold fH;rw[if_neg (fun h=>h c1),if_neg hb,if_neg c32,if_neg hb4]
theorem wn (a b:GS) (hl:a.trace.length≤281474976710656):aZ prog E 33 [.agg (kj a),.agg (kj b)] (.bool (mK a b)):=by
 refine zo func33 Z (by decide) Z<|ah<|yb (cs:=_) Z Z Z<|yb (cs:=_) Z Z Z<|ad Z<|z7<|zb<|zb<|yq (γ:=Bool) [2,3] (fun z=>[(33,.bool z)]) (fun z=>[]) (fun z=>z=!decide (a.en=b.en∧a.val=b.val∧a.tr=b.tr∧a.trace.length=b.trace.length)) ?_ (fun _ _ h=>h) ?_
 ·refine bi<|aq jy Z sizeOf46 Z Z<|aE isAgg46 Z<|aq jy Z sizeOf46 Z Z<|aE isAgg46 Z<|za (yn Z Z)<|ai Z<|zk (s:=11) Z (fun c1=>?_) (fun c1=>?_)
  ·have d1:¬a.en=b.en:=by simpa using c1
   refine z6 Z Z c1<|z6 Z Z c1<|z6 Z Z c1<|z6 Z Z c1<|z6 Z Z c1<|ap Z c1 Z<|ai Z<|z6 Z Z Z<|z6 Z Z Z<|z6 Z Z Z<|z6 Z Z Z<|z6 Z Z Z<|ap Z Z Z<|ai Z<|z6 Z Z Z<|z6 Z Z Z<|z6 Z Z Z<|z6 Z Z Z<|z6 Z Z Z<|z6 Z Z Z<|z6 Z Z Z<|ap Z Z Z<|z7 ?_
   exact ⟨_,eE,aW,aN,by simp[d1]⟩
  ·have d1:a.en=b.en:=by simpa using c1
   refine z8 Z Z c1<|aq jy Z Z8 Z Z<|z8 Z Z c1<|aE Y9 Z<|z8 Z Z c1<|aq jy Z Z8 Z Z<|z8 Z Z c1<|aE Y9 Z<|z8 Z Z c1<|za (yn Z Z)<|al Z c1 Z<|ai Z<|zk (s:=18) Z (fun c2=>?_) (fun c2=>?_)
   ·have d2:¬a.val=b.val:=by simpa using c2
    refine z6 Z Z c2<|z6 Z Z c2<|z6 Z Z c2<|z6 Z Z c2<|z6 Z Z c2<|ap Z c2 Z<|ai Z<|z6 Z Z Z<|z6 Z Z Z<|z6 Z Z Z<|z6 Z Z Z<|z6 Z Z Z<|z6 Z Z Z<|z6 Z Z Z<|ap Z Z Z<|z7 ?_
    exact ⟨_,eE,aW,aN,by simp[d2]⟩
   ·have d2:a.val=b.val:=by simpa using c2
    refine z8 Z Z c2<|aq jy Z sizeOf47 Z Z<|z8 Z Z c2<|aE isAgg47 Z<|z8 Z Z c2<|aq jy Z sizeOf47 Z Z<|z8 Z Z c2<|aE isAgg47 Z<|z8 Z Z c2<|za (yn Z Z)<|al Z c2 Z<|ai Z<|zk (s:=25) Z (fun c3=>?_) (fun c3=>?_)
    ·have d3:¬a.tr=b.tr:=by simpa using c3
     refine z6 Z Z c3<|z6 Z Z c3<|z6 Z Z c3<|z6 Z Z c3<|z6 Z Z c3<|z6 Z Z c3<|z6 Z Z c3<|ap Z c3 Z<|z7 ?_
     exact ⟨_,eE,aW,aN,by simp[d3]⟩
    ·have d3:a.tr=b.tr:=by simpa using c3
     refine z8 Z Z c3<|aq jy Z Za Z Z<|z8 Z Z c3<|aM Zk Z<|z8 Z Z c3<|ae jr Z<|z8 Z Z c3<|aq jy Z Za Z Z<|z8 Z Z c3<|aM Zk Z<|z8 Z Z c3<|ae jr Z<|z8 Z Z c3<|za (yn Z Z)<|al Z c3 Z<|z7 ?_
     exact ⟨_,eE,aW,aN,by simp[d1,d2,d3];omega⟩
 ·rintro z hz
  refine zr Z (fun cz=>?_) (fun cz=>?_)
  ·have cz:¬(a.en=b.en∧a.val=b.val∧a.tr=b.tr∧a.trace.length=b.trace.length):=by intro h;rw[hz,w4 h] at cz;cases cz
   refine ah<|ad Z<|z7<|zf<|zh (x:=.bool _) Z ?_
   unfold mK;rw[w5];rintro ⟨h1,h2,h3,h4⟩;exact cz ⟨h1,h2,h3,by rw[h4]⟩
  ·have cz:a.en=b.en∧a.val=b.val∧a.tr=b.tr∧a.trace.length=b.trace.length:=Classical.byContradiction fun h=>by rw[hz,w5 h] at cz;cases cz
   refine ze<|zb<|ah<|aq jy Z Za Z Z<|aM Zk Z<|ae jr Z<|aa Z<|z7<|zg<|y7 (γ:=Nat) [2,3,36] (fun k=>[(37,.int .i64 k)]) (fun k=>[]) (fun k=>k≤a.trace.length∧a.trace.take k=b.trace.take k) (fun k=>a.trace.length - k) 0 aW aN (⟨qt _,by simp⟩) ?_
   rintro k ⟨hk,hok⟩
   refine ah<|ay Z Z<|z7<|zb<|zm Z (fun ck=>?_) (fun ck=>?_)
   ·have hk2:k<a.trace.length:=by simp at ck;omega
    have hk3:k<b.trace.length:=by omega
    refine ze<|zb<|zg<|ah<|aa Z<|aw Z<|z7<|zb<|zq (fun j=>false) (by kernel_rfl) Z (zu (.rest _))<|ak 0 Z (eK jy Z Za Z Z)<|ak 1 Z (lL Zk Z)<|ak 2 Z (d9 Z)<|ak 3 Z (cH k jr Z8 Z Z Z (qq hk2))<|ak 4 Z (gH Y9 Z)<|ak 5 Z (eK jy Z Za Z Z)<|ak 6 Z (lL Zk Z)<|ak 7 Z (d9 Z)<|ak 8 Z (cH k jr Z8 Z Z Z (qq hk3))<|ak 9 Z (gH Y9 Z)<|ak 10 Z (yn Z Z)<|eG<|zr Z (fun cn=>?_) (fun cn=>?_)
    ·have cn:¬a.trace[k]=b.trace[k]:=by simpa using cn
     refine ah<|ad Z<|z7<|zf<|zh (x:=.bool _) Z ?_
     unfold mK;rw[w5];rintro ⟨h1,h2,h3,h4⟩;exact cn (by simp only[h4])
    ·have cn:a.trace[k]=b.trace[k]:=by simpa using cn
     refine ze<|bi<|aC Z Z<|aa Z<|z7 ?_
     exact ⟨k+1,hZ,aW,aN,⟨hk2,by rw[qr hk2,qr hk3,hok,cn]⟩,by omega⟩
   ·obtain rfl:k=a.trace.length:=by simp at ck;omega
    have ht:a.trace=b.trace:=by rw[qv] at hok;rw[hok,cz.2.2.2,qv]
    refine zz<|ah<|ad Z<|z7<|zf<|zh (x:=.bool _) Z ?_
    unfold mK;rw[w4];exact ⟨cz.1,cz.2.1,cz.2.2.1,ht⟩
end
section
open Go.Proofs.Tryz
open Go.Proofs Go.Lib Go.Shelf Go.RowKit
variable {E:World}
set_option maxRecDepth 20000
def gO (i:vb):Bool:=decide (i.args.length≤20)&&(decide (i.arrays.length≤40)&&i.arrays.all fun r=>decide (r.length≤100))
theorem sM (i:vb) (hl:i.args.length≤9223372036854775807) (hl2:i.arrays.length≤9223372036854775807):aZ prog E 11 [.agg (rQ i)] (.bool (gO i)):=by
 refine zo func11 Z (by decide) Z<|ah<|yb (cs:=_) Z Z Z<|ad Z<|z7<|zb<|ah<|aq Zw Z sizeOf35 Z Z<|aM isAgg35 Z<|ae Yh Z<|za (yy Z Z)<|ai Z<|zk (s:=9) Z (fun c1=>?_) (fun c1=>?_)
 ·refine z6 Z Z c1<|z6 Z Z c1<|z6 Z Z c1<|z6 Z Z c1<|ap Z c1 Z<|z7<|yt Z Z<|ah<|ad Z<|z7<|zf<|zh (x:=.bool _) Z ?_
  unfold gO;rw[w5 (fun h=>by simp at c1;omega)];rfl
 ·have h1:i.args.length≤20:=by simp at c1;omega
  refine z8 Z Z c1<|aq Zw Z Zt Z Z<|z8 Z Z c1<|aM Ye Z<|z8 Z Z c1<|ae Z9 Z<|z8 Z Z c1<|za (yy Z Z)<|al Z c1 Z<|z7<|zr Z (fun c2=>?_) (fun c2=>?_)
  ·refine ah<|ad Z<|z7<|zf<|zh (x:=.bool _) Z ?_
   unfold gO;rw[w4 h1,w5 (fun h=>by simp at c2;omega)];rfl
  ·have h2:i.arrays.length≤40:=by simp at c2;omega
   refine ze<|zb<|ah<|aq Zw Z Zt Z Z<|aM Ye Z<|ae Z9 Z<|aa Z<|z7<|zg<|y7 (γ:=Nat) [16,17] (fun k=>[(18,.int .i64 k)]) (fun k=>[]) (fun k=>k≤i.arrays.length∧∀r∈i.arrays.take k,r.length≤100) (fun k=>i.arrays.length - k) 0 aW aN (⟨qt _,fun _ h=>by cases h⟩) ?_
   rintro k ⟨hk,hall⟩
   refine ah<|ay Z Z<|z7<|zb<|zm Z (fun ck=>?_) (fun ck=>?_)
   ·have hk2:k<i.arrays.length:=by omega
    refine ze<|zb<|zg<|ah<|za (cH k Z9 Za Z Z Z (qq hk2))<|aM Zk Z<|za (va Z)<|z7<|ah<|bC Z<|ae jr Z<|za (yy Z Z)<|z7<|zm Z (fun cr=>?_) (fun cr=>?_)
    ·refine ah<|ad Z<|z7<|zf<|zh (x:=.bool _) Z ?_
     unfold gO;rw[w4 h1,w4 h2,Bool.true_and,Bool.true_and];exact jb (List.all_eq_false.2 ⟨i.arrays[k],qu hk2,by simp;omega⟩).symm
    ·have hall2:∀r∈i.arrays.take (k+1),r.length≤100:=fun r hr=>by
      rw[qr hk2] at hr
      rcases List.mem_append.1 hr with h|h
      ·exact hall r h
      ·rw[List.mem_singleton.1 h];omega
     refine ze<|bi<|aC Z Z<|aa Z<|z7 ?_
     exact ⟨k+1,eE,aW,aN,⟨hk2,hall2⟩,by omega⟩
   ·obtain rfl:k=i.arrays.length:=by omega
    rw[qv] at hall
    refine zz<|ah<|ad Z<|z7<|zf<|zh (x:=.bool _) Z ?_
    unfold gO;rw[w4 h1,w4 h2,Bool.true_and,Bool.true_and];exact jb (List.all_eq_true.2 fun r hr=>w4 (hall r hr)).symm
end
section
open Go.Proofs.Tryz
open Go.Proofs Go.Lib
theorem lz {f:ab} (h:bA f) (h64:∀b∈f.blocks,∀x∈b.insts,cG x.num):pd f:=by
 have h1:=h.1
 unfold kR at h1
 simp only[Bool.or_eq_false_iff,decide_eq_false_iff_not] at h1
 obtain ⟨_,_,_,_,_,h6⟩:=h
 exact ⟨by omega,fun b hb=>(h6 b hb).1,fun b hb x hx=>⟨lQ ((h6 b hb).2.1 x hx),h64 b hb x hx⟩,fun b hb=>(h6 b hb).2.2⟩
theorem gP {f:ab} (h:bA f):f.params.length≤f.vars.length:=by
 have h1:=h.1
 unfold kR at h1
 simp only[Bool.or_eq_false_iff,decide_eq_false_iff_not] at h1
 omega
theorem lA {f:ab} (h:bA f) (j:Nat):0≤nT f j∧nT f j≤2:=by
 obtain ⟨_,_,h3,_⟩:=h
 unfold nT
 by_cases hj:j<f.vars.length
 ·rw[qq hj];exact ⟨(h3 j hj).2.1,(h3 j hj).2.2.1⟩
 ·rw[List.getElem?_eq_none (by omega)];exact ⟨by decide,by decide⟩
end
end Go.Proofs.YtjpnhkmfhlnpcaaGreatDoor
