/- Ranges of numbers: what the program's functions answer. Of int64s. -/
import Derived.Test.YtdilpodccjlkgaaGreatDoorZc
import Derived.Test.YtdilpodccjlkgaaGreatDoorZb
import Derived.Test.YtdilpodccjlkgaaGreatDoorChecked
set_option linter.unusedVariables false
set_option linter.unusedSimpArgs false
set_option linter.unusedSectionVars false
namespace Go.Proofs.YtdilpodccjlkgaaGreatDoor
open Go.Proofs.Tryz
open Go.Proofs Go.Lib Go.Shelf Go.RowKit
variable {E:World}
set_option maxRecDepth 20000
structure pd (n:Nat) (l:List fI):Prop where
 le:n≤2000
 fac:∀q∈l,Cb n q∧(-bL≤q.c∧q.c≤bL)
 len:l.length≤10000
theorem r9 {α:Type} {k:Nat}:∀{rows:List (List α)} {j i:Nat} {r:List α} {v:α},(∀x∈rows,x.length=k)→rows[j]?=some r→i<k→rows.flatten.set (j*k+i) v=(rows.set j (r.set i v)).flatten
 |x::rows,0,i,r,v,hk,h,hi=>by
  cases h
  rw[List.flatten_cons,Nat.zero_mul,Nat.zero_add,List.set_append_left _ _ (by rw[hk x (.head _)];exact hi)];rfl
 |x::rows,j+1,i,r,v,hk,h,hi=>by
  have h1:=hk x (.head _)
  rw[List.flatten_cons,List.set_append_right _ _ (by rw[h1,Nat.succ_mul];omega),h1,show (j+1)*k+i - k=j*k+i by rw[Nat.succ_mul];omega,r9 (fun y hy=>hk y (.tail _ hy)) h hi];rfl
theorem Cu {n:Nat} {b:Int}:((mh n b).map fW).flatten=((List.replicate n [AV.bool false,.int .i64 0]).set b.toNat [.bool true,.int .i64 0]).flatten:=by
 unfold mh
 rw[List.map_set,List.map_replicate];rfl
theorem Ev {n:Nat} {b:Int} (hb:oD n b):(List.replicate n [AV.bool false,.int .i64 0]).flatten.set (b.toNat*2+0) (.bool true)=((mh n b).map fW).flatten:=by
 unfold oD at hb
 rw[Cu,r9 (r:=[AV.bool false,.int .i64 0]) (fun x hx=>by rw[(List.mem_replicate.1 hx).2];rfl) (by rw[List.getElem?_replicate,if_pos (by omega)]) (by decide)];rfl
theorem Cv (n:Nat) (x y:AV):(List.replicate n [x,y]).flatten.length=n*2:=by
 induction n with
 |zero=>rfl
 |succ n ih=>rw[List.replicate_succ,List.flatten_cons,qz,ih,Nat.succ_mul];show 2+_=_;omega
theorem Gj {n i:Nat} (h:i<n):i*2+0<(List.replicate n (List.map lit [Value.bool false,Value.int IntKind.i64 0])).flatten.length:=by
 have h2:(List.replicate n (List.map lit [Value.bool false,Value.int IntKind.i64 0])).flatten.length=n*2:=Cv n (AV.bool false) (.int .i64 0)
 omega
theorem kJ (n:Nat) (l:List fI) (y:AV) (hl:pd n l) {a b:Int} (ha:oD n a) (hb:oD n b):aM prog E 156 [yO n l y,.int .i64 a,.int .i64 b] (.tup [.int .i64 ((ft l n a b).getD 0),.bool (ft l n a b).isSome]):=by
 have hn:=hl.le
 have ha2:=ha
 have hb2:=hb
 unfold oD at ha2 hb2
 have hsa:=lg (E:=E) n (.fro 3 (l.map b8)) y a
 rw[w8 (show 0≤a∧a<n from ha2)] at hsa
 have hsb:=lg (E:=E) n (.fro 3 (l.map b8)) y b
 rw[w8 (show 0≤b∧b<n from hb2)] at hsb
 have hfur:=fun r k h1 h2 h3=>AH (E:=E) n l y r k h1 h2 hn hl.fac hl.len h3
 unfold yO at hfur ⊢
 refine zp func156 Z (by decide) Z<|ai<|ao Z<|ab Z<|z6<|zd<|ai<|za (fc Z)<|aa Z<|zh (hsa) Z<|aC Z<|aj Z<|z8 Z Z Z<|za (fc Z)<|z8 Z Z Z<|aa Z<|z8 Z Z Z<|zh (hsb) Z<|z8 Z Z Z<|aC Z<|ax Z Z Z<|z6<|yg Z Z<|zi<|ai<|za (fc Z)<|za (yk Z)<|au Zn Z wz Z Z<|aA j6 Z<|az.makeZ (m:=n) [.bool false,.int .i64 0] Yj type261 Z Z Z (by decide) (by decide) Z Z (by simp) (by simp) (by show (16:Int)*_≤_;omega) (by omega)<|fun i25=>za (eD Z)<|z6<|ai<|za (im Z)<|aa Z<|za (Gv.idxO (j:=b.toNat) Yj X9 Z Z (by omega) ⟨_,.head⟩ (fun h=>by have:=congrArg List.length h;simp at this;omega) (by omega))<|za (zf Yw Z Z6 (by decide) Z Z)<|az.storeGN (new:=((mh n b).map fW).flatten) Z6 Z Z Z Z Z .head (Gj (by omega)) (Ev hb)<|z6<|zz (aS.know (t:=8) (rows:=(mh n b).map fW) Z .head (by exact iP _) (by decide) (by rw[w1,oS])) ?_
 refine zd<|ai<|ao Z<|ab Z<|z6<|zm<|y8 (γ:=Nat × Bool × List (Option Int)) [0,1] (fun g=>[(9,.int .i64 g.1),(10,.bool g.2.1),(8,.fro 2 (g.2.2.map fW))]) (fun g=>[]) (fun g=>g.1≤6∧g.2.2=Al l g.1 (mh n b)∧(g.2.1=false→oQ l g.2.2=g.2.2)) (fun g=>6 - g.1) (0,true,mh n b) db aH (⟨qw _,Z,fun h=>by cases h⟩) ?_
 rintro ⟨k,again,r⟩ ⟨hk,hr,hag⟩
 try dsimp only at *
 refine zd<|zd<|ye (γ:=Bool) [0,1,8,9] (fun u=>[(34,.bool u)]) (fun u=>[]) (fun u=>u=(decide (k<6)&&again)) ?_ (fun _ _ h=>h) ?_
 ·refine aW<|aa Z<|ay Z Z<|aj Z<|zq (s:=32) Z (fun c1=>?_) (fun c1=>?_)
  ·refine z8 Z Z c1<|aj Z<|aw Z c1 Z<|z6 ?_
   exact ⟨_,gH,aK,aH,by simp_all<;>omega⟩
  ·refine z7 Z Z c1<|ax Z c1 Z<|z6 ?_
   exact ⟨_,gH,aK,aH,by simp_all<;>omega⟩
 ·rintro u hu
  refine zy Z (fun cu=>?_) (fun cu=>?_)
  ·have hu2:k<6∧again=true:=by rw[hu] at cu;simpa using cu
   have hrl:r.length=n:=by rw[hr,wD,oS]
   have hsr:ob k r:=by
    have:=ob.it (fun q hq=>(hl.fac q hq).2) k 0 _ (ob.beg n b)
    rw[Nat.zero_add] at this
    rw[hr];exact this
   refine zi<|zd<|zm<|aW<|za (fc Z)<|be Z<|zh (hfur r k (by omega) hrl hsr) Z<|za (ke Z)<|za (q9 (v:=.fro _ _) Z Z)<|za (jJ Z Z)<|za (nI Z)<|ab Z<|z6<|aW<|aa Z<|aE Z Z<|ao Z<|z6 ?_
   exact ⟨(k+1,(Ao l r).2,oQ l r),eo,db,aH,⟨by omega,by rw[wF,←hr];rfl,fun h=>by rw[(sT l r).2 h,(sT l r).2 h]⟩,by dsimp only;omega⟩
  ·have hfin:r=Al l 6 (mh n b):=by
    rw[hu] at cu
    by_cases h6:k<6
    ·have:again=false:=by simpa [h6] using cu
     have h2:=yE (hag this) (6 - k)
     have h3:=wF l k (6 - k) (mh n b)
     rw[show k+(6 - k)=6 by omega,←hr,h2] at h3
     exact h3.symm
    ·rw[hr,show k=6 by omega]
   have hrl:r.length=n:=by rw[hr,wD,oS]
   have hlea:ft l n a b=jn r a:=by unfold ft;rw[hfin]
   rw[hlea]
   have hra:=wM hrl ha
   refine y6<|zd<|ai<|be Z<|aa Z<|za (bv a.toNat Yj X9 Z Z (by omega) hra)<|au Yw Z Z6 Z Z<|za (yx (c:=.bool _) Ym Z)<|aC Z<|z6<|zy Z (fun cr=>?_) (fun cr=>?_)
   ·refine ai<|ao Z<|ab Z<|z6<|zg<|qd (x:=.int _ _) (y:=.bool _) Z Z ?_
    exact (by cases h:jn r a with|none=>rfl|some m=>rw[h] at cr;cases cr)
   ·refine zi<|ai<|be Z<|aa Z<|za (bv a.toNat Yj X9 Z Z (by omega) hra)<|au Yw Z Z5 Z Z<|aA Zx Z<|ao Z<|ab Z<|z6<|zg<|qd (x:=.int _ _) (y:=.bool _) Z Z ?_
    exact (by cases h:jn r a with|none=>rw[h] at cr;cases cr|some m=>rfl)
theorem rB (n:Nat) (l:List fI) (y:AV) (hl:pd n l) {a b:Int} (ha:oD n a) (hb:oD n b) (c:Int):aM prog E 113 [yO n l y,.int .i64 a,.int .i64 b,.int .i64 c] (.bool (oR l n a b c)):=by
 have hle:=kJ (E:=E) n l y hl ha hb
 unfold yO at hle ⊢
 refine zp func113 Z (by decide) Z<|ai<|ab Z<|z6<|ai<|za (fc Z)<|aa Z<|aa Z<|zh (hle) Z<|za (ke Z)<|za (iN Z Z)<|za (jJ Z Z)<|ao Z<|ab Z<|z6<|ai<|aj Z<|aj Z<|zq (s:=19) Z (fun c2=>?_) (fun c2=>?_)
 ·refine z8 Z Z c2<|aa Z<|z8 Z Z c2<|aa Z<|z8 Z Z c2<|za (Gv.leq Z Z)<|aw Z c2 Z<|ab Z<|z6<|zg<|zn (x:=.bool _) Z ?_
  exact congrArg AV.bool (by unfold oR;cases h:ft l n a b with|none=>simp_all|some m=>simp_all)
 ·refine z7 Z Z c2<|z7 Z Z c2<|z7 Z Z c2<|ax Z c2 Z<|ab Z<|z6<|zg<|zn (x:=.bool _) Z ?_
  exact congrArg AV.bool (by unfold oR;cases h:ft l n a b with|none=>simp_all|some m=>simp_all)
end Go.Proofs.YtdilpodccjlkgaaGreatDoor
namespace Go.Proofs.YtdilpodccjlkgaaGreatDoor
open Go.Proofs.Tryz
open Go.Proofs Go.Lib Go.Shelf Go.RowKit
theorem uC:dB prog 226 #[(0,1),(1,1)] [.int .i64 0,.int .i64 0]:=⟨_,_,Y2,X0,fun w=>by kernel_rfl,rfl⟩
variable {E:World}
set_option maxRecDepth 20000
def wQ (f0 f1 f2 t m pr:AV) (n:Nat) (l:List fI) (q:Int) (ps:AV):AV:=.pf [f0,f1,f2,t,m,pr,yO n l .any,.int .i64 q,ps,.any,.any]
theorem oG {n:Nat} {l:List fI} (hl:pd n l) {a b:Int}:-6917529027641081856≤(ft l n a b).getD 0∧(ft l n a b).getD 0≤6917529027641081856:=by
 cases h:ft l n a b with
 |none=>exact ⟨by decide,by decide⟩
 |some m=>exact Am (fun q hq=>(hl.fac q hq).2) h
theorem Ew {x:Int} (h:-6917529027641081856≤x∧x≤6917529027641081856):IntKind.i64.wrap (0 - x)=-x:=by
 rw[eE];omega
section
variable {f0 f1 f2 t m pr ps:AV} {n:Nat} {l:List fI} {q v:Int} (hl:pd n l) (hv:oD n v) (hq:oD n q)
include hl hv hq
theorem uD:aM prog E 117 [wQ f0 f1 f2 t m pr n l q ps,.int .i64 v] (.tup [.int .i64 ((ft l n v q).getD 0),.bool (ft l n v q).isSome]):=by
 have hle:=kJ (E:=E) n l .any hl hv hq
 unfold wQ
 unfold yO at hle ⊢
 refine zp func117 Z (by decide) Z<|ai<|ao Z<|ab Z<|z6<|zd<|zr (fun j=>false) (by kernel_rfl) Z (zj (.rest _))<|ad 0 Z (fc Z)<|ad 1 Z (yk Z)<|ad 2 Z (bK j9 Z Z7 Z Z)<|ad 3 Z (yx (c:=.pf _) Zf Z)<|ad 4 Z (cD Z)<|ad 5 Z (fc Z)<|ad 6 Z (yk Z)<|ad 7 Z (bK j9 Z wz Z Z)<|ad 8 Z (cQ j6 Z)<|aQ 9 Z<|zh (hle) Z<|z6<|ad 10 Z (iN Z Z)<|ad 11 Z (jJ Z Z)<|ad 12 Z (mY Z)<|ad 13 Z (ms Z)<|bI<|zg<|qd (x:=.int _ _) (y:=.bool _) Z Z ?_
 rfl
theorem lV:aM prog E 152 [wQ f0 f1 f2 t m pr n l q ps,.int .i64 v] (.tup [.int .i64 (-(ft l n q v).getD 0),.bool (ft l n q v).isSome]):=by
 have hle:=kJ (E:=E) n l .any hl hq hv
 have hr:=oG hl (a:=q) (b:=v)
 unfold wQ
 unfold yO at hle ⊢
 refine zp func152 Z (by decide) Z<|ai<|ao Z<|ab Z<|z6<|zd<|zr (fun j=>false) (by kernel_rfl) Z (zj (.rest _))<|ad 0 Z (fc Z)<|ad 1 Z (yk Z)<|ad 2 Z (bK j9 Z Z7 Z Z)<|ad 3 Z (yx (c:=.pf _) Zf Z)<|ad 4 Z (fc Z)<|ad 5 Z (yk Z)<|ad 6 Z (bK j9 Z wz Z Z)<|ad 7 Z (cQ j6 Z)<|ad 8 Z (cD Z)<|aQ 9 Z<|zh (hle) Z<|z6<|ad 10 Z (ke Z)<|ad 11 Z (iN Z Z)<|ad 12 Z (jJ Z Z)<|ad 13 Z (mY Z)<|ad 14 Z (ms Z)<|bI<|ai<|aa Z<|za (Gv.neg Z)<|aj Z<|ao Z<|ab Z<|z6<|zg<|qd (x:=.int _ _) (y:=.bool _) Z Z ?_
 rw[Ew hr]
theorem AJ:aM prog E 116 [wQ f0 f1 f2 t m pr n l q ps,.int .i64 v] (.bool (oR l n q v 0)):=by
 have hdn:=lV (E:=E) (f0:=f0) (f1:=f1) (f2:=f2) (t:=t) (m:=m) (pr:=pr) (ps:=ps) hl hv hq
 unfold wQ at hdn ⊢
 refine zp func116 Z (by decide) Z<|ai<|ab Z<|z6<|ai<|za (fc Z)<|aa Z<|zh (hdn) Z<|za (ke Z)<|za (iN Z Z)<|za (jJ Z Z)<|ao Z<|ab Z<|z6<|ai<|aj Z<|aj Z<|zq (s:=14) Z (fun c1=>?_) (fun c1=>?_)
 ·refine z8 Z Z c1<|aa Z<|z8 Z Z c1<|za (q5 Z Z)<|aw Z c1 Z<|ab Z<|z6<|zg<|zn (x:=.bool _) Z ?_
  exact congrArg AV.bool (by unfold oR;cases h:ft l n q v with|none=>simp_all|some k=>simp_all<;>omega)
 ·refine z7 Z Z c1<|z7 Z Z c1<|ax Z c1 Z<|ab Z<|z6<|zg<|zn (x:=.bool _) Z ?_
  exact congrArg AV.bool (by unfold oR;cases h:ft l n q v with|none=>simp_all|some k=>simp_all<;>omega)
theorem pe:aM prog E 157 [wQ f0 f1 f2 t m pr n l q ps,.int .i64 v] (.tup [.agg [.int .i64 (-(ft l n q v).getD 0),.int .i64 ((ft l n v q).getD 0)],.bool ((ft l n q v).isSome&&(ft l n v q).isSome)]):=by
 have hdn:=lV (E:=E) (f0:=f0) (f1:=f1) (f2:=f2) (t:=t) (m:=m) (pr:=pr) (ps:=ps) hl hv hq
 have hup:=uD (E:=E) (f0:=f0) (f1:=f1) (f2:=f2) (t:=t) (m:=m) (pr:=pr) (ps:=ps) hl hv hq
 unfold wQ at hdn hup ⊢
 refine zp func157 Z (by decide) Z<|ai<|y7 (cs:=[.int .i64 0,.int .i64 0]) X0 Z Z<|fun i4=>ab Z<|z6<|ai<|za (fc Z)<|aa Z<|zh (hdn) Z<|za (ke Z)<|za (iN Z Z)<|za (jJ Z Z)<|ao Z<|ab Z<|z6<|ai<|za (fc Z)<|aa Z<|zh (hup) Z<|za (ke Z)<|za (iN Z Z)<|za (jJ Z Z)<|ao Z<|ab Z<|z6<|ai<|aa Z<|aa Z<|za (y3 (cps:=[(0,[_]),(1,[_])]) (rs:=[_,_]) uC Z Z Z)<|aj Z<|aj Z<|zq (s:=26) Z (fun c2=>?_) (fun c2=>?_)
 ·refine z8 Z Z c2<|aj Z<|aw Z c2 Z<|y1 Za Z Z Z Z Z Z .head Z<|ab Z<|z6<|zg<|dX.c1t (y:=.bool _) Z Z ⟨_,.head⟩ Y5 Za Z ?_
  exact congrArg (fun b=>AV.tup [.agg [.int .i64 (-(ft l n q v).getD 0),.int .i64 ((ft l n v q).getD 0)],.bool b]) (by simp_all)
 ·refine z7 Z Z c2<|ax Z c2 Z<|y1 Za Z Z Z Z Z Z .head Z<|ab Z<|z6<|zg<|dX.c1t (y:=.bool _) Z Z ⟨_,.head⟩ Y5 Za Z ?_
  exact congrArg (fun b=>AV.tup [.agg [.int .i64 (-(ft l n q v).getD 0),.int .i64 ((ft l n v q).getD 0)],.bool b]) (by simp_all)
end
end Go.Proofs.YtdilpodccjlkgaaGreatDoor
namespace Go.Proofs.YtdilpodccjlkgaaGreatDoor
open Go.Proofs.Tryz
open Go.Proofs
theorem dU:dB prog 250 #[(0,1),(1,1),(2,1)] [.str ⟨#[]⟩,.str ⟨#[]⟩,.str ⟨#[]⟩]:=⟨_,_,underlying250,zeroValue250,fun w=>by kernel_rfl,rfl⟩
theorem Hu:mq prog 275 3 [.str ⟨#[]⟩,.str ⟨#[]⟩,.str ⟨#[]⟩,.str ⟨#[]⟩,.str ⟨#[]⟩,.str ⟨#[]⟩,.str ⟨#[]⟩,.str ⟨#[]⟩,.str ⟨#[]⟩,.str ⟨#[]⟩,.str ⟨#[]⟩,.str ⟨#[]⟩,.str ⟨#[]⟩,.str ⟨#[]⟩,.str ⟨#[]⟩,.str ⟨#[]⟩,.str ⟨#[]⟩,.str ⟨#[]⟩,.str ⟨#[]⟩,.str ⟨#[]⟩,.str ⟨#[]⟩,.str ⟨#[]⟩,.str ⟨#[]⟩,.str ⟨#[]⟩,.str ⟨#[]⟩,.str ⟨#[]⟩,.str ⟨#[]⟩,.str ⟨#[]⟩,.str ⟨#[]⟩,.str ⟨#[]⟩,.str ⟨#[]⟩,.str ⟨#[]⟩,.str ⟨#[]⟩,.str ⟨#[]⟩,.str ⟨#[]⟩,.str ⟨#[]⟩,.str ⟨#[]⟩,.str ⟨#[]⟩,.str ⟨#[]⟩,.str ⟨#[]⟩,.str ⟨#[]⟩,.str ⟨#[]⟩,.str ⟨#[]⟩,.str ⟨#[]⟩,.str ⟨#[]⟩,.str ⟨#[]⟩,.str ⟨#[]⟩,.str ⟨#[]⟩,.str ⟨#[]⟩,.str ⟨#[]⟩,.str ⟨#[]⟩,.str ⟨#[]⟩,.str ⟨#[]⟩,.str ⟨#[]⟩,.str ⟨#[]⟩,.str ⟨#[]⟩,.str ⟨#[]⟩,.str ⟨#[]⟩,.str ⟨#[]⟩,.str ⟨#[]⟩,.str ⟨#[]⟩,.str ⟨#[]⟩,.str ⟨#[]⟩,.str ⟨#[]⟩,.str ⟨#[]⟩,.str ⟨#[]⟩,.str ⟨#[]⟩,.str ⟨#[]⟩,.str ⟨#[]⟩,.str ⟨#[]⟩,.str ⟨#[]⟩,.str ⟨#[]⟩,.str ⟨#[]⟩,.str ⟨#[]⟩,.str ⟨#[]⟩,.str ⟨#[]⟩,.str ⟨#[]⟩,.str ⟨#[]⟩,.str ⟨#[]⟩,.str ⟨#[]⟩,.str ⟨#[]⟩]:=⟨_,_,_,underlying275,zeroValue275,sizeOf250,rfl⟩
variable {E:World}
set_option maxRecDepth 20000
def gI:List (ByteArray × ByteArray × ByteArray):=[(⟨#[99,111,110,115,116]⟩,⟨#[]⟩,⟨#[105]⟩),
 (⟨#[99,111,112,121]⟩,⟨#[105]⟩,⟨#[105]⟩),
 (⟨#[97,100,100]⟩,⟨#[105,105]⟩,⟨#[105]⟩),
 (⟨#[115,117,98]⟩,⟨#[105,105]⟩,⟨#[105]⟩),
 (⟨#[109,117,108]⟩,⟨#[105,105]⟩,⟨#[105]⟩),
 (⟨#[100,105,118]⟩,⟨#[105,105]⟩,⟨#[105]⟩),
 (⟨#[114,101,109]⟩,⟨#[105,105]⟩,⟨#[105]⟩),
 (⟨#[101,113]⟩,⟨#[105,105]⟩,⟨#[98]⟩),
 (⟨#[108,116]⟩,⟨#[105,105]⟩,⟨#[98]⟩),
 (⟨#[108,101]⟩,⟨#[105,105]⟩,⟨#[98]⟩),
 (⟨#[110,111,116]⟩,⟨#[98]⟩,⟨#[98]⟩),
 (⟨#[97,110,100]⟩,⟨#[98,98]⟩,⟨#[98]⟩),
 (⟨#[108,101,110]⟩,⟨#[97]⟩,⟨#[105]⟩),
 (⟨#[108,111,97,100]⟩,⟨#[97,105]⟩,⟨#[105]⟩),
 (⟨#[115,116,111,114,101]⟩,⟨#[97,105,105]⟩,⟨#[]⟩),
 (⟨#[110,101,119]⟩,⟨#[105]⟩,⟨#[97]⟩),
 (⟨#[110,105,108]⟩,⟨#[]⟩,⟨#[97]⟩),
 (⟨#[111,117,116]⟩,⟨#[105]⟩,⟨#[]⟩),
 (⟨#[99,104,107,105,100,120]⟩,⟨#[97,105]⟩,⟨#[]⟩),
 (⟨#[99,104,107,110,105,108]⟩,⟨#[97]⟩,⟨#[]⟩),
 (⟨#[99,104,107,100,105,118]⟩,⟨#[105]⟩,⟨#[]⟩),
 (⟨#[99,104,107,97,100,100]⟩,⟨#[105,105]⟩,⟨#[]⟩),
 (⟨#[99,104,107,115,117,98]⟩,⟨#[105,105]⟩,⟨#[]⟩),
 (⟨#[99,104,107,109,117,108]⟩,⟨#[105,105]⟩,⟨#[]⟩),
 (⟨#[99,104,107,108,101,110]⟩,⟨#[105]⟩,⟨#[]⟩),
 (⟨#[112,105]⟩,⟨#[105,105]⟩,⟨#[105]⟩),
 (⟨#[112,105,108,101,110]⟩,⟨#[105,97]⟩,⟨#[105]⟩)]
def bY (op:Int):ByteArray × ByteArray × ByteArray:=if 0≤op then gI[op.toNat]?.getD (⟨#[]⟩,⟨#[]⟩,⟨#[]⟩) else (⟨#[]⟩,⟨#[]⟩,⟨#[]⟩)
def rC (op:Int):Bool:=decide (0≤op)&&decide (op<27)
def rD (r:ByteArray × ByteArray × ByteArray):List AV:=[.str r.1,.str r.2.1,.str r.2.2]
theorem Ex (op:Int):aM prog E 200 [.int .i64 op] (.bool (rC op)):=by
 refine zp func200 Z (by decide) Z<|ai<|ab Z<|z6<|ai<|aa Z<|za (q5 Z Z)<|aj Z<|zq (s:=5) Z (fun c1=>?_) (fun c1=>?_)
 ·refine z8 Z Z c1<|aa Z<|z8 Z Z c1<|ay Z Z<|aw Z c1 Z<|ab Z<|z6<|zg<|zn (x:=.bool _) Z ?_
  simp_all[rC]<;>omega
 ·refine z7 Z Z c1<|z7 Z Z c1<|ax Z c1 Z<|ab Z<|z6<|zg<|zn (x:=.bool _) Z ?_
  simp_all[rC]<;>omega
set_option maxHeartbeats 4000000 in
theorem wS:aM prog E 201 [] (.agg (gI.flatMap rD)):=by
 refine zp func201 Z (by decide) Z<|ai<|y7 (cs:=[.str ⟨#[]⟩,.str ⟨#[]⟩,.str ⟨#[]⟩,.str ⟨#[]⟩,.str ⟨#[]⟩,.str ⟨#[]⟩,.str ⟨#[]⟩,.str ⟨#[]⟩,.str ⟨#[]⟩,.str ⟨#[]⟩,.str ⟨#[]⟩,.str ⟨#[]⟩,.str ⟨#[]⟩,.str ⟨#[]⟩,.str ⟨#[]⟩,.str ⟨#[]⟩,.str ⟨#[]⟩,.str ⟨#[]⟩,.str ⟨#[]⟩,.str ⟨#[]⟩,.str ⟨#[]⟩,.str ⟨#[]⟩,.str ⟨#[]⟩,.str ⟨#[]⟩,.str ⟨#[]⟩,.str ⟨#[]⟩,.str ⟨#[]⟩,.str ⟨#[]⟩,.str ⟨#[]⟩,.str ⟨#[]⟩,.str ⟨#[]⟩,.str ⟨#[]⟩,.str ⟨#[]⟩,.str ⟨#[]⟩,.str ⟨#[]⟩,.str ⟨#[]⟩,.str ⟨#[]⟩,.str ⟨#[]⟩,.str ⟨#[]⟩,.str ⟨#[]⟩,.str ⟨#[]⟩,.str ⟨#[]⟩,.str ⟨#[]⟩,.str ⟨#[]⟩,.str ⟨#[]⟩,.str ⟨#[]⟩,.str ⟨#[]⟩,.str ⟨#[]⟩,.str ⟨#[]⟩,.str ⟨#[]⟩,.str ⟨#[]⟩,.str ⟨#[]⟩,.str ⟨#[]⟩,.str ⟨#[]⟩,.str ⟨#[]⟩,.str ⟨#[]⟩,.str ⟨#[]⟩,.str ⟨#[]⟩,.str ⟨#[]⟩,.str ⟨#[]⟩,.str ⟨#[]⟩,.str ⟨#[]⟩,.str ⟨#[]⟩,.str ⟨#[]⟩,.str ⟨#[]⟩,.str ⟨#[]⟩,.str ⟨#[]⟩,.str ⟨#[]⟩,.str ⟨#[]⟩,.str ⟨#[]⟩,.str ⟨#[]⟩,.str ⟨#[]⟩,.str ⟨#[]⟩,.str ⟨#[]⟩,.str ⟨#[]⟩,.str ⟨#[]⟩,.str ⟨#[]⟩,.str ⟨#[]⟩,.str ⟨#[]⟩,.str ⟨#[]⟩,.str ⟨#[]⟩]) zeroValue275 Z Z<|fun i0=>z6<|ai<|za (y3 (cps:=[(0,[_]),(1,[_]),(2,[_])]) (rs:=[_,_,_]) dU Z Z Z)<|za (y3 (cps:=[(0,[_]),(1,[_]),(2,[_])]) (rs:=[_,_,_]) dU Z Z Z)<|za (y3 (cps:=[(0,[_]),(1,[_]),(2,[_])]) (rs:=[_,_,_]) dU Z Z Z)<|za (y3 (cps:=[(0,[_]),(1,[_]),(2,[_])]) (rs:=[_,_,_]) dU Z Z Z)<|za (y3 (cps:=[(0,[_]),(1,[_]),(2,[_])]) (rs:=[_,_,_]) dU Z Z Z)<|za (y3 (cps:=[(0,[_]),(1,[_]),(2,[_])]) (rs:=[_,_,_]) dU Z Z Z)<|za (y3 (cps:=[(0,[_]),(1,[_]),(2,[_])]) (rs:=[_,_,_]) dU Z Z Z)<|za (y3 (cps:=[(0,[_]),(1,[_]),(2,[_])]) (rs:=[_,_,_]) dU Z Z Z)<|za (y3 (cps:=[(0,[_]),(1,[_]),(2,[_])]) (rs:=[_,_,_]) dU Z Z Z)<|za (y3 (cps:=[(0,[_]),(1,[_]),(2,[_])]) (rs:=[_,_,_]) dU Z Z Z)<|za (y3 (cps:=[(0,[_]),(1,[_]),(2,[_])]) (rs:=[_,_,_]) dU Z Z Z)<|za (y3 (cps:=[(0,[_]),(1,[_]),(2,[_])]) (rs:=[_,_,_]) dU Z Z Z)<|za (y3 (cps:=[(0,[_]),(1,[_]),(2,[_])]) (rs:=[_,_,_]) dU Z Z Z)<|za (y3 (cps:=[(0,[_]),(1,[_]),(2,[_])]) (rs:=[_,_,_]) dU Z Z Z)<|za (y3 (cps:=[(0,[_]),(1,[_]),(2,[_])]) (rs:=[_,_,_]) dU Z Z Z)<|za (y3 (cps:=[(0,[_]),(1,[_]),(2,[_])]) (rs:=[_,_,_]) dU Z Z Z)<|za (y3 (cps:=[(0,[_]),(1,[_]),(2,[_])]) (rs:=[_,_,_]) dU Z Z Z)<|za (y3 (cps:=[(0,[_]),(1,[_]),(2,[_])]) (rs:=[_,_,_]) dU Z Z Z)<|za (y3 (cps:=[(0,[_]),(1,[_]),(2,[_])]) (rs:=[_,_,_]) dU Z Z Z)<|za (y3 (cps:=[(0,[_]),(1,[_]),(2,[_])]) (rs:=[_,_,_]) dU Z Z Z)<|za (y3 (cps:=[(0,[_]),(1,[_]),(2,[_])]) (rs:=[_,_,_]) dU Z Z Z)<|za (y3 (cps:=[(0,[_]),(1,[_]),(2,[_])]) (rs:=[_,_,_]) dU Z Z Z)<|za (y3 (cps:=[(0,[_]),(1,[_]),(2,[_])]) (rs:=[_,_,_]) dU Z Z Z)<|za (y3 (cps:=[(0,[_]),(1,[_]),(2,[_])]) (rs:=[_,_,_]) dU Z Z Z)<|za (y3 (cps:=[(0,[_]),(1,[_]),(2,[_])]) (rs:=[_,_,_]) dU Z Z Z)<|za (y3 (cps:=[(0,[_]),(1,[_]),(2,[_])]) (rs:=[_,_,_]) dU Z Z Z)<|za (y3 (cps:=[(0,[_]),(1,[_]),(2,[_])]) (rs:=[_,_,_]) dU Z Z Z)<|za (Gv.buildAF (xs:=[[_,_,_],[_,_,_],[_,_,_],[_,_,_],[_,_,_],[_,_,_],[_,_,_],[_,_,_],[_,_,_],[_,_,_],[_,_,_],[_,_,_],[_,_,_],[_,_,_],[_,_,_],[_,_,_],[_,_,_],[_,_,_],[_,_,_],[_,_,_],[_,_,_],[_,_,_],[_,_,_],[_,_,_],[_,_,_],[_,_,_],[_,_,_]]) Hu Z Z Z Z)<|y1 sizeOf275 Z Z Z Z Z Z .head Z<|z6<|zg<|dX.c1 Z ⟨_,.head⟩ isAgg275 sizeOf275 Z ?_
 rfl
theorem uE {op:Int} (h:rC op=false):bY op=(⟨#[]⟩,⟨#[]⟩,⟨#[]⟩):=by
 unfold rC at h
 unfold bY
 split
 ·rename_i h0
  have:¬op<27:=by simpa [h0] using h
  rw[List.getElem?_eq_none (by show 27≤_;omega)];rfl
 ·rfl
theorem Ey {op:Int} (h:rC op=true):∃j:Nat,op=(j:Int)∧j<27∧((gI.flatMap rD).drop (j*3)).take 3=rD (bY op):=by
 unfold rC at h
 simp at h
 obtain ⟨j,rfl⟩:∃j:Nat,op=j:=⟨op.toNat,by omega⟩
 have hj:j<27:=by omega
 refine ⟨j,Z,hj,yH (enc:=rD) (k:=3) (fun _=>Z) _ _ ?_⟩
 unfold bY
 rw[if_pos h.1,Int.toNat_natCast,qt (show j<gI.length from hj)];rfl
theorem s6 (op:Int):aM prog E 183 [.int .i64 op] (.agg (rD (bY op))):=by
 refine zp func183 Z (by decide) Z<|ai<|y7 (cs:=[.str ⟨#[]⟩,.str ⟨#[]⟩,.str ⟨#[]⟩]) zeroValue250 Z Z<|fun i2=>z6<|zd<|ai<|aa Z<|zh (Ex _) Z<|aC Z<|z6<|zy Z (fun c=>?_) (fun c=>?_)
 ·have c:rC op=false:=by simpa using c
  rw[uE c]
  refine ai<|za (y3 (cps:=[]) (rs:=[.str ⟨#[]⟩,.str ⟨#[]⟩,.str ⟨#[]⟩]) dU Z Z Z)<|y1 sizeOf250 Z Z Z Z Z Z .head Z<|z6<|zg<|dX.c1 Z ⟨_,.head⟩ isAgg250 sizeOf250 Z ?_
  rfl
 ·have c:rC op=true:=by simpa using c
  obtain ⟨j,hj1,hj2,hj3⟩:=Ey c
  refine zi<|ai<|zh (wS) Z<|aa Z<|za (Gv.indexA underlying275 isAgg250 sizeOf250 Z Z hj1 hj2 hj3)<|y1 sizeOf250 Z Z Z Z Z Z .head Z<|z6<|zg<|dX.c1 Z ⟨_,.head⟩ isAgg250 sizeOf250 Z ?_
  rfl
theorem AK (op:Int):aM prog E 181 [.int .i64 op] (.str (bY op).1):=by
 refine zp func181 Z (by decide) Z<|ai<|za (qi (v:=.str _) Z)<|z6<|ai<|aa Z<|zh (s6 _) Z<|za (Gv.field1 (v:=.str _) underlying250 Z Yh Z Z)<|za (qi (v:=.str _) Z)<|z6<|zg<|zn (x:=.str _) Z ?_
 rfl
def pg (op:Int):Bool:=decide (op=0)||decide (op=25)
theorem gk (op:Int):aM prog E 182 [.int .i64 op] (.bool (pg op)):=by
 refine zp func182 Z (by decide) Z<|ai<|ab Z<|z6<|ai<|aa Z<|ak Z Z<|aj Z<|zq (s:=5) Z (fun c2=>?_) (fun c2=>?_)
 ·refine z7 Z Z c2<|z7 Z Z c2<|aw Z c2 Z<|ab Z<|z6<|zg<|zn (x:=.bool _) Z ?_
  simp_all[pg]
 ·refine z8 Z Z c2<|aa Z<|z8 Z Z c2<|ak Z Z<|ax Z c2 Z<|ab Z<|z6<|zg<|zn (x:=.bool _) Z ?_
  simp_all[pg]
def ei (c:Int):Int:=if c=98 then 1 else if c=97 then 2 else 0
theorem ph (c:Int):aM prog E 184 [.int .i32 c] (.int .i64 (ei c)):=by
 refine zp func184 Z (by decide) Z<|ai<|ao Z<|z6<|zd<|ai<|aa Z<|z6<|zm<|ai<|ak Z Z<|ab Z<|z6<|zy Z (fun c3=>?_) (fun c3=>?_)
 ·refine ai<|ao Z<|z6<|zg<|zn (x:=.int _ _) Z ?_
  simp_all[ei]
 ·refine ai<|ak Z Z<|ab Z<|z6<|zy Z (fun c4=>?_) (fun c4=>?_)
  ·refine ai<|ao Z<|z6<|zg<|zn (x:=.int _ _) Z ?_
   simp_all[ei]
  ·refine zi<|ai<|ao Z<|z6<|zg<|zn (x:=.int _ _) Z ?_
   simp_all[ei]
theorem Cw:∀r∈gI,(∀b∈r.2.1.data.toList,b<128)∧(∀b∈r.2.2.data.toList,b<128):=by decide
theorem pi (op:Int):bY op=(⟨#[]⟩,⟨#[]⟩,⟨#[]⟩)∨bY op∈gI:=by
 unfold bY
 split
 ·cases h:gI[op.toNat]? with
  |none=>exact .inl rfl
  |some r=>exact .inr (w4 h)
 ·exact .inl rfl
theorem pj (op:Int):(∀b∈(bY op).2.1.data.toList,b<128)∧(∀b∈(bY op).2.2.data.toList,b<128):=by
 rcases pi op with h|h
 ·rw[h];simp
 ·exact Cw _ h
def bb (op:Int):List Int:=(bY op).2.1.data.toList.map fun b=>ei b.toNat
def fd (op:Int):Int:=((bY op).2.2.data.toList.head?.map fun b=>ei b.toNat).getD 0
def cR (op:Int):Bool:=!(bY op).2.2.data.toList.isEmpty
end Go.Proofs.YtdilpodccjlkgaaGreatDoor
namespace Go.Proofs.YtdilpodccjlkgaaGreatDoor
open Go.Proofs.Tryz
open Go.Proofs
theorem Ez:da prog 218 59 1 1 [.int .i64 0]:=⟨_,underlying218,X2,zeroValue59,by decide,by decide,by kernel_rfl⟩
variable {E:World}
set_option maxRecDepth 20000
structure uF where
 name:ByteArray
 ty:Int
deriving DecidableEq
structure dG where
 dst:Int
 args:List Int
 from_:List Int
deriving DecidableEq
structure aF where
 op:Int
 dst:Int
 args:List Int
 num:Int
deriving DecidableEq
structure fi where
 kind:Int
 var:Int
 to0:Int
 to1:Int
deriving DecidableEq
structure aX where
 name:ByteArray
 phis:List dG
 insts:List aF
 term:fi
deriving DecidableEq
structure ac where
 vars:List uF
 params:List Int
 blocks:List aX
deriving DecidableEq
def cX (x:Int):List AV:=[.int .i64 x]
def gC (v:uF):List AV:=[.str v.name,.int .i64 v.ty]
def fe (p:dG):List AV:=[.int .i64 p.dst,.fro 1 (p.args.map cX),.fro 1 (p.from_.map cX)]
def bH (x:aF):List AV:=[.int .i64 x.op,.int .i64 x.dst,.fro 1 (x.args.map cX),.int .i64 x.num]
def oH (t:fi):List AV:=[.int .i64 t.kind,.int .i64 t.var,.int .i64 t.to0,.int .i64 t.to1]
def dh (b:aX):List AV:=[.str b.name,.fro 3 (b.phis.map fe),.fro 4 (b.insts.map bH),.int .i64 b.term.kind,.int .i64 b.term.var,.int .i64 b.term.to0,.int .i64 b.term.to1]
def bE (f:ac):List AV:=[.fro 2 (f.vars.map gC),.fro 1 (f.params.map cX),.fro 7 (f.blocks.map dh)]
theorem pk (op:Int):aM prog E 149 [.int .i64 op] (.fro 1 ((bb op).map cX)):=by
 obtain ⟨hasc,_⟩:=pj op
 have hl:(bb op).length=(bY op).2.1.size:=by unfold bb;rw[w1];exact Array.length_toList
 have hlen:(bb op).length≤3:=by
  rcases pi op with h|h
  ·unfold bb;rw[h];decide
  ·have:∀r∈gI,r.2.1.data.toList.length≤3:=by decide
   have:=this _ h
   unfold bb;simpa using this
 refine zp func149 Z (by decide) Z<|ai<|za (jI Z)<|z6<|ai<|za (jI Z)<|z6<|gU (t:=3) (k:=1) (T:=59) Z<|fun i3=>zd<|ai<|aa Z<|zh (s6 _) Z<|za (Gv.field1 (v:=.str _) underlying250 Z Yh Z Z)<|az.rangeT Zr Z<|fun i9=>z6<|zm<|y8 (γ:=Nat × Nat) [9] (fun g=>[(3,.own g.2 g.1)]) (fun g=>[(i9,.iter (bY op).2.1 g.1),(g.2,.grow 1 59 (((bb op).take g.1).map cX).flatten)]) (fun g=>g.1≤(bb op).length) (fun g=>(bb op).length - g.1) (0,i3) aK aH (qw _) ?_
 rintro ⟨p,i⟩ hp
 try dsimp only at *
 try simp only at hp
 by_cases hlt:p<(bb op).length
 ·have hb:p<(bY op).2.1.data.toList.length:=by rw[hl] at hlt;exact hlt
  have hg:(bY op).2.1.data[p]?=some (bY op).2.1.data.toList[p]:=by rw[Array.getElem_toList];exact Array.getElem?_eq_getElem hb
  refine ai<|az.nextA Z hg (hasc _ (qx hb)) .head<|za (jJ Z Z)<|z6<|zd<|yt Z Z ?_
  have ht:(bb op).take (p+1)=(bb op).take p++[ei ((bY op).2.1.data.toList[p]).toNat]:=by
   rw[qu hlt]
   have:(bb op)[p]=ei ((bY op).2.1.data.toList[p]).toNat:=List.getElem_map _
   rw[this]
  refine zi<|zm<|ai<|za (iN Z Z)<|ao Z<|z6<|aW<|za (im Z)<|aa Z<|zh (ph _) Z<|y4 (rows:=[[_]]) Ez Z Z Z Z Z<|yu (k:=1) underlying218 type59 Z Z Z Z Z (fun _=>.t1) (by rw[mr (k:=1) (fun _=>rfl),w7,Nat.min_eq_left hp]) (by decide) Z (by show (_+_)*8≤_;simp<;>omega) (by simp<;>omega)<|fun i17=>za (eD Z)<|z6 ?_
  exact ⟨(p+1,i17),aK,aK,⟨_,(.refl _),by rw[←lc ht];rfl⟩,hlt,by simp only;omega⟩
 ·refine ai<|az.nextTover Z .head (by rw[←hl];exact hlt)<|za (jJ Z Z)<|z6<|zd<|yg Z Z ?_
  have hkn:p=(bb op).length:=by omega
  subst hkn
  rw[qy]
  refine y6<|ai<|za (im Z)<|za (eD Z)<|z6<|zg ?_
  repeat (first|refine gO ?_|refine fA ?_)
  refine y9 (aS.know (t:=2) (rows:=(bb op).map cX) Z .t1 (by first|(intro r hr;obtain ⟨x,_,rfl⟩:=List.mem_map.1 hr;rfl)|simp[cX,gC,fe,bH,dh]) (by decide) (by simp))<|zn (x:=.fro _ _) Z ?_
  rfl
theorem pl (op:Int):aM prog E 150 [.int .i64 op] (.tup [.int .i64 (fd op),.bool (cR op)]):=by
 obtain ⟨_,hasc⟩:=pj op
 refine zp func150 Z (by decide) Z<|ai<|ao Z<|ab Z<|z6<|zd<|ai<|aa Z<|zh (s6 _) Z<|za (Gv.field1 (v:=.str _) underlying250 Z Yh Z Z)<|az.rangeT Zr Z<|fun i9=>z6<|zm<|y8 (γ:=Unit) [9] (fun g=>[]) (fun g=>[(i9,.iter (bY op).2.2 0)]) (fun g=>True) (fun g=>0) () trivial aH (trivial) ?_
 rintro _ _
 by_cases hlt:∃c0 tl,(bY op).2.2.data.toList=c0::tl
 ·obtain ⟨c0,tl,hk⟩:=hlt
  have hg:(bY op).2.2.data[0]?=some c0:=by rw[←Array.getElem?_toList,hk];rfl
  refine ai<|az.nextA Z hg (hasc _ (by rw[hk];exact .head _)) .head<|za (jJ Z Z)<|z6<|zd<|yt Z Z<|zi<|zm<|ai<|za (iN Z Z)<|ao Z<|z6<|ai<|aa Z<|zh (ph _) Z<|ao Z<|ab Z<|z6<|zg<|qd (x:=.int _ _) (y:=.bool _) Z Z ?_
  unfold fd cR;rw[hk];rfl
 ·have hk:(bY op).2.2.data.toList=[]:=by
   cases h:(bY op).2.2.data.toList with
   |nil=>rfl
   |cons x l=>exact absurd ⟨x,l,h⟩ hlt
  refine ai<|az.nextTover Z .head (by show ¬0<(bY op).2.2.data.size;rw[←Array.length_toList,hk];decide)<|za (jJ Z Z)<|z6<|zd<|yg Z Z<|y6<|ai<|ao Z<|ab Z<|z6<|zg<|qd (x:=.int _ _) (y:=.bool _) Z Z ?_
  unfold fd cR;rw[hk];rfl
def bc (f:ac) (v:Int):Bool:=decide (0≤v)&&decide (v<f.vars.length)
def eL (f:ac) (b:Int):Bool:=decide (0≤b)&&decide (b<f.blocks.length)
theorem kK (f:ac) (v:Int):aM prog E 177 [.agg (bE f),.int .i64 v] (.bool (bc f v)):=by
 refine zp func177 Z (by decide) Z<|ai<|ya (cs:=_) Z Z Z<|ab Z<|z6<|ai<|aa Z<|za (q5 Z Z)<|aj Z<|zq (s:=7) Z (fun c1=>?_) (fun c1=>?_)
 ·refine z8 Z Z c1<|aa Z<|z8 Z Z c1<|au jg Z Yc Z Z<|z8 Z Z c1<|aI Yn Z<|z8 Z Z c1<|aq Z9 Z<|z8 Z Z c1<|ay Z Z<|aw Z c1 Z<|ab Z<|z6<|zg<|zn (x:=.bool _) Z ?_
  simp_all[bc]<;>omega
 ·refine z7 Z Z c1<|z7 Z Z c1<|z7 Z Z c1<|z7 Z Z c1<|z7 Z Z c1<|ax Z c1 Z<|ab Z<|z6<|zg<|zn (x:=.bool _) Z ?_
  simp_all[bc]<;>omega
theorem oI (f:ac) (v:Int):aM prog E 180 [.agg (bE f),.int .i64 v] (.bool (eL f v)):=by
 refine zp func180 Z (by decide) Z<|ai<|ya (cs:=_) Z Z Z<|ab Z<|z6<|ai<|aa Z<|za (q5 Z Z)<|aj Z<|zq (s:=7) Z (fun c2=>?_) (fun c2=>?_)
 ·refine z8 Z Z c2<|aa Z<|z8 Z Z c2<|au jg Z Z8 Z Z<|z8 Z Z c2<|aI Zg Z<|z8 Z Z c2<|aq ju Z<|z8 Z Z c2<|ay Z Z<|aw Z c2 Z<|ab Z<|z6<|zg<|zn (x:=.bool _) Z ?_
  simp_all[eL]<;>omega
 ·refine z7 Z Z c2<|z7 Z Z c2<|z7 Z Z c2<|z7 Z Z c2<|z7 Z Z c2<|ax Z c2 Z<|ab Z<|z6<|zg<|zn (x:=.bool _) Z ?_
  simp_all[eL]<;>omega
def cE {α:Type} (p:α→Bool):List α→Nat→Int
 |[],_=>-1
 |x::xs,k=>if p x then k else cE p xs (k+1)
theorem eX {α:Type} (p:α→Bool):∀(xs:List α) (k:Nat),decide (0≤cE p xs k)=xs.any p
 |[],k=>rfl
 |x::xs,k=>by
  unfold cE
  rw[List.any_cons]
  split
  ·rename_i h;rw[h];simp
  ·rename_i h;simp[h,eX p xs (k+1)]
theorem bF {α:Type} (p:α→Bool):∀(xs:List α) (k:Nat),k≤xs.length→(xs.take k).all (fun x=>!p x)=true→cE p xs 0=cE p (xs.drop k) k
 |_,0,_,_=>rfl
 |xs,k+1,h,hall=>by
  rw[qu (by omega),List.all_append] at hall
  simp only[wa,List.all_cons,List.all_nil,Bool.and_true] at hall
  rw[bF p xs k (by omega) hall.1,List.drop_eq_getElem_cons (by omega)]
  rw[cE]
  rw[if_neg (by simpa using hall.2)]
theorem oh {p:Int→Bool} {fn:FuncId} {c:List AV} (xs:List Int) (hl:xs.length≤281474976710656) (hp:∀x,aM prog E fn ([.int .i64 x]++c) (.bool (p x))) :
  aM prog E 162 [.fro 1 (xs.map cX),.fn fn [] c] (.int .i64 (cE p xs 0)):=by
 refine zp func162 Z (by decide) Z<|ai<|ao Z<|z6<|zd<|ai<|be Z<|aq wy Z<|aa Z<|z6<|zm<|y8 (γ:=Nat) [0,1,7] (fun k=>[(8,.int .i64 k)]) (fun k=>[]) (fun k=>k≤xs.length∧(xs.take k).all (fun x=>!p x)) (fun k=>xs.length - k) 0 aK aH (⟨qw _,Z⟩) ?_
 rintro k ⟨hk,hall⟩
 refine ai<|ay Z Z<|z6<|zd<|zt Z (fun ck=>?_) (fun ck=>?_)
 ·have hk2:k<xs.length:=by omega
  refine zi<|zd<|zm<|ai<|aa Z<|ao Z<|z6<|ai<|za (yv (v:=.fn _ _ _) Z)<|be Z<|aa Z<|za (qe wy wz Z Z Z (qt (by omega)))<|aA j6 Z<|az.callVP Z (hp _) Z<|z6<|zy Z (fun cp=>?_) (fun cp=>?_)
  ·refine ai<|aa Z<|ao Z<|z6<|zg<|zn (x:=.int _ _) Z ?_
   rw[bF p xs k hk hall,List.drop_eq_getElem_cons hk2,cE,if_pos cp]
  ·refine zi<|aW<|aE Z Z<|aa Z<|z6 ?_
   exact ⟨k+1,db,aK,aH,⟨hk2,by rw[qu hk2,List.all_append,hall];simp[cp]⟩,by omega⟩
 ·have hkn:k=xs.length:=by omega
  refine y6<|ai<|ao Z<|z6<|zg<|zn (x:=.int _ _) Z ?_
  rw[bF p xs k hk hall,hkn,List.drop_length,cE]
theorem gW {p:Int→Bool} {fn:FuncId} {c:List AV} (xs:List Int) (hl:xs.length≤281474976710656) (hp:∀x,aM prog E fn ([.int .i64 x]++c) (.bool (p x))) :
  aM prog E 131 [.fro 1 (xs.map cX),.fn fn [] c] (.bool (xs.any p)):=by
 refine zp func131 Z (by decide) Z<|ai<|ab Z<|z6<|ai<|be Z<|za (yv (v:=.fn _ _ _) Z)<|zh (oh xs hl hp) Z<|za (q5 Z Z)<|ab Z<|z6<|zg<|zn (x:=.bool _) Z ?_
 rw[eX]
theorem wT (f:ac) (v:Int):aM prog E 199 ([.int .i64 v]++[.pf (bE f)]) (.bool (!bc f v)):=by
 refine zp func199 Z (by decide) Z<|ai<|ab Z<|z6<|ai<|ae jv jj Z Z<|aa Z<|zh (kK _ _) Z<|aC Z<|ab Z<|z6<|zg<|zn (x:=.bool _) Z ?_
 rfl
theorem sd (f:ac) (l:List Int) (hl:l.length≤281474976710656):aM prog E 178 [.agg (bE f),.fro 1 (l.map cX)] (.bool (l.all (bc f))):=by
 refine zp func178 Z (by decide) Z<|ai<|ya (cs:=_) Z Z Z<|ab Z<|z6<|ai<|be Z<|za (Gv.func Z Z)<|zh (gW l hl (wT f)) Z<|aC Z<|ab Z<|z6<|zg<|zn (x:=.bool _) Z ?_
 rw[List.any_eq_not_all_not];simp
end Go.Proofs.YtdilpodccjlkgaaGreatDoor
namespace Go.Proofs.YtdilpodccjlkgaaGreatDoor
open Go.Proofs.Tryz
open Go.Proofs
variable {E:World}
set_option maxRecDepth 20000
def pn {α:Type} (l:List α):Prop:=l.length≤140737488355328
def yQ (p:dG):Prop:=pn p.args∧pn p.from_
def Hv (b:aX):Prop:=pn b.phis∧pn b.insts∧(∀p∈b.phis,yQ p)∧(∀x∈b.insts,pn x.args)
def ta (f:ac):Prop:=pn f.vars∧pn f.params∧pn f.blocks∧∀b∈f.blocks,Hv b
theorem pn.lt {α:Type} {l:List α} (h:pn l):l.length≤140737488355328:=h
theorem jb {x y:Bool} (h:x=y):AV.bool x=AV.bool y:=congrArg AV.bool h
theorem Gk (k:Nat):∀I v,bp I (.raw (.slice none 0 0)) v→bp I (.fro k []) v:=fun _ _ h=>⟨none,0,0,h,rfl,Nat.le_refl _,fun _=>rfl,trivial⟩
theorem Gl (a b c d:Int) (w:World) (m:Nat):(Op.equalIn (m+2) 47 (.agg [.int .i64 a,.int .i64 b].toArray) (.agg [.int .i64 c,.int .i64 d].toArray)).run prog w=.ok (decide (a=c∧b=d)) w:=by
 rw[Op.equalIn]
 simp only[Sem.run_bind,run_underlying Z1,Result.andThen_ok]
 simp only[Std.Legacy.Range.forIn_eq_forIn_range',Std.Legacy.Range.size,Nat.sub_zero,Nat.add_sub_cancel,Nat.div_one,List.range'_succ,List.range'_zero,List.forIn_cons,List.forIn_nil]
 simp[part,j6,wz,run_equalIn_int,Zy]
 by_cases h1:a=c<;>by_cases h2:b=d<;>simp[h1,h2]
theorem nL (xs ys:List Int) (hl:pn xs):aM prog E 155 [.fro 1 (xs.map cX),.fro 1 (ys.map cX)] (.bool (decide (xs=ys))):=by
 have hl:=hl.lt
 refine zp func155 Z (by decide) Z<|ai<|ab Z<|z6<|zd<|ai<|be Z<|aq wy Z<|be Z<|aq wy Z<|aO Z Z<|z6<|zy Z (fun c0=>?_) (fun c0=>?_)
 ·have h:¬xs=ys:=fun e=>by subst e;simp at c0
  refine ai<|ab Z<|z6<|zg<|zn (x:=.bool _) Z ?_
  rw[w9 h]
 ·have hl2:xs.length=ys.length:=by simp at c0;omega
  refine zi<|zd<|ai<|be Z<|aq wy Z<|aa Z<|z6<|zm<|y8 (γ:=Nat) [0,1,12] (fun k=>[(13,.int .i64 k)]) (fun k=>[]) (fun k=>k≤xs.length∧xs.take k=ys.take k) (fun k=>xs.length - k) 0 aK aH (⟨qw _,Z⟩) ?_
  rintro k ⟨hk,he⟩
  refine ai<|ay Z Z<|z6<|zd<|zt Z (fun ck=>?_) (fun ck=>?_)
  ·have hk2:k<xs.length:=by omega
   have hk3:k<ys.length:=by omega
   refine zi<|zd<|zm<|ai<|aa Z<|ao Z<|z6<|zd<|zr (fun j=>false) (by kernel_rfl) Z (zj (.rest _))<|ad 0 Z (wt Z)<|ad 1 Z (cD Z)<|ad 2 Z (qe wy wz Z Z Z (qt (by omega)))<|ad 3 Z (cQ j6 Z)<|ad 4 Z (wt Z)<|ad 5 Z (cD Z)<|ad 6 Z (qe wy wz Z Z Z (qt (by omega)))<|ad 7 Z (cQ j6 Z)<|ad 8 Z (Gv.neqI Z Z)<|bI<|zy Z (fun cd=>?_) (fun cd=>?_)
   ·refine ai<|ab Z<|z6<|zg<|zn (x:=.bool _) Z ?_
    rw[w9 (Hn hk2 hk3 (by simpa using cd))]
   ·refine zi<|aW<|aE Z Z<|aa Z<|z6 ?_
    exact ⟨k+1,db,aK,aH,⟨hk2,As hk2 hk3 he (by simpa using cd)⟩,by omega⟩
  ·refine y6<|ai<|ab Z<|z6<|zg<|zn (x:=.bool _) Z ?_
   rw[w8 (Au hl2 (by omega) he)]
end Go.Proofs.YtdilpodccjlkgaaGreatDoor
namespace Go.Proofs.YtdilpodccjlkgaaGreatDoor
open Go.Proofs.Tryz
open Go.Proofs
variable {E:World}
set_option maxRecDepth 20000
theorem ol {p:Int→Bool} {fn:FuncId} {c:List AV} (xs:List Int) (hl:xs.length≤281474976710656) (hp:∀x∈xs,aM prog E fn ([.int .i64 x]++c) (.bool (p x))) :
  aM prog E 162 [.fro 1 (xs.map cX),.fn fn [] c] (.int .i64 (cE p xs 0)):=by
 refine zp func162 Z (by decide) Z<|ai<|ao Z<|z6<|zd<|ai<|be Z<|aq wy Z<|aa Z<|z6<|zm<|y8 (γ:=Nat) [0,1,7] (fun k=>[(8,.int .i64 k)]) (fun k=>[]) (fun k=>k≤xs.length∧(xs.take k).all (fun x=>!p x)) (fun k=>xs.length - k) 0 aK aH (⟨qw _,Z⟩) ?_
 rintro k ⟨hk,hall⟩
 refine ai<|ay Z Z<|z6<|zd<|zt Z (fun ck=>?_) (fun ck=>?_)
 ·have hk2:k<xs.length:=by omega
  refine zi<|zd<|zm<|ai<|aa Z<|ao Z<|z6<|ai<|za (yv (v:=.fn _ _ _) Z)<|be Z<|aa Z<|za (qe wy wz Z Z Z (qt (by omega)))<|aA j6 Z<|az.callVP Z (hp _ (qx hk2)) Z<|z6<|zy Z (fun cp=>?_) (fun cp=>?_)
  ·refine ai<|aa Z<|ao Z<|z6<|zg<|zn (x:=.int _ _) Z ?_
   rw[bF p xs k hk hall,List.drop_eq_getElem_cons hk2,cE,if_pos cp]
  ·refine zi<|aW<|aE Z Z<|aa Z<|z6 ?_
   exact ⟨k+1,db,aK,aH,⟨hk2,by rw[qu hk2,List.all_append,hall];simp[cp]⟩,by omega⟩
 ·have hkn:k=xs.length:=by omega
  refine y6<|ai<|ao Z<|z6<|zg<|zn (x:=.int _ _) Z ?_
  rw[bF p xs k hk hall,hkn,List.drop_length,cE]
theorem lW {p:Int→Bool} {fn:FuncId} {c:List AV} (xs:List Int) (hl:xs.length≤281474976710656) (hp:∀x∈xs,aM prog E fn ([.int .i64 x]++c) (.bool (p x))) :
  aM prog E 131 [.fro 1 (xs.map cX),.fn fn [] c] (.bool (xs.any p)):=by
 refine zp func131 Z (by decide) Z<|ai<|ab Z<|z6<|ai<|be Z<|za (yv (v:=.fn _ _ _) Z)<|zh (ol xs hl hp) Z<|za (q5 Z Z)<|ab Z<|z6<|zg<|zn (x:=.bool _) Z ?_
 rw[eX]
def bg (f:ac) (v:Int):Int:=((f.vars[v.toNat]?).map (·.ty)).getD 0
theorem kL {f:ac} {v:Int} (h:bc f v=true):∃x,f.vars[v.toNat]?=some x∧v=(v.toNat:Int)∧bg f v=x.ty:=by
 unfold bc at h
 simp only[wa,wg] at h
 have hl:v.toNat<f.vars.length:=by omega
 refine ⟨f.vars[v.toNat],qt hl,by omega,?_⟩
 unfold bg;rw[qt hl];rfl
theorem fD (f:ac) (v:Int) (hv:bc f v=true):aM prog E 147 [.agg (bE f),.int .i64 v] (.int .i64 (bg f v)):=by
 obtain ⟨x,hx,hv2,hk⟩:=kL hv
 rw[hk]
 refine zp func147 Z (by decide) Z<|ai<|ya (cs:=_) Z Z Z<|ao Z<|z6<|ai<|au jg Z Yc Z Z<|aI Yn Z<|aa Z<|za (bv v.toNat Z9 Yd Z Z hv2 hx)<|au Zm Z X2 Z Z<|aA Xh Z<|ao Z<|z6<|zg<|zn (x:=.int _ _) Z ?_
 rfl
theorem Cx (op:Int):aM prog E 148 [.int .i64 op] (.bool (decide (op=1))):=by
 refine zp func148 Z (by decide) Z<|ai<|ab Z<|z6<|ai<|aa Z<|ak Z Z<|ab Z<|z6<|zg<|zn (x:=.bool _) Z ?_
 simp_all
theorem Cy:∀{l:List Int} (h:0<l.length),l.headD 0=l[0]
 |[],h=>absurd h (Nat.lt_irrefl 0)
 |_::_,_=>rfl
def dN (f:ac) (x:aF):Bool:=if x.op=1 then decide (bg f x.dst=bg f (x.args.headD 0)) else decide (x.args.map (bg f)=bb x.op)&&(!cR x.op||decide (bg f x.dst=fd x.op))
theorem iE {f:ac} {xs ts:List Int} {k:Nat} (h1:k<xs.length) (h2:k<ts.length) (h:(xs.take k).map (bg f)=ts.take k) (hk:bg f xs[k]=ts[k]):(xs.take (k+1)).map (bg f)=ts.take (k+1):=by
 rw[qu h1,qu h2,w5,h,List.map_cons,List.map_nil,hk]
theorem Cz {f:ac} {xs ts:List Int} {k:Nat} (h1:k<xs.length) (h2:k<ts.length) (hk:¬bg f xs[k]=ts[k]):¬xs.map (bg f)=ts:=by
 intro e
 apply hk
 subst e
 rw[List.getElem_map]
theorem wU (f:ac) (x:aF) (ha:x.args.all (bc f)=true) (hl:x.args.length=(bb x.op).length) (hd:cR x.op=true→bc f x.dst=true) :
  aM prog E 105 [.agg (bE f),.agg (bH x)] (.bool (dN f x)):=by
 have hlen:(bb x.op).length≤3:=by
  rcases pi x.op with h|h
  ·unfold bb;rw[h];decide
  ·have:∀r∈gI,r.2.1.data.toList.length≤3:=by decide
   have:=this _ h
   unfold bb;simpa using this
 refine zp func105 Z (by decide) Z<|ai<|ya (cs:=_) Z Z Z<|ya (cs:=_) Z Z Z<|ab Z<|z6<|zd<|ai<|au j5 Z Z2 Z Z<|aA Z4 Z<|zh (Cx _) Z<|z6<|zt Z (fun c1=>?_) (fun c1=>?_)
 ·have e1:x.op=1:=by simpa using c1
  have hlz:0<x.args.length:=by rw[hl,e1];decide
  have hv0:bc f x.args[0]=true:=List.all_eq_true.1 ha _ (qx hlz)
  have hvd:bc f x.dst=true:=hd (by rw[e1];decide)
  refine zd<|zr (fun j=>false) (by kernel_rfl) Z (zj (.rest _))<|ad 0 Z (yw jv jj Z Z)<|ad 1 Z (bK j5 Z wz Z Z)<|ad 2 Z (cQ j6 Z)<|ad 4 Z (yw jv jj Z Z)<|ad 5 Z (bK j5 Z j7 Z Z)<|ad 6 Z (e9 jf Z)<|ad 7 Z (bv 0 wy wz Z Z Z (qt hlz))<|ad 8 Z (cQ j6 Z)<|aQ 3 Z<|zh (fD _ _ (by assumption)) Z<|z6<|aQ 9 Z<|zh (fD _ _ (by assumption)) Z<|z6<|ad 10 Z (Gv.eqlI Z Z)<|ad 11 Z (ms Z)<|bI<|zg<|zn (x:=.bool _) Z ?_
  exact jb (by unfold dN;rw[if_pos e1,Cy hlz])
 ·have e1:¬x.op=1:=by simpa using c1
  refine zi<|zd<|ai<|au j5 Z Z2 Z Z<|aA Z4 Z<|zh (pk _) Z<|aq underlying218 Z<|aa Z<|z6<|zm<|y8 (γ:=Nat) [2,3,25,26] (fun k=>[(27,.int .i64 k)]) (fun k=>[]) (fun k=>k≤(bb x.op).length∧(x.args.take k).map (bg f)=(bb x.op).take k) (fun k=>(bb x.op).length - k) 0 aK aH (⟨qw _,Z⟩) ?_
  rintro k ⟨hk,hall⟩
  refine ai<|ay Z Z<|z6<|zd<|zt Z (fun ck=>?_) (fun ck=>?_)
  ·have hk2:k<(bb x.op).length:=by simp at ck;omega
   have hk3:k<x.args.length:=by omega
   have hvk:bc f x.args[k]=true:=List.all_eq_true.1 ha _ (qx hk3)
   refine zi<|zd<|zm<|ai<|aa Z<|za (bv k underlying218 X2 Z Z Z (qt hk2))<|aA Xh Z<|ao Z<|ao Z<|z6<|zd<|zr (fun j=>false) (by kernel_rfl) Z (zj (.rest _))<|ad 0 Z (yw jv jj Z Z)<|ad 1 Z (bK j5 Z j7 Z Z)<|ad 2 Z (e9 jf Z)<|ad 3 Z (cD Z)<|ad 4 Z (bv k wy wz Z Z Z (qt hk3))<|ad 5 Z (cQ j6 Z)<|ad 7 Z (cD Z)<|aQ 6 Z<|zh (fD _ _ (by assumption)) Z<|z6<|ad 8 Z (Gv.neqI Z Z)<|bI<|zy Z (fun cn=>?_) (fun cn=>?_)
   ·refine ai<|ab Z<|z6<|zg<|zn (x:=.bool _) Z ?_
    exact jb (by unfold dN;rw[if_neg e1,w9 (Cz hk3 hk2 (by simpa using cn))];rfl)
   ·refine zi<|aW<|aE Z Z<|aa Z<|z6 ?_
    exact ⟨k+1,gH,aK,aH,⟨hk2,iE hk3 hk2 hall (by simpa using cn)⟩,by omega⟩
  ·have hkn:k=(bb x.op).length:=by simp at ck;omega
   subst hkn
   rw[qy,←hl,qy] at hall
   refine y6<|ai<|au j5 Z Z2 Z Z<|aA Z4 Z<|zh (pl _) Z<|za (ke Z)<|za (iN Z Z)<|za (jJ Z Z)<|ao Z<|ab Z<|z6<|ai<|aj Z<|aC Z<|aj Z<|zq (s:=50) Z (fun c1=>?_) (fun c1=>?_)
   ·refine z7 Z Z c1<|z7 Z Z c1<|z7 Z Z c1<|z7 Z Z c1<|z7 Z Z c1<|z7 Z Z c1<|aw Z c1 Z<|ab Z<|z6<|zg<|zn (x:=.bool _) Z ?_
    exact jb (by unfold dN;rw[if_neg e1,w8 hall];simp_all)
   ·refine z8 Z Z c1<|ae jv jj Z Z<|z8 Z Z c1<|au j5 Z wz Z Z<|z8 Z Z c1<|aA j6 Z<|z8 Z Z c1<|zh (fD f x.dst (hd (by simp_all))) Z<|z8 Z Z c1<|aa Z<|z8 Z Z c1<|ak Z Z<|ax Z c1 Z<|ab Z<|z6<|zg<|zn (x:=.bool _) Z ?_
    exact jb (by unfold dN;rw[if_neg e1,w8 hall];simp_all)
def tb (f:ac) (p:dG):Bool:=!(p.args.any fun v=>!decide (bg f v=bg f p.dst))
theorem wW (f:ac) (p:dG) (v:Int) (hv:bc f v=true) (hd:bc f p.dst=true):aM prog E 146 ([.int .i64 v]++[.pf (bE f),.pf (fe p)]) (.bool (!decide (bg f v=bg f p.dst))):=by
 refine zp func146 Z (by decide) Z<|ai<|ab Z<|z6<|zd<|zr (fun j=>false) (by kernel_rfl) Z (zj (.rest _))<|ad 0 Z (yw jv jj Z Z)<|ad 1 Z (cD Z)<|ad 3 Z (yw jv jj Z Z)<|ad 4 Z (bK jz Z wz Z Z)<|ad 5 Z (cQ j6 Z)<|aQ 2 Z<|zh (fD _ _ (by assumption)) Z<|z6<|aQ 6 Z<|zh (fD _ _ (by assumption)) Z<|z6<|ad 7 Z (Gv.neqI Z Z)<|ad 8 Z (ms Z)<|bI<|zg<|zn (x:=.bool _) Z ?_
 simp_all
theorem AL (f:ac) (p:dG) (hp:yQ p) (ha:p.args.all (bc f)=true) (hd:bc f p.dst=true):aM prog E 104 [.agg (bE f),.agg (fe p)] (.bool (tb f p)):=by
 have hl1:=hp.1.lt
 refine zp func104 Z (by decide) Z<|ai<|ya (cs:=_) Z Z Z<|ya (cs:=_) Z Z Z<|ab Z<|z6<|ai<|au jz Z j7 Z Z<|aI jf Z<|za (Gv.func Z Z)<|zh (lW p.args (by omega) (fun v hv=>wW f p v (List.all_eq_true.1 ha v hv) hd)) Z<|aC Z<|ab Z<|z6<|zg<|zn (x:=.bool _) Z ?_
 rfl
def dZ (f:ac) (t:fi):Bool:=if t.kind=0 then !decide (t.to0=0) else if t.kind=1 then decide (bg f t.var=1)&&!decide (t.to0=0)&&!decide (t.to1=0) else decide (bg f t.var=0)
theorem wY (f:ac) (t:fi) (h:¬t.kind=0→bc f t.var=true):aM prog E 106 [.agg (bE f),.agg (oH t)] (.bool (dZ f t)):=by
 refine zp func106 Z (by decide) Z<|ai<|ya (cs:=_) Z Z Z<|ya (cs:=_) Z Z Z<|ab Z<|z6<|zd<|ai<|au je Z Y0 Z Z<|aA Ye Z<|z6<|zm<|ai<|ak Z Z<|ab Z<|z6<|zy Z (fun c2=>?_) (fun c2=>?_)
 ·refine ai<|au je Z Zd Z Z<|za (q3 (j:=0) Z1 wz Z Z Z (by decide) Z)<|aA j6 Z<|aO Z Z<|ab Z<|z6<|zg<|zn (x:=.bool _) Z ?_
  exact jb (by unfold dZ;simp_all)
 ·refine ai<|ak Z Z<|ab Z<|z6<|zy Z (fun c3=>?_) (fun c3=>?_)
  ·refine ai<|ae jv jj Z Z<|au je Z wz Z Z<|aA j6 Z<|zh (fD f t.var (h (by simp_all))) Z<|ak Z Z<|aj Z<|zq (s:=20) Z (fun c4=>?_) (fun c4=>?_)
   ·refine z8 Z Z c4<|au je Z Zd Z Z<|z8 Z Z c4<|za (q3 (j:=0) Z1 wz Z Z Z (by decide) Z)<|z8 Z Z c4<|aA j6 Z<|z8 Z Z c4<|aO Z Z<|aw Z c4 Z<|aj Z<|zq (s:=26) Z (fun c5=>?_) (fun c5=>?_)
    ·refine z8 Z Z c5<|au je Z Zd Z Z<|z8 Z Z c5<|za (q3 (j:=1) Z1 wz Z Z Z (by decide) Z)<|z8 Z Z c5<|aA j6 Z<|z8 Z Z c5<|aO Z Z<|aw Z c5 Z<|ab Z<|z6<|zg<|zn (x:=.bool _) Z ?_
     exact jb (by unfold dZ;simp_all)
    ·refine z7 Z Z c5<|z7 Z Z c5<|z7 Z Z c5<|z7 Z Z c5<|ax Z c5 Z<|ab Z<|z6<|zg<|zn (x:=.bool _) Z ?_
     exact jb (by unfold dZ;simp_all)
   ·refine z7 Z Z c4<|z7 Z Z c4<|z7 Z Z c4<|z7 Z Z c4<|ax Z c4 Z<|aj Z<|z7 Z Z Z<|z7 Z Z Z<|z7 Z Z Z<|z7 Z Z Z<|ax Z Z Z<|ab Z<|z6<|zg<|zn (x:=.bool _) Z ?_
    exact jb (by unfold dZ;simp_all)
  ·refine zi<|ai<|ae jv jj Z Z<|au je Z wz Z Z<|aA j6 Z<|zh (fD f t.var (h (by simp_all))) Z<|ak Z Z<|ab Z<|z6<|zg<|zn (x:=.bool _) Z ?_
   exact jb (by unfold dZ;simp_all)
end Go.Proofs.YtdilpodccjlkgaaGreatDoor
namespace Go.Proofs.YtdilpodccjlkgaaGreatDoor
open Go.Proofs.Tryz
open Go.Proofs
variable {E:World}
set_option maxRecDepth 20000
theorem FV:aM prog E 204 [] (.agg (m7 D8)):=by
 refine zp func204 Z (by decide) Z<|ai<|y7 (cs:=[.int .i64 0,.int .i64 0]) X0 Z Z<|fun i0=>z6<|ai<|za (y3 (cps:=[(0,[_]),(1,[_])]) (rs:=[_,_]) uC Z Z Z)<|y1 Za Z Z Z Z Z Z .head Z<|z6<|zg<|dX.c1 Z ⟨_,.head⟩ Y5 Za Z ?_
 rfl
theorem IW (n:Int):aM prog E 216 [.int .i64 n] (.agg (m7 (yL n))):=by
 refine zp func216 Z (by decide) Z<|ai<|y7 (cs:=[.int .i64 0,.int .i64 0]) X0 Z Z<|fun i2=>z6<|ai<|aa Z<|aa Z<|za (y3 (cps:=[(0,[_]),(1,[_])]) (rs:=[_,_]) uC Z Z Z)<|y1 Za Z Z Z Z Z Z .head Z<|z6<|zg<|dX.c1 Z ⟨_,.head⟩ Y5 Za Z ?_
 rfl
theorem Hw (lo hi:Int):aM prog E 221 [.int .i64 lo,.int .i64 hi] (.agg (m7 (ur lo hi))):=by
 refine zp func221 Z (by decide) Z<|ai<|y7 (cs:=[.int .i64 0,.int .i64 0]) X0 Z Z<|fun i4=>z6<|zd<|ai<|aa Z<|aa Z<|aZ Z Z<|z6<|zt Z (fun c=>?_) (fun c=>?_)
 ·refine ai<|zh (FV) Z<|y1 Za Z Z Z Z Z Z .head Z<|z6<|zg<|dX.c1 Z ⟨_,.head⟩ Y5 Za Z ?_
  rw[ur,if_pos c];try rfl
 ·refine zi<|ai<|aa Z<|aa Z<|za (y3 (cps:=[(0,[_]),(1,[_])]) (rs:=[_,_]) uC Z Z Z)<|y1 Za Z Z Z Z Z Z .head Z<|z6<|zg<|dX.c1 Z ⟨_,.head⟩ Y5 Za Z ?_
  rw[ur,if_neg c];try rfl
theorem m8 (r:fJ):aM prog E 189 [.agg (m7 r)] (.bool (decide (r.2<r.1))):=by
 refine zp func189 Z (by decide) Z<|ai<|ya (cs:=_) Z Z Z<|ab Z<|z6<|ai<|au Y2 Z Z5 Z Z<|aA Zx Z<|au Y2 Z Z5 Z Z<|aA Zx Z<|aZ Z Z<|ab Z<|z6<|zg<|zn (x:=.bool _) Z ?_
 rfl
theorem Hx (a b:fJ):aM prog E 215 [.agg (m7 a),.agg (m7 b)] (.agg (m7 (gn a b))):=by
 refine zp func215 Z (by decide) Z<|ai<|ya (cs:=_) Z Z Z<|ya (cs:=_) Z Z Z<|y7 (cs:=[.int .i64 0,.int .i64 0]) X0 Z Z<|fun i4=>z6<|zd<|zm<|ai<|ae Y5 Za Z Z<|zh (m8 _) Z<|ab Z<|z6<|zt Z (fun c1=>?_) (fun c1=>?_)
 ·refine ai<|au Y2 Z Z5 Z Z<|aA Zx Z<|au Y2 Z Z5 Z Z<|aA Zx Z<|zh (Hw _ _) Z<|y1 Za Z Z Z Z Z Z .head Z<|z6<|zg<|dX.c1 Z ⟨_,.head⟩ Y5 Za Z ?_
  rw[gn,if_pos c1];try rfl
 ·refine ai<|ae Y5 Za Z Z<|zh (m8 _) Z<|ab Z<|z6<|zt Z (fun c2=>?_) (fun c2=>?_)
  ·refine ai<|ae Y5 Za Z Z<|y1 Za Z Z Z Z Z Z .head Z<|z6<|zg<|dX.c1 Z ⟨_,.head⟩ Y5 Za Z ?_
   rw[gn,if_neg c1,if_pos c2];try rfl
  ·refine zi<|ai<|au Y2 Z Z5 Z Z<|aA Zx Z<|au Y2 Z Z5 Z Z<|aA Zx Z<|za (Gv.minI Z Z)<|au Y2 Z Z5 Z Z<|aA Zx Z<|au Y2 Z Z5 Z Z<|aA Zx Z<|za (Gv.maxI Z Z)<|za (y3 (cps:=[(0,[_]),(1,[_])]) (rs:=[_,_]) uC Z Z Z)<|y1 Za Z Z Z Z Z Z .head Z<|z6<|zg<|dX.c1 Z ⟨_,.head⟩ Y5 Za Z ?_
   rw[gn,if_neg c1,if_neg c2];try rfl
theorem CA (b:Bool):aM prog E 207 [.bool b] (.int .i64 (if b=true then FP else FQ)):=by
 refine zp func207 Z (by decide) Z<|ai<|ao Z<|z6<|zd<|ai<|aj Z<|z6<|zy Z (fun c1=>?_) (fun c1=>?_)
 ·refine ai<|ao Z<|z6<|zg<|zn (x:=.int _ _) Z ?_
  simp_all[FP,FQ]
 ·refine zi<|ai<|ao Z<|z6<|zg<|zn (x:=.int _ _) Z ?_
  simp_all[FP,FQ]
theorem FW (op:Int):aM prog E 188 [.int .i64 op] (.bool (decide (op=2)||(decide (op=3)||decide (op=4)))):=by
 refine zp func188 Z (by decide) Z<|ai<|ab Z<|z6<|ai<|aa Z<|ak Z Z<|aj Z<|zq (s:=5) Z (fun c2=>?_) (fun c2=>?_)
 ·refine z7 Z Z c2<|z7 Z Z c2<|aw Z c2 Z<|aj Z<|z7 Z Z Z<|z7 Z Z Z<|aw Z Z Z<|ab Z<|z6<|zg<|zn (x:=.bool _) Z ?_
  exact jb (by simp_all)
 ·refine z8 Z Z c2<|aa Z<|z8 Z Z c2<|ak Z Z<|ax Z c2 Z<|aj Z<|zq (s:=9) Z (fun c3=>?_) (fun c3=>?_)
  ·refine z7 Z Z c3<|z7 Z Z c3<|aw Z c3 Z<|ab Z<|z6<|zg<|zn (x:=.bool _) Z ?_
   exact jb (by simp_all)
  ·refine z8 Z Z c3<|aa Z<|z8 Z Z c3<|ak Z Z<|ax Z c3 Z<|ab Z<|z6<|zg<|zn (x:=.bool _) Z ?_
   exact jb (by simp_all)
theorem It {x y:Int} (hx:bB x) (hy:bB y):aM prog E 205 [.int .i64 x,.int .i64 y] (.tup [.int .i64 (IntKind.i64.wrap (x+y)),.bool (decide (dk 0 x y))]):=by
 rw[←Ip hx hy]
 refine zp func205 Z (by decide) Z<|ai<|ao Z<|ab Z<|z6<|ai<|aa Z<|aa Z<|za (Gv.addW Z Z)<|ao Z<|z6<|ai<|aa Z<|aa Z<|ay Z Z<|aa Z<|ay Z Z<|za (Gv.neqB Y7 Z Z)<|aj Z<|zq (s:=16) Z (fun c4=>?_) (fun c4=>?_)
 ·refine z7 Z Z c4<|z7 Z Z c4<|z7 Z Z c4<|z7 Z Z c4<|z7 Z Z c4<|aw Z c4 Z<|ao Z<|ab Z<|z6<|zg<|qd (x:=.int _ _) (y:=.bool _) Z Z ?_
  simp_all
 ·refine z8 Z Z c4<|aa Z<|z8 Z Z c4<|ay Z Z<|z8 Z Z c4<|aa Z<|z8 Z Z c4<|ay Z Z<|z8 Z Z c4<|za (Gv.eqlB Y7 Z Z)<|ax Z c4 Z<|ao Z<|ab Z<|z6<|zg<|qd (x:=.int _ _) (y:=.bool _) Z Z ?_
  simp_all
theorem Iu {x y:Int} (hx:bB x) (hy:bB y):aM prog E 208 [.int .i64 x,.int .i64 y] (.tup [.int .i64 (IntKind.i64.wrap (x - y)),.bool (decide (dk 1 x y))]):=by
 rw[←Iq hx hy]
 refine zp func208 Z (by decide) Z<|ai<|ao Z<|ab Z<|z6<|ai<|aa Z<|aa Z<|za (Gv.subW Z Z)<|ao Z<|z6<|ai<|aa Z<|aa Z<|ay Z Z<|aa Z<|ay Z Z<|za (Gv.eqlB Y7 Z Z)<|aj Z<|zq (s:=16) Z (fun c5=>?_) (fun c5=>?_)
 ·refine z7 Z Z c5<|z7 Z Z c5<|z7 Z Z c5<|z7 Z Z c5<|z7 Z Z c5<|aw Z c5 Z<|ao Z<|ab Z<|z6<|zg<|qd (x:=.int _ _) (y:=.bool _) Z Z ?_
  simp_all
 ·refine z8 Z Z c5<|aa Z<|z8 Z Z c5<|ay Z Z<|z8 Z Z c5<|aa Z<|z8 Z Z c5<|ay Z Z<|z8 Z Z c5<|za (Gv.eqlB Y7 Z Z)<|ax Z c5 Z<|ao Z<|ab Z<|z6<|zg<|qd (x:=.int _ _) (y:=.bool _) Z Z ?_
  simp_all
theorem Hy {x:Int} (hx:bB x):aM prog E 217 [.int .i64 x] (.int .u64 (x.natAbs:Int)):=by
 rw[←kH hx]
 refine zp func217 Z (by decide) Z<|ai<|ao Z<|z6<|zd<|ai<|aa Z<|ay Z Z<|z6<|zt Z (fun c=>?_) (fun c=>?_)
 ·refine ai<|aa Z<|za (qm Zs Zk Z)<|za (Gv.neg Z)<|ao Z<|z6<|zg<|zn (x:=.int _ _) Z ?_
  rw[if_pos c];try rfl
 ·refine zi<|ai<|aa Z<|za (qm Zs Zk Z)<|ao Z<|z6<|zg<|zn (x:=.int _ _) Z ?_
  rw[if_neg c];try rfl
end Go.Proofs.YtdilpodccjlkgaaGreatDoor
