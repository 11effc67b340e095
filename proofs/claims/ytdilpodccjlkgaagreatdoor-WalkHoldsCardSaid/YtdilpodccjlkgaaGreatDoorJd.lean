/- Ranges of numbers: what the program's functions answer. Of int64s. -/
import Derived.Test.YtdilpodccjlkgaaGreatDoorJc
import Derived.Test.YtdilpodccjlkgaaGreatDoorJb
import Derived.Test.YtdilpodccjlkgaaGreatDoorChecked
set_option linter.unusedVariables false
set_option linter.unusedSimpArgs false
set_option linter.unusedSectionVars false
namespace Go.Proofs.YtdilpodccjlkgaaGreatDoor
open Go.Proofs.Tryz
open Go.Proofs Go.Lib Go.Shelf Go.RowKit
variable {E:World}
set_option maxRecDepth 20000
structure pp (n:Nat) (l:List fH):Prop where
 le:n≤2000
 fac:∀q∈l,Cn n q∧(-bN≤q.c∧q.c≤bN)
 len:l.length≤10000
theorem sq {α:Type} {k:Nat}:∀{rows:List (List α)} {j i:Nat} {r:List α} {v:α},(∀x∈rows,x.length=k)→rows[j]?=some r→i<k→rows.flatten.set (j*k+i) v=(rows.set j (r.set i v)).flatten
 |x::rows,0,i,r,v,hk,h,hi=>by
  cases h
  rw[List.flatten_cons,Nat.zero_mul,Nat.zero_add,List.set_append_left _ _ (by rw[hk x (.head _)];exact hi)];rfl
 |x::rows,j+1,i,r,v,hk,h,hi=>by
  have h1:=hk x (.head _)
  rw[List.flatten_cons,List.set_append_right _ _ (by rw[h1,Nat.succ_mul];omega),h1,show (j+1)*k+i - k=j*k+i by rw[Nat.succ_mul];omega,sq (fun y hy=>hk y (.tail _ hy)) h hi];rfl
theorem CG {n:Nat} {b:Int}:((mu n b).map fV).flatten=((List.replicate n [AV.bool false,.int .i64 0]).set b.toNat [.bool true,.int .i64 0]).flatten:=by
 unfold mu
 rw[List.map_set,List.map_replicate];rfl
theorem EJ {n:Nat} {b:Int} (hb:oL n b):(List.replicate n [AV.bool false,.int .i64 0]).flatten.set (b.toNat*2+0) (.bool true)=((mu n b).map fV).flatten:=by
 unfold oL at hb
 rw[CG,sq (r:=[AV.bool false,.int .i64 0]) (fun x hx=>by rw[(List.mem_replicate.1 hx).2];rfl) (by rw[List.getElem?_replicate,if_pos (by omega)]) (by decide)];rfl
theorem CH (n:Nat) (x y:AV):(List.replicate n [x,y]).flatten.length=n*2:=by
 induction n with
 |zero=>rfl
 |succ n ih=>rw[List.replicate_succ,List.flatten_cons,qz,ih,Nat.succ_mul];show 2+_=_;omega
theorem Gy {n i:Nat} (h:i<n):i*2+0<(List.replicate n (List.map lit [Value.bool false,Value.int IntKind.i64 0])).flatten.length:=by
 have h2:(List.replicate n (List.map lit [Value.bool false,Value.int IntKind.i64 0])).flatten.length=n*2:=CH n (AV.bool false) (.int .i64 0)
 omega
theorem kP (n:Nat) (l:List fH) (y:AV) (hl:pp n l) {a b:Int} (ha:oL n a) (hb:oL n b):aM prog E 156 [zB n l y,.int .i64 a,.int .i64 b] (.tup [.int .i64 ((fu l n a b).getD 0),.bool (fu l n a b).isSome]):=by
 have hn:=hl.le
 have ha2:=ha
 have hb2:=hb
 unfold oL at ha2 hb2
 have hsa:=lw (E:=E) n (.fro 3 (l.map b8)) y a
 rw[w8 (show 0≤a∧a<n from ha2)] at hsa
 have hsb:=lw (E:=E) n (.fro 3 (l.map b8)) y b
 rw[w8 (show 0≤b∧b<n from hb2)] at hsb
 have hfur:=fun r k h1 h2 h3=>AW (E:=E) n l y r k h1 h2 hn hl.fac hl.len h3
 unfold zB at hfur ⊢
 refine zp func156 Z (by decide) Z<|ai<|ak Z<|ab Z<|z6<|zd<|ai<|za (fe Z)<|aa Z<|zg (hsa) Z<|aD Z<|aj Z<|z8 Z Z Z<|za (fe Z)<|z8 Z Z Z<|aa Z<|z8 Z Z Z<|zg (hsb) Z<|z8 Z Z Z<|aD Z<|ay Z Z Z<|z6<|yg Z Z<|zh<|ai<|za (fe Z)<|za (yk Z)<|au Zn Z wz Z Z<|aA j6 Z<|az.makeZ (m:=n) [.bool false,.int .i64 0] Yj type261 Z Z Z (by decide) (by decide) Z Z (by simp) (by simp) (by show (16:Int)*_≤_;omega) (by omega)<|fun i25=>za (eu Z)<|z6<|ai<|za (gQ Z)<|aa Z<|za (Gv.idxO (j:=b.toNat) Yj X9 Z Z (by omega) ⟨_,.head⟩ (fun h=>by have:=congrArg List.length h;simp at this;omega) (by omega))<|za (zf Yw Z Z6 (by decide) Z Z)<|az.storeGN (new:=((mu n b).map fV).flatten) Z6 Z Z Z Z Z .head (Gy (by omega)) (EJ hb)<|z6<|zz (aS.know (t:=8) (rows:=(mu n b).map fV) Z .head (by exact iS _) (by decide) (by rw[w1,o7])) ?_
 refine zd<|ai<|ak Z<|ab Z<|z6<|zk<|y7 (γ:=Nat × Bool × List (Option Int)) [0,1] (fun g=>[(9,.int .i64 g.1),(10,.bool g.2.1),(8,.fro 2 (g.2.2.map fV))]) (fun g=>[]) (fun g=>g.1≤6∧g.2.2=Az l g.1 (mu n b)∧(g.2.1=false→o5 l g.2.2=g.2.2)) (fun g=>6 - g.1) (0,true,mu n b) de aH (⟨qw _,Z,fun h=>by cases h⟩) ?_
 rintro ⟨k,again,r⟩ ⟨hk,hr,hag⟩
 try dsimp only at *
 refine zd<|zd<|ye (γ:=Bool) [0,1,8,9] (fun u=>[(34,.bool u)]) (fun u=>[]) (fun u=>u=(decide (k<6)&&again)) ?_ (fun _ _ h=>h) ?_
 ·refine aT<|aa Z<|ax Z Z<|aj Z<|zq (s:=32) Z (fun c1=>?_) (fun c1=>?_)
  ·refine z8 Z Z c1<|aj Z<|aw Z c1 Z<|z6 ?_
   exact ⟨_,gn,aK,aH,by simp_all<;>omega⟩
  ·refine z7 Z Z c1<|ay Z c1 Z<|z6 ?_
   exact ⟨_,gn,aK,aH,by simp_all<;>omega⟩
 ·rintro u hu
  refine zy Z (fun cu=>?_) (fun cu=>?_)
  ·have hu2:k<6∧again=true:=by rw[hu] at cu;simpa using cu
   have hrl:r.length=n:=by rw[hr,wN,o7]
   have hsr:ot k r:=by
    have:=ot.it (fun q hq=>(hl.fac q hq).2) k 0 _ (ot.beg n b)
    rw[Nat.zero_add] at this
    rw[hr];exact this
   refine zh<|zd<|zk<|aT<|za (fe Z)<|bc Z<|zg (hfur r k (by omega) hrl hsr) Z<|za (kw Z)<|za (qa (v:=.fro _ _) Z Z)<|za (jO Z Z)<|za (ni Z)<|ab Z<|z6<|aT<|aa Z<|aC Z Z<|ak Z<|z6 ?_
   exact ⟨(k+1,(AB l r).2,o5 l r),eh,de,aH,⟨by omega,by rw[wS,←hr];rfl,fun h=>by rw[(tb l r).2 h,(tb l r).2 h]⟩,by dsimp only;omega⟩
  ·have hfin:r=Az l 6 (mu n b):=by
    rw[hu] at cu
    by_cases h6:k<6
    ·have:again=false:=by simpa [h6] using cu
     have h2:=yR (hag this) (6 - k)
     have h3:=wS l k (6 - k) (mu n b)
     rw[show k+(6 - k)=6 by omega,←hr,h2] at h3
     exact h3.symm
    ·rw[hr,show k=6 by omega]
   have hrl:r.length=n:=by rw[hr,wN,o7]
   have hlea:fu l n a b=jn r a:=by unfold fu;rw[hfin]
   rw[hlea]
   have hra:=xa hrl ha
   refine y5<|zd<|ai<|bc Z<|aa Z<|za (bv a.toNat Yj X9 Z Z (by omega) hra)<|au Yw Z Z6 Z Z<|za (yv (c:=.bool _) Ym Z)<|aD Z<|z6<|zy Z (fun cr=>?_) (fun cr=>?_)
   ·refine ai<|ak Z<|ab Z<|z6<|zi<|qh (x:=.int _ _) (y:=.bool _) Z Z ?_
    exact (by cases h:jn r a with|none=>rfl|some m=>rw[h] at cr;cases cr)
   ·refine zh<|ai<|bc Z<|aa Z<|za (bv a.toNat Yj X9 Z Z (by omega) hra)<|au Yw Z Z5 Z Z<|aA Zx Z<|ak Z<|ab Z<|z6<|zi<|qh (x:=.int _ _) (y:=.bool _) Z Z ?_
    exact (by cases h:jn r a with|none=>rw[h] at cr;cases cr|some m=>rfl)
theorem rJ (n:Nat) (l:List fH) (y:AV) (hl:pp n l) {a b:Int} (ha:oL n a) (hb:oL n b) (c:Int):aM prog E 113 [zB n l y,.int .i64 a,.int .i64 b,.int .i64 c] (.bool (o6 l n a b c)):=by
 have hle:=kP (E:=E) n l y hl ha hb
 unfold zB at hle ⊢
 refine zp func113 Z (by decide) Z<|ai<|ab Z<|z6<|ai<|za (fe Z)<|aa Z<|aa Z<|zg (hle) Z<|za (kw Z)<|za (jL Z Z)<|za (jO Z Z)<|ak Z<|ab Z<|z6<|ai<|aj Z<|aj Z<|zq (s:=19) Z (fun c2=>?_) (fun c2=>?_)
 ·refine z8 Z Z c2<|aa Z<|z8 Z Z c2<|aa Z<|z8 Z Z c2<|za (Gv.leq Z Z)<|aw Z c2 Z<|ab Z<|z6<|zi<|zn (x:=.bool _) Z ?_
  exact congrArg AV.bool (by unfold o6;cases h:fu l n a b with|none=>simp_all|some m=>simp_all)
 ·refine z7 Z Z c2<|z7 Z Z c2<|z7 Z Z c2<|ay Z c2 Z<|ab Z<|z6<|zi<|zn (x:=.bool _) Z ?_
  exact congrArg AV.bool (by unfold o6;cases h:fu l n a b with|none=>simp_all|some m=>simp_all)
end Go.Proofs.YtdilpodccjlkgaaGreatDoor
namespace Go.Proofs.YtdilpodccjlkgaaGreatDoor
open Go.Proofs.Tryz
open Go.Proofs Go.Lib Go.Shelf Go.RowKit
theorem uL:dE prog 226 #[(0,1),(1,1)] [.int .i64 0,.int .i64 0]:=⟨_,_,Y2,X0,fun w=>by kernel_rfl,rfl⟩
variable {E:World}
set_option maxRecDepth 20000
def xc (f0 f1 f2 t m pr:AV) (n:Nat) (l:List fH) (q:Int) (ps:AV):AV:=.pf [f0,f1,f2,t,m,pr,zB n l .any,.int .i64 q,ps,.any,.any]
theorem oO {n:Nat} {l:List fH} (hl:pp n l) {a b:Int}:-6917529027641081856≤(fu l n a b).getD 0∧(fu l n a b).getD 0≤6917529027641081856:=by
 cases h:fu l n a b with
 |none=>exact ⟨by decide,by decide⟩
 |some m=>exact AA (fun q hq=>(hl.fac q hq).2) h
theorem EK {x:Int} (h:-6917529027641081856≤x∧x≤6917529027641081856):IntKind.i64.wrap (0 - x)=-x:=by
 rw[eH];omega
section
variable {f0 f1 f2 t m pr ps:AV} {n:Nat} {l:List fH} {q v:Int} (hl:pp n l) (hv:oL n v) (hq:oL n q)
include hl hv hq
theorem uM:aM prog E 117 [xc f0 f1 f2 t m pr n l q ps,.int .i64 v] (.tup [.int .i64 ((fu l n v q).getD 0),.bool (fu l n v q).isSome]):=by
 have hle:=kP (E:=E) n l .any hl hv hq
 unfold xc
 unfold zB at hle ⊢
 refine zp func117 Z (by decide) Z<|ai<|ak Z<|ab Z<|z6<|zd<|zr (fun j=>false) (by kernel_rfl) Z (zj (.rest _))<|ad 0 Z (fe Z)<|ad 1 Z (yk Z)<|ad 2 Z (bM j8 Z Z7 Z Z)<|ad 3 Z (yv (c:=.pf _) Zg Z)<|ad 4 Z (cD Z)<|ad 5 Z (fe Z)<|ad 6 Z (yk Z)<|ad 7 Z (bM j8 Z wz Z Z)<|ad 8 Z (cR j6 Z)<|aQ 9 Z<|zg (hle) Z<|z6<|ad 10 Z (jL Z Z)<|ad 11 Z (jO Z Z)<|ad 12 Z (m8 Z)<|ad 13 Z (m9 Z)<|bJ<|zi<|qh (x:=.int _ _) (y:=.bool _) Z Z ?_
 rfl
theorem l7:aM prog E 152 [xc f0 f1 f2 t m pr n l q ps,.int .i64 v] (.tup [.int .i64 (-(fu l n q v).getD 0),.bool (fu l n q v).isSome]):=by
 have hle:=kP (E:=E) n l .any hl hq hv
 have hr:=oO hl (a:=q) (b:=v)
 unfold xc
 unfold zB at hle ⊢
 refine zp func152 Z (by decide) Z<|ai<|ak Z<|ab Z<|z6<|zd<|zr (fun j=>false) (by kernel_rfl) Z (zj (.rest _))<|ad 0 Z (fe Z)<|ad 1 Z (yk Z)<|ad 2 Z (bM j8 Z Z7 Z Z)<|ad 3 Z (yv (c:=.pf _) Zg Z)<|ad 4 Z (fe Z)<|ad 5 Z (yk Z)<|ad 6 Z (bM j8 Z wz Z Z)<|ad 7 Z (cR j6 Z)<|ad 8 Z (cD Z)<|aQ 9 Z<|zg (hle) Z<|z6<|ad 10 Z (kw Z)<|ad 11 Z (jL Z Z)<|ad 12 Z (jO Z Z)<|ad 13 Z (m8 Z)<|ad 14 Z (m9 Z)<|bJ<|ai<|aa Z<|za (Gv.neg Z)<|aj Z<|ak Z<|ab Z<|z6<|zi<|qh (x:=.int _ _) (y:=.bool _) Z Z ?_
 rw[EK hr]
theorem AX:aM prog E 116 [xc f0 f1 f2 t m pr n l q ps,.int .i64 v] (.bool (o6 l n q v 0)):=by
 have hdn:=l7 (E:=E) (f0:=f0) (f1:=f1) (f2:=f2) (t:=t) (m:=m) (pr:=pr) (ps:=ps) hl hv hq
 unfold xc at hdn ⊢
 refine zp func116 Z (by decide) Z<|ai<|ab Z<|z6<|ai<|za (fe Z)<|aa Z<|zg (hdn) Z<|za (kw Z)<|za (jL Z Z)<|za (jO Z Z)<|ak Z<|ab Z<|z6<|ai<|aj Z<|aj Z<|zq (s:=14) Z (fun c1=>?_) (fun c1=>?_)
 ·refine z8 Z Z c1<|aa Z<|z8 Z Z c1<|za (q5 Z Z)<|aw Z c1 Z<|ab Z<|z6<|zi<|zn (x:=.bool _) Z ?_
  exact congrArg AV.bool (by unfold o6;cases h:fu l n q v with|none=>simp_all|some k=>simp_all<;>omega)
 ·refine z7 Z Z c1<|z7 Z Z c1<|ay Z c1 Z<|ab Z<|z6<|zi<|zn (x:=.bool _) Z ?_
  exact congrArg AV.bool (by unfold o6;cases h:fu l n q v with|none=>simp_all|some k=>simp_all<;>omega)
theorem pq:aM prog E 157 [xc f0 f1 f2 t m pr n l q ps,.int .i64 v] (.tup [.agg [.int .i64 (-(fu l n q v).getD 0),.int .i64 ((fu l n v q).getD 0)],.bool ((fu l n q v).isSome&&(fu l n v q).isSome)]):=by
 have hdn:=l7 (E:=E) (f0:=f0) (f1:=f1) (f2:=f2) (t:=t) (m:=m) (pr:=pr) (ps:=ps) hl hv hq
 have hup:=uM (E:=E) (f0:=f0) (f1:=f1) (f2:=f2) (t:=t) (m:=m) (pr:=pr) (ps:=ps) hl hv hq
 unfold xc at hdn hup ⊢
 refine zp func157 Z (by decide) Z<|ai<|y6 (cs:=[.int .i64 0,.int .i64 0]) X0 Z Z<|fun i4=>ab Z<|z6<|ai<|za (fe Z)<|aa Z<|zg (hdn) Z<|za (kw Z)<|za (jL Z Z)<|za (jO Z Z)<|ak Z<|ab Z<|z6<|ai<|za (fe Z)<|aa Z<|zg (hup) Z<|za (kw Z)<|za (jL Z Z)<|za (jO Z Z)<|ak Z<|ab Z<|z6<|ai<|aa Z<|aa Z<|za (y4 (cps:=[(0,[_]),(1,[_])]) (rs:=[_,_]) uL Z Z Z)<|aj Z<|aj Z<|zq (s:=26) Z (fun c2=>?_) (fun c2=>?_)
 ·refine z8 Z Z c2<|aj Z<|aw Z c2 Z<|y1 Za Z Z Z Z Z Z .head Z<|ab Z<|z6<|zi<|dZ.c1t (y:=.bool _) Z Z ⟨_,.head⟩ Y6 Za Z ?_
  exact congrArg (fun b=>AV.tup [.agg [.int .i64 (-(fu l n q v).getD 0),.int .i64 ((fu l n v q).getD 0)],.bool b]) (by simp_all)
 ·refine z7 Z Z c2<|ay Z c2 Z<|y1 Za Z Z Z Z Z Z .head Z<|ab Z<|z6<|zi<|dZ.c1t (y:=.bool _) Z Z ⟨_,.head⟩ Y6 Za Z ?_
  exact congrArg (fun b=>AV.tup [.agg [.int .i64 (-(fu l n q v).getD 0),.int .i64 ((fu l n v q).getD 0)],.bool b]) (by simp_all)
end
end Go.Proofs.YtdilpodccjlkgaaGreatDoor
namespace Go.Proofs.YtdilpodccjlkgaaGreatDoor
open Go.Proofs.Tryz
open Go.Proofs
theorem dX:dE prog 250 #[(0,1),(1,1),(2,1)] [.str ⟨#[]⟩,.str ⟨#[]⟩,.str ⟨#[]⟩]:=⟨_,_,underlying250,zeroValue250,fun w=>by kernel_rfl,rfl⟩
theorem HI:mA prog 275 3 [.str ⟨#[]⟩,.str ⟨#[]⟩,.str ⟨#[]⟩,.str ⟨#[]⟩,.str ⟨#[]⟩,.str ⟨#[]⟩,.str ⟨#[]⟩,.str ⟨#[]⟩,.str ⟨#[]⟩,.str ⟨#[]⟩,.str ⟨#[]⟩,.str ⟨#[]⟩,.str ⟨#[]⟩,.str ⟨#[]⟩,.str ⟨#[]⟩,.str ⟨#[]⟩,.str ⟨#[]⟩,.str ⟨#[]⟩,.str ⟨#[]⟩,.str ⟨#[]⟩,.str ⟨#[]⟩,.str ⟨#[]⟩,.str ⟨#[]⟩,.str ⟨#[]⟩,.str ⟨#[]⟩,.str ⟨#[]⟩,.str ⟨#[]⟩,.str ⟨#[]⟩,.str ⟨#[]⟩,.str ⟨#[]⟩,.str ⟨#[]⟩,.str ⟨#[]⟩,.str ⟨#[]⟩,.str ⟨#[]⟩,.str ⟨#[]⟩,.str ⟨#[]⟩,.str ⟨#[]⟩,.str ⟨#[]⟩,.str ⟨#[]⟩,.str ⟨#[]⟩,.str ⟨#[]⟩,.str ⟨#[]⟩,.str ⟨#[]⟩,.str ⟨#[]⟩,.str ⟨#[]⟩,.str ⟨#[]⟩,.str ⟨#[]⟩,.str ⟨#[]⟩,.str ⟨#[]⟩,.str ⟨#[]⟩,.str ⟨#[]⟩,.str ⟨#[]⟩,.str ⟨#[]⟩,.str ⟨#[]⟩,.str ⟨#[]⟩,.str ⟨#[]⟩,.str ⟨#[]⟩,.str ⟨#[]⟩,.str ⟨#[]⟩,.str ⟨#[]⟩,.str ⟨#[]⟩,.str ⟨#[]⟩,.str ⟨#[]⟩,.str ⟨#[]⟩,.str ⟨#[]⟩,.str ⟨#[]⟩,.str ⟨#[]⟩,.str ⟨#[]⟩,.str ⟨#[]⟩,.str ⟨#[]⟩,.str ⟨#[]⟩,.str ⟨#[]⟩,.str ⟨#[]⟩,.str ⟨#[]⟩,.str ⟨#[]⟩,.str ⟨#[]⟩,.str ⟨#[]⟩,.str ⟨#[]⟩,.str ⟨#[]⟩,.str ⟨#[]⟩,.str ⟨#[]⟩]:=⟨_,_,_,underlying275,zeroValue275,sizeOf250,rfl⟩
variable {E:World}
set_option maxRecDepth 20000
def gI:List (ByteArray × ByteArray × ByteArray):=[(⟨#[99,111,110,115,116]⟩,⟨#[]⟩,⟨#[105]⟩),
 (⟨#[99,111,112,121]⟩,⟨#[105]⟩,⟨#[105]⟩),
 (⟨#[97,100,100]⟩,⟨#[105,105]⟩,⟨#[105]⟩),
 (⟨#[115,117,98]⟩,⟨#[105,105]⟩,⟨#[105]⟩),
 (⟨#[109,117,108]⟩,⟨#[105,105]⟩,⟨#[105]⟩),
 (⟨#[100,105,118]⟩,⟨#[105,105]⟩,⟨#[105]⟩),
 (⟨#[114,101,109]⟩,⟨#[105,105]⟩,⟨#[105]⟩),
 (⟨#[101,113]⟩,⟨#[105,105]⟩,⟨#[98]⟩),
 (⟨#[108,116]⟩,⟨#[105,105]⟩,⟨#[98]⟩),
 (⟨#[108,101]⟩,⟨#[105,105]⟩,⟨#[98]⟩),
 (⟨#[110,111,116]⟩,⟨#[98]⟩,⟨#[98]⟩),
 (⟨#[97,110,100]⟩,⟨#[98,98]⟩,⟨#[98]⟩),
 (⟨#[108,101,110]⟩,⟨#[97]⟩,⟨#[105]⟩),
 (⟨#[108,111,97,100]⟩,⟨#[97,105]⟩,⟨#[105]⟩),
 (⟨#[115,116,111,114,101]⟩,⟨#[97,105,105]⟩,⟨#[]⟩),
 (⟨#[110,101,119]⟩,⟨#[105]⟩,⟨#[97]⟩),
 (⟨#[110,105,108]⟩,⟨#[]⟩,⟨#[97]⟩),
 (⟨#[111,117,116]⟩,⟨#[105]⟩,⟨#[]⟩),
 (⟨#[99,104,107,105,100,120]⟩,⟨#[97,105]⟩,⟨#[]⟩),
 (⟨#[99,104,107,110,105,108]⟩,⟨#[97]⟩,⟨#[]⟩),
 (⟨#[99,104,107,100,105,118]⟩,⟨#[105]⟩,⟨#[]⟩),
 (⟨#[99,104,107,97,100,100]⟩,⟨#[105,105]⟩,⟨#[]⟩),
 (⟨#[99,104,107,115,117,98]⟩,⟨#[105,105]⟩,⟨#[]⟩),
 (⟨#[99,104,107,109,117,108]⟩,⟨#[105,105]⟩,⟨#[]⟩),
 (⟨#[99,104,107,108,101,110]⟩,⟨#[105]⟩,⟨#[]⟩),
 (⟨#[112,105]⟩,⟨#[105,105]⟩,⟨#[105]⟩),
 (⟨#[112,105,108,101,110]⟩,⟨#[105,97]⟩,⟨#[105]⟩)]
def bW (op:Int):ByteArray × ByteArray × ByteArray:=if 0≤op then gI[op.toNat]?.getD (⟨#[]⟩,⟨#[]⟩,⟨#[]⟩) else (⟨#[]⟩,⟨#[]⟩,⟨#[]⟩)
def rK (op:Int):Bool:=decide (0≤op)&&decide (op<27)
def rL (r:ByteArray × ByteArray × ByteArray):List AV:=[.str r.1,.str r.2.1,.str r.2.2]
theorem EL (op:Int):aM prog E 200 [.int .i64 op] (.bool (rK op)):=by
 refine zp func200 Z (by decide) Z<|ai<|ab Z<|z6<|ai<|aa Z<|za (q5 Z Z)<|aj Z<|zq (s:=5) Z (fun c1=>?_) (fun c1=>?_)
 ·refine z8 Z Z c1<|aa Z<|z8 Z Z c1<|ax Z Z<|aw Z c1 Z<|ab Z<|z6<|zi<|zn (x:=.bool _) Z ?_
  simp_all[rK]<;>omega
 ·refine z7 Z Z c1<|z7 Z Z c1<|ay Z c1 Z<|ab Z<|z6<|zi<|zn (x:=.bool _) Z ?_
  simp_all[rK]<;>omega
set_option maxHeartbeats 4000000 in
theorem xd:aM prog E 201 [] (.agg (gI.flatMap rL)):=by
 refine zp func201 Z (by decide) Z<|ai<|y6 (cs:=[.str ⟨#[]⟩,.str ⟨#[]⟩,.str ⟨#[]⟩,.str ⟨#[]⟩,.str ⟨#[]⟩,.str ⟨#[]⟩,.str ⟨#[]⟩,.str ⟨#[]⟩,.str ⟨#[]⟩,.str ⟨#[]⟩,.str ⟨#[]⟩,.str ⟨#[]⟩,.str ⟨#[]⟩,.str ⟨#[]⟩,.str ⟨#[]⟩,.str ⟨#[]⟩,.str ⟨#[]⟩,.str ⟨#[]⟩,.str ⟨#[]⟩,.str ⟨#[]⟩,.str ⟨#[]⟩,.str ⟨#[]⟩,.str ⟨#[]⟩,.str ⟨#[]⟩,.str ⟨#[]⟩,.str ⟨#[]⟩,.str ⟨#[]⟩,.str ⟨#[]⟩,.str ⟨#[]⟩,.str ⟨#[]⟩,.str ⟨#[]⟩,.str ⟨#[]⟩,.str ⟨#[]⟩,.str ⟨#[]⟩,.str ⟨#[]⟩,.str ⟨#[]⟩,.str ⟨#[]⟩,.str ⟨#[]⟩,.str ⟨#[]⟩,.str ⟨#[]⟩,.str ⟨#[]⟩,.str ⟨#[]⟩,.str ⟨#[]⟩,.str ⟨#[]⟩,.str ⟨#[]⟩,.str ⟨#[]⟩,.str ⟨#[]⟩,.str ⟨#[]⟩,.str ⟨#[]⟩,.str ⟨#[]⟩,.str ⟨#[]⟩,.str ⟨#[]⟩,.str ⟨#[]⟩,.str ⟨#[]⟩,.str ⟨#[]⟩,.str ⟨#[]⟩,.str ⟨#[]⟩,.str ⟨#[]⟩,.str ⟨#[]⟩,.str ⟨#[]⟩,.str ⟨#[]⟩,.str ⟨#[]⟩,.str ⟨#[]⟩,.str ⟨#[]⟩,.str ⟨#[]⟩,.str ⟨#[]⟩,.str ⟨#[]⟩,.str ⟨#[]⟩,.str ⟨#[]⟩,.str ⟨#[]⟩,.str ⟨#[]⟩,.str ⟨#[]⟩,.str ⟨#[]⟩,.str ⟨#[]⟩,.str ⟨#[]⟩,.str ⟨#[]⟩,.str ⟨#[]⟩,.str ⟨#[]⟩,.str ⟨#[]⟩,.str ⟨#[]⟩,.str ⟨#[]⟩]) zeroValue275 Z Z<|fun i0=>z6<|ai<|za (y4 (cps:=[(0,[_]),(1,[_]),(2,[_])]) (rs:=[_,_,_]) dX Z Z Z)<|za (y4 (cps:=[(0,[_]),(1,[_]),(2,[_])]) (rs:=[_,_,_]) dX Z Z Z)<|za (y4 (cps:=[(0,[_]),(1,[_]),(2,[_])]) (rs:=[_,_,_]) dX Z Z Z)<|za (y4 (cps:=[(0,[_]),(1,[_]),(2,[_])]) (rs:=[_,_,_]) dX Z Z Z)<|za (y4 (cps:=[(0,[_]),(1,[_]),(2,[_])]) (rs:=[_,_,_]) dX Z Z Z)<|za (y4 (cps:=[(0,[_]),(1,[_]),(2,[_])]) (rs:=[_,_,_]) dX Z Z Z)<|za (y4 (cps:=[(0,[_]),(1,[_]),(2,[_])]) (rs:=[_,_,_]) dX Z Z Z)<|za (y4 (cps:=[(0,[_]),(1,[_]),(2,[_])]) (rs:=[_,_,_]) dX Z Z Z)<|za (y4 (cps:=[(0,[_]),(1,[_]),(2,[_])]) (rs:=[_,_,_]) dX Z Z Z)<|za (y4 (cps:=[(0,[_]),(1,[_]),(2,[_])]) (rs:=[_,_,_]) dX Z Z Z)<|za (y4 (cps:=[(0,[_]),(1,[_]),(2,[_])]) (rs:=[_,_,_]) dX Z Z Z)<|za (y4 (cps:=[(0,[_]),(1,[_]),(2,[_])]) (rs:=[_,_,_]) dX Z Z Z)<|za (y4 (cps:=[(0,[_]),(1,[_]),(2,[_])]) (rs:=[_,_,_]) dX Z Z Z)<|za (y4 (cps:=[(0,[_]),(1,[_]),(2,[_])]) (rs:=[_,_,_]) dX Z Z Z)<|za (y4 (cps:=[(0,[_]),(1,[_]),(2,[_])]) (rs:=[_,_,_]) dX Z Z Z)<|za (y4 (cps:=[(0,[_]),(1,[_]),(2,[_])]) (rs:=[_,_,_]) dX Z Z Z)<|za (y4 (cps:=[(0,[_]),(1,[_]),(2,[_])]) (rs:=[_,_,_]) dX Z Z Z)<|za (y4 (cps:=[(0,[_]),(1,[_]),(2,[_])]) (rs:=[_,_,_]) dX Z Z Z)<|za (y4 (cps:=[(0,[_]),(1,[_]),(2,[_])]) (rs:=[_,_,_]) dX Z Z Z)<|za (y4 (cps:=[(0,[_]),(1,[_]),(2,[_])]) (rs:=[_,_,_]) dX Z Z Z)<|za (y4 (cps:=[(0,[_]),(1,[_]),(2,[_])]) (rs:=[_,_,_]) dX Z Z Z)<|za (y4 (cps:=[(0,[_]),(1,[_]),(2,[_])]) (rs:=[_,_,_]) dX Z Z Z)<|za (y4 (cps:=[(0,[_]),(1,[_]),(2,[_])]) (rs:=[_,_,_]) dX Z Z Z)<|za (y4 (cps:=[(0,[_]),(1,[_]),(2,[_])]) (rs:=[_,_,_]) dX Z Z Z)<|za (y4 (cps:=[(0,[_]),(1,[_]),(2,[_])]) (rs:=[_,_,_]) dX Z Z Z)<|za (y4 (cps:=[(0,[_]),(1,[_]),(2,[_])]) (rs:=[_,_,_]) dX Z Z Z)<|za (y4 (cps:=[(0,[_]),(1,[_]),(2,[_])]) (rs:=[_,_,_]) dX Z Z Z)<|za (Gv.buildAF (xs:=[[_,_,_],[_,_,_],[_,_,_],[_,_,_],[_,_,_],[_,_,_],[_,_,_],[_,_,_],[_,_,_],[_,_,_],[_,_,_],[_,_,_],[_,_,_],[_,_,_],[_,_,_],[_,_,_],[_,_,_],[_,_,_],[_,_,_],[_,_,_],[_,_,_],[_,_,_],[_,_,_],[_,_,_],[_,_,_],[_,_,_],[_,_,_]]) HI Z Z Z Z)<|y1 sizeOf275 Z Z Z Z Z Z .head Z<|z6<|zi<|dZ.c1 Z ⟨_,.head⟩ isAgg275 sizeOf275 Z ?_
 rfl
theorem uN {op:Int} (h:rK op=false):bW op=(⟨#[]⟩,⟨#[]⟩,⟨#[]⟩):=by
 unfold rK at h
 unfold bW
 split
 ·rename_i h0
  have:¬op<27:=by simpa [h0] using h
  rw[List.getElem?_eq_none (by show 27≤_;omega)];rfl
 ·rfl
theorem EM {op:Int} (h:rK op=true):∃j:Nat,op=(j:Int)∧j<27∧((gI.flatMap rL).drop (j*3)).take 3=rL (bW op):=by
 unfold rK at h
 simp at h
 obtain ⟨j,rfl⟩:∃j:Nat,op=j:=⟨op.toNat,by omega⟩
 have hj:j<27:=by omega
 refine ⟨j,Z,hj,yU (enc:=rL) (k:=3) (fun _=>Z) _ _ ?_⟩
 unfold bW
 rw[if_pos h.1,Int.toNat_natCast,qt (show j<gI.length from hj)];rfl
theorem tk (op:Int):aM prog E 183 [.int .i64 op] (.agg (rL (bW op))):=by
 refine zp func183 Z (by decide) Z<|ai<|y6 (cs:=[.str ⟨#[]⟩,.str ⟨#[]⟩,.str ⟨#[]⟩]) zeroValue250 Z Z<|fun i2=>z6<|zd<|ai<|aa Z<|zg (EL _) Z<|aD Z<|z6<|zy Z (fun c=>?_) (fun c=>?_)
 ·have c:rK op=false:=by simpa using c
  rw[uN c]
  refine ai<|za (y4 (cps:=[]) (rs:=[.str ⟨#[]⟩,.str ⟨#[]⟩,.str ⟨#[]⟩]) dX Z Z Z)<|y1 sizeOf250 Z Z Z Z Z Z .head Z<|z6<|zi<|dZ.c1 Z ⟨_,.head⟩ isAgg250 sizeOf250 Z ?_
  rfl
 ·have c:rK op=true:=by simpa using c
  obtain ⟨j,hj1,hj2,hj3⟩:=EM c
  refine zh<|ai<|zg (xd) Z<|aa Z<|za (Gv.indexA underlying275 isAgg250 sizeOf250 Z Z hj1 hj2 hj3)<|y1 sizeOf250 Z Z Z Z Z Z .head Z<|z6<|zi<|dZ.c1 Z ⟨_,.head⟩ isAgg250 sizeOf250 Z ?_
  rfl
theorem AY (op:Int):aM prog E 181 [.int .i64 op] (.str (bW op).1):=by
 refine zp func181 Z (by decide) Z<|ai<|za (qi (v:=.str _) Z)<|z6<|ai<|aa Z<|zg (tk _) Z<|za (Gv.field1 (v:=.str _) underlying250 Z Yg Z Z)<|za (qi (v:=.str _) Z)<|z6<|zi<|zn (x:=.str _) Z ?_
 rfl
def pt (op:Int):Bool:=decide (op=0)||decide (op=25)
theorem gk (op:Int):aM prog E 182 [.int .i64 op] (.bool (pt op)):=by
 refine zp func182 Z (by decide) Z<|ai<|ab Z<|z6<|ai<|aa Z<|ao Z Z<|aj Z<|zq (s:=5) Z (fun c2=>?_) (fun c2=>?_)
 ·refine z7 Z Z c2<|z7 Z Z c2<|aw Z c2 Z<|ab Z<|z6<|zi<|zn (x:=.bool _) Z ?_
  simp_all[pt]
 ·refine z8 Z Z c2<|aa Z<|z8 Z Z c2<|ao Z Z<|ay Z c2 Z<|ab Z<|z6<|zi<|zn (x:=.bool _) Z ?_
  simp_all[pt]
def em (c:Int):Int:=if c=98 then 1 else if c=97 then 2 else 0
theorem pu (c:Int):aM prog E 184 [.int .i32 c] (.int .i64 (em c)):=by
 refine zp func184 Z (by decide) Z<|ai<|ak Z<|z6<|zd<|ai<|aa Z<|z6<|zk<|ai<|ao Z Z<|ab Z<|z6<|zy Z (fun c3=>?_) (fun c3=>?_)
 ·refine ai<|ak Z<|z6<|zi<|zn (x:=.int _ _) Z ?_
  simp_all[em]
 ·refine ai<|ao Z Z<|ab Z<|z6<|zy Z (fun c4=>?_) (fun c4=>?_)
  ·refine ai<|ak Z<|z6<|zi<|zn (x:=.int _ _) Z ?_
   simp_all[em]
  ·refine zh<|ai<|ak Z<|z6<|zi<|zn (x:=.int _ _) Z ?_
   simp_all[em]
theorem CI:∀r∈gI,(∀b∈r.2.1.data.toList,b<128)∧(∀b∈r.2.2.data.toList,b<128):=by decide
theorem pv (op:Int):bW op=(⟨#[]⟩,⟨#[]⟩,⟨#[]⟩)∨bW op∈gI:=by
 unfold bW
 split
 ·cases h:gI[op.toNat]? with
  |none=>exact .inl rfl
  |some r=>exact .inr (w4 h)
 ·exact .inl rfl
theorem pw (op:Int):(∀b∈(bW op).2.1.data.toList,b<128)∧(∀b∈(bW op).2.2.data.toList,b<128):=by
 rcases pv op with h|h
 ·rw[h];simp
 ·exact CI _ h
def bb (op:Int):List Int:=(bW op).2.1.data.toList.map fun b=>em b.toNat
def ff (op:Int):Int:=((bW op).2.2.data.toList.head?.map fun b=>em b.toNat).getD 0
def cS (op:Int):Bool:=!(bW op).2.2.data.toList.isEmpty
end Go.Proofs.YtdilpodccjlkgaaGreatDoor
namespace Go.Proofs.YtdilpodccjlkgaaGreatDoor
open Go.Proofs.Tryz
open Go.Proofs
theorem EN:df prog 218 59 1 1 [.int .i64 0]:=⟨_,underlying218,X2,zeroValue59,by decide,by decide,by kernel_rfl⟩
variable {E:World}
set_option maxRecDepth 20000
structure uO where
 name:ByteArray
 ty:Int
deriving DecidableEq
structure dF where
 dst:Int
 args:List Int
 from_:List Int
deriving DecidableEq
structure aF where
 op:Int
 dst:Int
 args:List Int
 num:Int
deriving DecidableEq
structure fk where
 kind:Int
 var:Int
 to0:Int
 to1:Int
deriving DecidableEq
structure aX where
 name:ByteArray
 phis:List dF
 insts:List aF
 term:fk
deriving DecidableEq
structure ac where
 vars:List uO
 params:List Int
 blocks:List aX
deriving DecidableEq
def da (x:Int):List AV:=[.int .i64 x]
def gD (v:uO):List AV:=[.str v.name,.int .i64 v.ty]
def fg (p:dF):List AV:=[.int .i64 p.dst,.fro 1 (p.args.map da),.fro 1 (p.from_.map da)]
def bF (x:aF):List AV:=[.int .i64 x.op,.int .i64 x.dst,.fro 1 (x.args.map da),.int .i64 x.num]
def oP (t:fk):List AV:=[.int .i64 t.kind,.int .i64 t.var,.int .i64 t.to0,.int .i64 t.to1]
def dk (b:aX):List AV:=[.str b.name,.fro 3 (b.phis.map fg),.fro 4 (b.insts.map bF),.int .i64 b.term.kind,.int .i64 b.term.var,.int .i64 b.term.to0,.int .i64 b.term.to1]
def bD (f:ac):List AV:=[.fro 2 (f.vars.map gD),.fro 1 (f.params.map da),.fro 7 (f.blocks.map dk)]
theorem py (op:Int):aM prog E 149 [.int .i64 op] (.fro 1 ((bb op).map da)):=by
 obtain ⟨hasc,_⟩:=pw op
 have hl:(bb op).length=(bW op).2.1.size:=by unfold bb;rw[w1];exact Array.length_toList
 have hlen:(bb op).length≤3:=by
  rcases pv op with h|h
  ·unfold bb;rw[h];decide
  ·have:∀r∈gI,r.2.1.data.toList.length≤3:=by decide
   have:=this _ h
   unfold bb;simpa using this
 refine zp func149 Z (by decide) Z<|ai<|za (jK Z)<|z6<|ai<|za (jK Z)<|z6<|gm (t:=3) (k:=1) (T:=59) Z<|fun i3=>zd<|ai<|aa Z<|zg (tk _) Z<|za (Gv.field1 (v:=.str _) underlying250 Z Yg Z Z)<|az.rangeT Zs Z<|fun i9=>z6<|zk<|y7 (γ:=Nat × Nat) [9] (fun g=>[(3,.own g.2 g.1)]) (fun g=>[(i9,.iter (bW op).2.1 g.1),(g.2,.grow 1 59 (((bb op).take g.1).map da).flatten)]) (fun g=>g.1≤(bb op).length) (fun g=>(bb op).length - g.1) (0,i3) aK aH (qw _) ?_
 rintro ⟨p,i⟩ hp
 try dsimp only at *
 try simp only at hp
 by_cases hlt:p<(bb op).length
 ·have hb:p<(bW op).2.1.data.toList.length:=by rw[hl] at hlt;exact hlt
  have hg:(bW op).2.1.data[p]?=some (bW op).2.1.data.toList[p]:=by rw[Array.getElem_toList];exact Array.getElem?_eq_getElem hb
  refine ai<|az.nextA Z hg (hasc _ (qx hb)) .head<|za (jO Z Z)<|z6<|zd<|yu Z Z ?_
  have ht:(bb op).take (p+1)=(bb op).take p++[em ((bW op).2.1.data.toList[p]).toNat]:=by
   rw[qu hlt]
   have:(bb op)[p]=em ((bW op).2.1.data.toList[p]).toNat:=List.getElem_map _
   rw[this]
  refine zh<|zk<|ai<|za (jL Z Z)<|ak Z<|z6<|aT<|za (gQ Z)<|aa Z<|zg (pu _) Z<|y3 (rows:=[[_]]) EN Z Z Z Z Z<|yq (k:=1) underlying218 type59 Z Z Z Z Z (fun _=>.t1) (by rw[mB (k:=1) (fun _=>rfl),w7,Nat.min_eq_left hp]) (by decide) Z (by show (_+_)*8≤_;simp<;>omega) (by simp<;>omega)<|fun i17=>za (eu Z)<|z6 ?_
  exact ⟨(p+1,i17),aK,aK,⟨_,(.refl _),by rw[←ln ht];rfl⟩,hlt,by simp only;omega⟩
 ·refine ai<|az.nextTover Z .head (by rw[←hl];exact hlt)<|za (jO Z Z)<|z6<|zd<|yg Z Z ?_
  have hkn:p=(bb op).length:=by omega
  subst hkn
  rw[qy]
  refine y5<|ai<|za (gQ Z)<|za (eu Z)<|z6<|zi ?_
  repeat (first|refine gO ?_|refine fA ?_)
  refine y8 (aS.know (t:=2) (rows:=(bb op).map da) Z .t1 (by first|(intro r hr;obtain ⟨x,_,rfl⟩:=List.mem_map.1 hr;rfl)|simp[da,gD,fg,bF,dk]) (by decide) (by simp))<|zn (x:=.fro _ _) Z ?_
  rfl
theorem pz (op:Int):aM prog E 150 [.int .i64 op] (.tup [.int .i64 (ff op),.bool (cS op)]):=by
 obtain ⟨_,hasc⟩:=pw op
 refine zp func150 Z (by decide) Z<|ai<|ak Z<|ab Z<|z6<|zd<|ai<|aa Z<|zg (tk _) Z<|za (Gv.field1 (v:=.str _) underlying250 Z Yg Z Z)<|az.rangeT Zs Z<|fun i9=>z6<|zk<|y7 (γ:=Unit) [9] (fun g=>[]) (fun g=>[(i9,.iter (bW op).2.2 0)]) (fun g=>True) (fun g=>0) () trivial aH (trivial) ?_
 rintro _ _
 by_cases hlt:∃c0 tl,(bW op).2.2.data.toList=c0::tl
 ·obtain ⟨c0,tl,hk⟩:=hlt
  have hg:(bW op).2.2.data[0]?=some c0:=by rw[←Array.getElem?_toList,hk];rfl
  refine ai<|az.nextA Z hg (hasc _ (by rw[hk];exact .head _)) .head<|za (jO Z Z)<|z6<|zd<|yu Z Z<|zh<|zk<|ai<|za (jL Z Z)<|ak Z<|z6<|ai<|aa Z<|zg (pu _) Z<|ak Z<|ab Z<|z6<|zi<|qh (x:=.int _ _) (y:=.bool _) Z Z ?_
  unfold ff cS;rw[hk];rfl
 ·have hk:(bW op).2.2.data.toList=[]:=by
   cases h:(bW op).2.2.data.toList with
   |nil=>rfl
   |cons x l=>exact absurd ⟨x,l,h⟩ hlt
  refine ai<|az.nextTover Z .head (by show ¬0<(bW op).2.2.data.size;rw[←Array.length_toList,hk];decide)<|za (jO Z Z)<|z6<|zd<|yg Z Z<|y5<|ai<|ak Z<|ab Z<|z6<|zi<|qh (x:=.int _ _) (y:=.bool _) Z Z ?_
  unfold ff cS;rw[hk];rfl
def bd (f:ac) (v:Int):Bool:=decide (0≤v)&&decide (v<f.vars.length)
def eN (f:ac) (b:Int):Bool:=decide (0≤b)&&decide (b<f.blocks.length)
theorem kQ (f:ac) (v:Int):aM prog E 177 [.agg (bD f),.int .i64 v] (.bool (bd f v)):=by
 refine zp func177 Z (by decide) Z<|ai<|y9 (cs:=_) Z Z Z<|ab Z<|z6<|ai<|aa Z<|za (q5 Z Z)<|aj Z<|zq (s:=7) Z (fun c1=>?_) (fun c1=>?_)
 ·refine z8 Z Z c1<|aa Z<|z8 Z Z c1<|au jg Z Yc Z Z<|z8 Z Z c1<|aI Yn Z<|z8 Z Z c1<|ap Z9 Z<|z8 Z Z c1<|ax Z Z<|aw Z c1 Z<|ab Z<|z6<|zi<|zn (x:=.bool _) Z ?_
  simp_all[bd]<;>omega
 ·refine z7 Z Z c1<|z7 Z Z c1<|z7 Z Z c1<|z7 Z Z c1<|z7 Z Z c1<|ay Z c1 Z<|ab Z<|z6<|zi<|zn (x:=.bool _) Z ?_
  simp_all[bd]<;>omega
theorem oQ (f:ac) (v:Int):aM prog E 180 [.agg (bD f),.int .i64 v] (.bool (eN f v)):=by
 refine zp func180 Z (by decide) Z<|ai<|y9 (cs:=_) Z Z Z<|ab Z<|z6<|ai<|aa Z<|za (q5 Z Z)<|aj Z<|zq (s:=7) Z (fun c2=>?_) (fun c2=>?_)
 ·refine z8 Z Z c2<|aa Z<|z8 Z Z c2<|au jg Z Z8 Z Z<|z8 Z Z c2<|aI Zh Z<|z8 Z Z c2<|ap ju Z<|z8 Z Z c2<|ax Z Z<|aw Z c2 Z<|ab Z<|z6<|zi<|zn (x:=.bool _) Z ?_
  simp_all[eN]<;>omega
 ·refine z7 Z Z c2<|z7 Z Z c2<|z7 Z Z c2<|z7 Z Z c2<|z7 Z Z c2<|ay Z c2 Z<|ab Z<|z6<|zi<|zn (x:=.bool _) Z ?_
  simp_all[eN]<;>omega
def cE {α:Type} (p:α→Bool):List α→Nat→Int
 |[],_=>-1
 |x::xs,k=>if p x then k else cE p xs (k+1)
theorem eY {α:Type} (p:α→Bool):∀(xs:List α) (k:Nat),decide (0≤cE p xs k)=xs.any p
 |[],k=>rfl
 |x::xs,k=>by
  unfold cE
  rw[List.any_cons]
  split
  ·rename_i h;rw[h];simp
  ·rename_i h;simp[h,eY p xs (k+1)]
theorem bE {α:Type} (p:α→Bool):∀(xs:List α) (k:Nat),k≤xs.length→(xs.take k).all (fun x=>!p x)=true→cE p xs 0=cE p (xs.drop k) k
 |_,0,_,_=>rfl
 |xs,k+1,h,hall=>by
  rw[qu (by omega),List.all_append] at hall
  simp only[wa,List.all_cons,List.all_nil,Bool.and_true] at hall
  rw[bE p xs k (by omega) hall.1,List.drop_eq_getElem_cons (by omega)]
  rw[cE]
  rw[if_neg (by simpa using hall.2)]
theorem oy {p:Int→Bool} {fn:FuncId} {c:List AV} (xs:List Int) (hl:xs.length≤281474976710656) (hp:∀x,aM prog E fn ([.int .i64 x]++c) (.bool (p x))) :
  aM prog E 162 [.fro 1 (xs.map da),.fn fn [] c] (.int .i64 (cE p xs 0)):=by
 refine zp func162 Z (by decide) Z<|ai<|ak Z<|z6<|zd<|ai<|bc Z<|ap wy Z<|aa Z<|z6<|zk<|y7 (γ:=Nat) [0,1,7] (fun k=>[(8,.int .i64 k)]) (fun k=>[]) (fun k=>k≤xs.length∧(xs.take k).all (fun x=>!p x)) (fun k=>xs.length - k) 0 aK aH (⟨qw _,Z⟩) ?_
 rintro k ⟨hk,hall⟩
 refine ai<|ax Z Z<|z6<|zd<|zt Z (fun ck=>?_) (fun ck=>?_)
 ·have hk2:k<xs.length:=by omega
  refine zh<|zd<|zk<|ai<|aa Z<|ak Z<|z6<|ai<|za (yw (v:=.fn _ _ _) Z)<|bc Z<|aa Z<|za (qc wy wz Z Z Z (qt (by omega)))<|aA j6 Z<|az.callVP Z (hp _) Z<|z6<|zy Z (fun cp=>?_) (fun cp=>?_)
  ·refine ai<|aa Z<|ak Z<|z6<|zi<|zn (x:=.int _ _) Z ?_
   rw[bE p xs k hk hall,List.drop_eq_getElem_cons hk2,cE,if_pos cp]
  ·refine zh<|aT<|aC Z Z<|aa Z<|z6 ?_
   exact ⟨k+1,de,aK,aH,⟨hk2,by rw[qu hk2,List.all_append,hall];simp[cp]⟩,by omega⟩
 ·have hkn:k=xs.length:=by omega
  refine y5<|ai<|ak Z<|z6<|zi<|zn (x:=.int _ _) Z ?_
  rw[bE p xs k hk hall,hkn,List.drop_length,cE]
theorem gX {p:Int→Bool} {fn:FuncId} {c:List AV} (xs:List Int) (hl:xs.length≤281474976710656) (hp:∀x,aM prog E fn ([.int .i64 x]++c) (.bool (p x))) :
  aM prog E 131 [.fro 1 (xs.map da),.fn fn [] c] (.bool (xs.any p)):=by
 refine zp func131 Z (by decide) Z<|ai<|ab Z<|z6<|ai<|bc Z<|za (yw (v:=.fn _ _ _) Z)<|zg (oy xs hl hp) Z<|za (q5 Z Z)<|ab Z<|z6<|zi<|zn (x:=.bool _) Z ?_
 rw[eY]
theorem xe (f:ac) (v:Int):aM prog E 199 ([.int .i64 v]++[.pf (bD f)]) (.bool (!bd f v)):=by
 refine zp func199 Z (by decide) Z<|ai<|ab Z<|z6<|ai<|ae jv jj Z Z<|aa Z<|zg (kQ _ _) Z<|aD Z<|ab Z<|z6<|zi<|zn (x:=.bool _) Z ?_
 rfl
theorem sr (f:ac) (l:List Int) (hl:l.length≤281474976710656):aM prog E 178 [.agg (bD f),.fro 1 (l.map da)] (.bool (l.all (bd f))):=by
 refine zp func178 Z (by decide) Z<|ai<|y9 (cs:=_) Z Z Z<|ab Z<|z6<|ai<|bc Z<|za (Gv.func Z Z)<|zg (gX l hl (xe f)) Z<|aD Z<|ab Z<|z6<|zi<|zn (x:=.bool _) Z ?_
 rw[List.any_eq_not_all_not];simp
end Go.Proofs.YtdilpodccjlkgaaGreatDoor
namespace Go.Proofs.YtdilpodccjlkgaaGreatDoor
open Go.Proofs.Tryz
open Go.Proofs
variable {E:World}
set_option maxRecDepth 20000
def pA {α:Type} (l:List α):Prop:=l.length≤140737488355328
def zD (p:dF):Prop:=pA p.args∧pA p.from_
def HJ (b:aX):Prop:=pA b.phis∧pA b.insts∧(∀p∈b.phis,zD p)∧(∀x∈b.insts,pA x.args)
def tm (f:ac):Prop:=pA f.vars∧pA f.params∧pA f.blocks∧∀b∈f.blocks,HJ b
theorem pA.lt {α:Type} {l:List α} (h:pA l):l.length≤140737488355328:=h
theorem jb {x y:Bool} (h:x=y):AV.bool x=AV.bool y:=congrArg AV.bool h
theorem Gz (k:Nat):∀I v,bp I (.raw (.slice none 0 0)) v→bp I (.fro k []) v:=fun _ _ h=>⟨none,0,0,h,rfl,Nat.le_refl _,fun _=>rfl,trivial⟩
theorem GA (a b c d:Int) (w:World) (m:Nat):(Op.equalIn (m+2) 47 (.agg [.int .i64 a,.int .i64 b].toArray) (.agg [.int .i64 c,.int .i64 d].toArray)).run prog w=.ok (decide (a=c∧b=d)) w:=by
 rw[Op.equalIn]
 simp only[Sem.run_bind,run_underlying Z1,Result.andThen_ok]
 simp only[Std.Legacy.Range.forIn_eq_forIn_range',Std.Legacy.Range.size,Nat.sub_zero,Nat.add_sub_cancel,Nat.div_one,List.range'_succ,List.range'_zero,List.forIn_cons,List.forIn_nil]
 simp[part,j6,wz,run_equalIn_int,Zy]
 by_cases h1:a=c<;>by_cases h2:b=d<;>simp[h1,h2]
theorem nV (xs ys:List Int) (hl:pA xs):aM prog E 155 [.fro 1 (xs.map da),.fro 1 (ys.map da)] (.bool (decide (xs=ys))):=by
 have hl:=hl.lt
 refine zp func155 Z (by decide) Z<|ai<|ab Z<|z6<|zd<|ai<|bc Z<|ap wy Z<|bc Z<|ap wy Z<|aO Z Z<|z6<|zy Z (fun c0=>?_) (fun c0=>?_)
 ·have h:¬xs=ys:=fun e=>by subst e;simp at c0
  refine ai<|ab Z<|z6<|zi<|zn (x:=.bool _) Z ?_
  rw[w9 h]
 ·have hl2:xs.length=ys.length:=by simp at c0;omega
  refine zh<|zd<|ai<|bc Z<|ap wy Z<|aa Z<|z6<|zk<|y7 (γ:=Nat) [0,1,12] (fun k=>[(13,.int .i64 k)]) (fun k=>[]) (fun k=>k≤xs.length∧xs.take k=ys.take k) (fun k=>xs.length - k) 0 aK aH (⟨qw _,Z⟩) ?_
  rintro k ⟨hk,he⟩
  refine ai<|ax Z Z<|z6<|zd<|zt Z (fun ck=>?_) (fun ck=>?_)
  ·have hk2:k<xs.length:=by omega
   have hk3:k<ys.length:=by omega
   refine zh<|zd<|zk<|ai<|aa Z<|ak Z<|z6<|zd<|zr (fun j=>false) (by kernel_rfl) Z (zj (.rest _))<|ad 0 Z (wF Z)<|ad 1 Z (cD Z)<|ad 2 Z (qc wy wz Z Z Z (qt (by omega)))<|ad 3 Z (cR j6 Z)<|ad 4 Z (wF Z)<|ad 5 Z (cD Z)<|ad 6 Z (qc wy wz Z Z Z (qt (by omega)))<|ad 7 Z (cR j6 Z)<|ad 8 Z (Gv.neqI Z Z)<|bJ<|zy Z (fun cd=>?_) (fun cd=>?_)
   ·refine ai<|ab Z<|z6<|zi<|zn (x:=.bool _) Z ?_
    rw[w9 (HB hk2 hk3 (by simpa using cd))]
   ·refine zh<|aT<|aC Z Z<|aa Z<|z6 ?_
    exact ⟨k+1,de,aK,aH,⟨hk2,AF hk2 hk3 he (by simpa using cd)⟩,by omega⟩
  ·refine y5<|ai<|ab Z<|z6<|zi<|zn (x:=.bool _) Z ?_
   rw[w8 (AG hl2 (by omega) he)]
end Go.Proofs.YtdilpodccjlkgaaGreatDoor
namespace Go.Proofs.YtdilpodccjlkgaaGreatDoor
open Go.Proofs.Tryz
open Go.Proofs
variable {E:World}
set_option maxRecDepth 20000
theorem oz {p:Int→Bool} {fn:FuncId} {c:List AV} (xs:List Int) (hl:xs.length≤281474976710656) (hp:∀x∈xs,aM prog E fn ([.int .i64 x]++c) (.bool (p x))) :
  aM prog E 162 [.fro 1 (xs.map da),.fn fn [] c] (.int .i64 (cE p xs 0)):=by
 refine zp func162 Z (by decide) Z<|ai<|ak Z<|z6<|zd<|ai<|bc Z<|ap wy Z<|aa Z<|z6<|zk<|y7 (γ:=Nat) [0,1,7] (fun k=>[(8,.int .i64 k)]) (fun k=>[]) (fun k=>k≤xs.length∧(xs.take k).all (fun x=>!p x)) (fun k=>xs.length - k) 0 aK aH (⟨qw _,Z⟩) ?_
 rintro k ⟨hk,hall⟩
 refine ai<|ax Z Z<|z6<|zd<|zt Z (fun ck=>?_) (fun ck=>?_)
 ·have hk2:k<xs.length:=by omega
  refine zh<|zd<|zk<|ai<|aa Z<|ak Z<|z6<|ai<|za (yw (v:=.fn _ _ _) Z)<|bc Z<|aa Z<|za (qc wy wz Z Z Z (qt (by omega)))<|aA j6 Z<|az.callVP Z (hp _ (qx hk2)) Z<|z6<|zy Z (fun cp=>?_) (fun cp=>?_)
  ·refine ai<|aa Z<|ak Z<|z6<|zi<|zn (x:=.int _ _) Z ?_
   rw[bE p xs k hk hall,List.drop_eq_getElem_cons hk2,cE,if_pos cp]
  ·refine zh<|aT<|aC Z Z<|aa Z<|z6 ?_
   exact ⟨k+1,de,aK,aH,⟨hk2,by rw[qu hk2,List.all_append,hall];simp[cp]⟩,by omega⟩
 ·have hkn:k=xs.length:=by omega
  refine y5<|ai<|ak Z<|z6<|zi<|zn (x:=.int _ _) Z ?_
  rw[bE p xs k hk hall,hkn,List.drop_length,cE]
theorem l8 {p:Int→Bool} {fn:FuncId} {c:List AV} (xs:List Int) (hl:xs.length≤281474976710656) (hp:∀x∈xs,aM prog E fn ([.int .i64 x]++c) (.bool (p x))) :
  aM prog E 131 [.fro 1 (xs.map da),.fn fn [] c] (.bool (xs.any p)):=by
 refine zp func131 Z (by decide) Z<|ai<|ab Z<|z6<|ai<|bc Z<|za (yw (v:=.fn _ _ _) Z)<|zg (oz xs hl hp) Z<|za (q5 Z Z)<|ab Z<|z6<|zi<|zn (x:=.bool _) Z ?_
 rw[eY]
def bf (f:ac) (v:Int):Int:=((f.vars[v.toNat]?).map (·.ty)).getD 0
theorem kR {f:ac} {v:Int} (h:bd f v=true):∃x,f.vars[v.toNat]?=some x∧v=(v.toNat:Int)∧bf f v=x.ty:=by
 unfold bd at h
 simp only[wa,wg] at h
 have hl:v.toNat<f.vars.length:=by omega
 refine ⟨f.vars[v.toNat],qt hl,by omega,?_⟩
 unfold bf;rw[qt hl];rfl
theorem fD (f:ac) (v:Int) (hv:bd f v=true):aM prog E 147 [.agg (bD f),.int .i64 v] (.int .i64 (bf f v)):=by
 obtain ⟨x,hx,hv2,hk⟩:=kR hv
 rw[hk]
 refine zp func147 Z (by decide) Z<|ai<|y9 (cs:=_) Z Z Z<|ak Z<|z6<|ai<|au jg Z Yc Z Z<|aI Yn Z<|aa Z<|za (bv v.toNat Z9 Yd Z Z hv2 hx)<|au Zm Z X2 Z Z<|aA Xg Z<|ak Z<|z6<|zi<|zn (x:=.int _ _) Z ?_
 rfl
theorem CJ (op:Int):aM prog E 148 [.int .i64 op] (.bool (decide (op=1))):=by
 refine zp func148 Z (by decide) Z<|ai<|ab Z<|z6<|ai<|aa Z<|ao Z Z<|ab Z<|z6<|zi<|zn (x:=.bool _) Z ?_
 simp_all
theorem CK:∀{l:List Int} (h:0<l.length),l.headD 0=l[0]
 |[],h=>absurd h (Nat.lt_irrefl 0)
 |_::_,_=>rfl
def dL (f:ac) (x:aF):Bool:=if x.op=1 then decide (bf f x.dst=bf f (x.args.headD 0)) else decide (x.args.map (bf f)=bb x.op)&&(!cS x.op||decide (bf f x.dst=ff x.op))
theorem iH {f:ac} {xs ts:List Int} {k:Nat} (h1:k<xs.length) (h2:k<ts.length) (h:(xs.take k).map (bf f)=ts.take k) (hk:bf f xs[k]=ts[k]):(xs.take (k+1)).map (bf f)=ts.take (k+1):=by
 rw[qu h1,qu h2,w5,h,List.map_cons,List.map_nil,hk]
theorem CL {f:ac} {xs ts:List Int} {k:Nat} (h1:k<xs.length) (h2:k<ts.length) (hk:¬bf f xs[k]=ts[k]):¬xs.map (bf f)=ts:=by
 intro e
 apply hk
 subst e
 rw[List.getElem_map]
theorem xf (f:ac) (x:aF) (ha:x.args.all (bd f)=true) (hl:x.args.length=(bb x.op).length) (hd:cS x.op=true→bd f x.dst=true) :
  aM prog E 105 [.agg (bD f),.agg (bF x)] (.bool (dL f x)):=by
 have hlen:(bb x.op).length≤3:=by
  rcases pv x.op with h|h
  ·unfold bb;rw[h];decide
  ·have:∀r∈gI,r.2.1.data.toList.length≤3:=by decide
   have:=this _ h
   unfold bb;simpa using this
 refine zp func105 Z (by decide) Z<|ai<|y9 (cs:=_) Z Z Z<|y9 (cs:=_) Z Z Z<|ab Z<|z6<|zd<|ai<|au j5 Z Z2 Z Z<|aA Z3 Z<|zg (CJ _) Z<|z6<|zt Z (fun c1=>?_) (fun c1=>?_)
 ·have e1:x.op=1:=by simpa using c1
  have hlz:0<x.args.length:=by rw[hl,e1];decide
  have hv0:bd f x.args[0]=true:=List.all_eq_true.1 ha _ (qx hlz)
  have hvd:bd f x.dst=true:=hd (by rw[e1];decide)
  refine zd<|zr (fun j=>false) (by kernel_rfl) Z (zj (.rest _))<|ad 0 Z (yx jv jj Z Z)<|ad 1 Z (bM j5 Z wz Z Z)<|ad 2 Z (cR j6 Z)<|ad 4 Z (yx jv jj Z Z)<|ad 5 Z (bM j5 Z j7 Z Z)<|ad 6 Z (fa je Z)<|ad 7 Z (bv 0 wy wz Z Z Z (qt hlz))<|ad 8 Z (cR j6 Z)<|aQ 3 Z<|zg (fD _ _ (by assumption)) Z<|z6<|aQ 9 Z<|zg (fD _ _ (by assumption)) Z<|z6<|ad 10 Z (Gv.eqlI Z Z)<|ad 11 Z (m9 Z)<|bJ<|zi<|zn (x:=.bool _) Z ?_
  exact jb (by unfold dL;rw[if_pos e1,CK hlz])
 ·have e1:¬x.op=1:=by simpa using c1
  refine zh<|zd<|ai<|au j5 Z Z2 Z Z<|aA Z3 Z<|zg (py _) Z<|ap underlying218 Z<|aa Z<|z6<|zk<|y7 (γ:=Nat) [2,3,25,26] (fun k=>[(27,.int .i64 k)]) (fun k=>[]) (fun k=>k≤(bb x.op).length∧(x.args.take k).map (bf f)=(bb x.op).take k) (fun k=>(bb x.op).length - k) 0 aK aH (⟨qw _,Z⟩) ?_
  rintro k ⟨hk,hall⟩
  refine ai<|ax Z Z<|z6<|zd<|zt Z (fun ck=>?_) (fun ck=>?_)
  ·have hk2:k<(bb x.op).length:=by simp at ck;omega
   have hk3:k<x.args.length:=by omega
   have hvk:bd f x.args[k]=true:=List.all_eq_true.1 ha _ (qx hk3)
   refine zh<|zd<|zk<|ai<|aa Z<|za (bv k underlying218 X2 Z Z Z (qt hk2))<|aA Xg Z<|ak Z<|ak Z<|z6<|zd<|zr (fun j=>false) (by kernel_rfl) Z (zj (.rest _))<|ad 0 Z (yx jv jj Z Z)<|ad 1 Z (bM j5 Z j7 Z Z)<|ad 2 Z (fa je Z)<|ad 3 Z (cD Z)<|ad 4 Z (bv k wy wz Z Z Z (qt hk3))<|ad 5 Z (cR j6 Z)<|ad 7 Z (cD Z)<|aQ 6 Z<|zg (fD _ _ (by assumption)) Z<|z6<|ad 8 Z (Gv.neqI Z Z)<|bJ<|zy Z (fun cn=>?_) (fun cn=>?_)
   ·refine ai<|ab Z<|z6<|zi<|zn (x:=.bool _) Z ?_
    exact jb (by unfold dL;rw[if_neg e1,w9 (CL hk3 hk2 (by simpa using cn))];rfl)
   ·refine zh<|aT<|aC Z Z<|aa Z<|z6 ?_
    exact ⟨k+1,gn,aK,aH,⟨hk2,iH hk3 hk2 hall (by simpa using cn)⟩,by omega⟩
  ·have hkn:k=(bb x.op).length:=by simp at ck;omega
   subst hkn
   rw[qy,←hl,qy] at hall
   refine y5<|ai<|au j5 Z Z2 Z Z<|aA Z3 Z<|zg (pz _) Z<|za (kw Z)<|za (jL Z Z)<|za (jO Z Z)<|ak Z<|ab Z<|z6<|ai<|aj Z<|aD Z<|aj Z<|zq (s:=50) Z (fun c1=>?_) (fun c1=>?_)
   ·refine z7 Z Z c1<|z7 Z Z c1<|z7 Z Z c1<|z7 Z Z c1<|z7 Z Z c1<|z7 Z Z c1<|aw Z c1 Z<|ab Z<|z6<|zi<|zn (x:=.bool _) Z ?_
    exact jb (by unfold dL;rw[if_neg e1,w8 hall];simp_all)
   ·refine z8 Z Z c1<|ae jv jj Z Z<|z8 Z Z c1<|au j5 Z wz Z Z<|z8 Z Z c1<|aA j6 Z<|z8 Z Z c1<|zg (fD f x.dst (hd (by simp_all))) Z<|z8 Z Z c1<|aa Z<|z8 Z Z c1<|ao Z Z<|ay Z c1 Z<|ab Z<|z6<|zi<|zn (x:=.bool _) Z ?_
    exact jb (by unfold dL;rw[if_neg e1,w8 hall];simp_all)
def tn (f:ac) (p:dF):Bool:=!(p.args.any fun v=>!decide (bf f v=bf f p.dst))
theorem xg (f:ac) (p:dF) (v:Int) (hv:bd f v=true) (hd:bd f p.dst=true):aM prog E 146 ([.int .i64 v]++[.pf (bD f),.pf (fg p)]) (.bool (!decide (bf f v=bf f p.dst))):=by
 refine zp func146 Z (by decide) Z<|ai<|ab Z<|z6<|zd<|zr (fun j=>false) (by kernel_rfl) Z (zj (.rest _))<|ad 0 Z (yx jv jj Z Z)<|ad 1 Z (cD Z)<|ad 3 Z (yx jv jj Z Z)<|ad 4 Z (bM Z0 Z wz Z Z)<|ad 5 Z (cR j6 Z)<|aQ 2 Z<|zg (fD _ _ (by assumption)) Z<|z6<|aQ 6 Z<|zg (fD _ _ (by assumption)) Z<|z6<|ad 7 Z (Gv.neqI Z Z)<|ad 8 Z (m9 Z)<|bJ<|zi<|zn (x:=.bool _) Z ?_
 simp_all
theorem AZ (f:ac) (p:dF) (hp:zD p) (ha:p.args.all (bd f)=true) (hd:bd f p.dst=true):aM prog E 104 [.agg (bD f),.agg (fg p)] (.bool (tn f p)):=by
 have hl1:=hp.1.lt
 refine zp func104 Z (by decide) Z<|ai<|y9 (cs:=_) Z Z Z<|y9 (cs:=_) Z Z Z<|ab Z<|z6<|ai<|au Z0 Z j7 Z Z<|aI je Z<|za (Gv.func Z Z)<|zg (l8 p.args (by omega) (fun v hv=>xg f p v (List.all_eq_true.1 ha v hv) hd)) Z<|aD Z<|ab Z<|z6<|zi<|zn (x:=.bool _) Z ?_
 rfl
def d6 (f:ac) (t:fk):Bool:=if t.kind=0 then !decide (t.to0=0) else if t.kind=1 then decide (bf f t.var=1)&&!decide (t.to0=0)&&!decide (t.to1=0) else decide (bf f t.var=0)
theorem xh (f:ac) (t:fk) (h:¬t.kind=0→bd f t.var=true):aM prog E 106 [.agg (bD f),.agg (oP t)] (.bool (d6 f t)):=by
 refine zp func106 Z (by decide) Z<|ai<|y9 (cs:=_) Z Z Z<|y9 (cs:=_) Z Z Z<|ab Z<|z6<|zd<|ai<|au jf Z Y7 Z Z<|aA Yh Z<|z6<|zk<|ai<|ao Z Z<|ab Z<|z6<|zy Z (fun c2=>?_) (fun c2=>?_)
 ·refine ai<|au jf Z Zd Z Z<|za (q3 (j:=0) Z1 wz Z Z Z (by decide) Z)<|aA j6 Z<|aO Z Z<|ab Z<|z6<|zi<|zn (x:=.bool _) Z ?_
  exact jb (by unfold d6;simp_all)
 ·refine ai<|ao Z Z<|ab Z<|z6<|zy Z (fun c3=>?_) (fun c3=>?_)
  ·refine ai<|ae jv jj Z Z<|au jf Z wz Z Z<|aA j6 Z<|zg (fD f t.var (h (by simp_all))) Z<|ao Z Z<|aj Z<|zq (s:=20) Z (fun c4=>?_) (fun c4=>?_)
   ·refine z8 Z Z c4<|au jf Z Zd Z Z<|z8 Z Z c4<|za (q3 (j:=0) Z1 wz Z Z Z (by decide) Z)<|z8 Z Z c4<|aA j6 Z<|z8 Z Z c4<|aO Z Z<|aw Z c4 Z<|aj Z<|zq (s:=26) Z (fun c5=>?_) (fun c5=>?_)
    ·refine z8 Z Z c5<|au jf Z Zd Z Z<|z8 Z Z c5<|za (q3 (j:=1) Z1 wz Z Z Z (by decide) Z)<|z8 Z Z c5<|aA j6 Z<|z8 Z Z c5<|aO Z Z<|aw Z c5 Z<|ab Z<|z6<|zi<|zn (x:=.bool _) Z ?_
     exact jb (by unfold d6;simp_all)
    ·refine z7 Z Z c5<|z7 Z Z c5<|z7 Z Z c5<|z7 Z Z c5<|ay Z c5 Z<|ab Z<|z6<|zi<|zn (x:=.bool _) Z ?_
     exact jb (by unfold d6;simp_all)
   ·refine z7 Z Z c4<|z7 Z Z c4<|z7 Z Z c4<|z7 Z Z c4<|ay Z c4 Z<|aj Z<|z7 Z Z Z<|z7 Z Z Z<|z7 Z Z Z<|z7 Z Z Z<|ay Z Z Z<|ab Z<|z6<|zi<|zn (x:=.bool _) Z ?_
    exact jb (by unfold d6;simp_all)
  ·refine zh<|ai<|ae jv jj Z Z<|au jf Z wz Z Z<|aA j6 Z<|zg (fD f t.var (h (by simp_all))) Z<|ao Z Z<|ab Z<|z6<|zi<|zn (x:=.bool _) Z ?_
   exact jb (by unfold d6;simp_all)
end Go.Proofs.YtdilpodccjlkgaaGreatDoor
namespace Go.Proofs.YtdilpodccjlkgaaGreatDoor
open Go.Proofs.Tryz
open Go.Proofs
variable {E:World}
set_option maxRecDepth 20000
theorem F8:aM prog E 204 [] (.agg (nk El)):=by
 refine zp func204 Z (by decide) Z<|ai<|y6 (cs:=[.int .i64 0,.int .i64 0]) X0 Z Z<|fun i0=>z6<|ai<|za (y4 (cps:=[(0,[_]),(1,[_])]) (rs:=[_,_]) uL Z Z Z)<|y1 Za Z Z Z Z Z Z .head Z<|z6<|zi<|dZ.c1 Z ⟨_,.head⟩ Y6 Za Z ?_
 rfl
theorem I8 (n:Int):aM prog E 216 [.int .i64 n] (.agg (nk (yY n))):=by
 refine zp func216 Z (by decide) Z<|ai<|y6 (cs:=[.int .i64 0,.int .i64 0]) X0 Z Z<|fun i2=>z6<|ai<|aa Z<|aa Z<|za (y4 (cps:=[(0,[_]),(1,[_])]) (rs:=[_,_]) uL Z Z Z)<|y1 Za Z Z Z Z Z Z .head Z<|z6<|zi<|dZ.c1 Z ⟨_,.head⟩ Y6 Za Z ?_
 rfl
theorem HK (lo hi:Int):aM prog E 221 [.int .i64 lo,.int .i64 hi] (.agg (nk (uC lo hi))):=by
 refine zp func221 Z (by decide) Z<|ai<|y6 (cs:=[.int .i64 0,.int .i64 0]) X0 Z Z<|fun i4=>z6<|zd<|ai<|aa Z<|aa Z<|aY Z Z<|z6<|zt Z (fun c=>?_) (fun c=>?_)
 ·refine ai<|zg (F8) Z<|y1 Za Z Z Z Z Z Z .head Z<|z6<|zi<|dZ.c1 Z ⟨_,.head⟩ Y6 Za Z ?_
  rw[uC,if_pos c];try rfl
 ·refine zh<|ai<|aa Z<|aa Z<|za (y4 (cps:=[(0,[_]),(1,[_])]) (rs:=[_,_]) uL Z Z Z)<|y1 Za Z Z Z Z Z Z .head Z<|z6<|zi<|dZ.c1 Z ⟨_,.head⟩ Y6 Za Z ?_
  rw[uC,if_neg c];try rfl
theorem nl (r:fI):aM prog E 189 [.agg (nk r)] (.bool (decide (r.2<r.1))):=by
 refine zp func189 Z (by decide) Z<|ai<|y9 (cs:=_) Z Z Z<|ab Z<|z6<|ai<|au Y2 Z Z5 Z Z<|aA Zx Z<|au Y2 Z Z5 Z Z<|aA Zx Z<|aY Z Z<|ab Z<|z6<|zi<|zn (x:=.bool _) Z ?_
 rfl
theorem HL (a b:fI):aM prog E 215 [.agg (nk a),.agg (nk b)] (.agg (nk (gp a b))):=by
 refine zp func215 Z (by decide) Z<|ai<|y9 (cs:=_) Z Z Z<|y9 (cs:=_) Z Z Z<|y6 (cs:=[.int .i64 0,.int .i64 0]) X0 Z Z<|fun i4=>z6<|zd<|zk<|ai<|ae Y6 Za Z Z<|zg (nl _) Z<|ab Z<|z6<|zt Z (fun c1=>?_) (fun c1=>?_)
 ·refine ai<|au Y2 Z Z5 Z Z<|aA Zx Z<|au Y2 Z Z5 Z Z<|aA Zx Z<|zg (HK _ _) Z<|y1 Za Z Z Z Z Z Z .head Z<|z6<|zi<|dZ.c1 Z ⟨_,.head⟩ Y6 Za Z ?_
  rw[gp,if_pos c1];try rfl
 ·refine ai<|ae Y6 Za Z Z<|zg (nl _) Z<|ab Z<|z6<|zt Z (fun c2=>?_) (fun c2=>?_)
  ·refine ai<|ae Y6 Za Z Z<|y1 Za Z Z Z Z Z Z .head Z<|z6<|zi<|dZ.c1 Z ⟨_,.head⟩ Y6 Za Z ?_
   rw[gp,if_neg c1,if_pos c2];try rfl
  ·refine zh<|ai<|au Y2 Z Z5 Z Z<|aA Zx Z<|au Y2 Z Z5 Z Z<|aA Zx Z<|za (Gv.minI Z Z)<|au Y2 Z Z5 Z Z<|aA Zx Z<|au Y2 Z Z5 Z Z<|aA Zx Z<|za (Gv.maxI Z Z)<|za (y4 (cps:=[(0,[_]),(1,[_])]) (rs:=[_,_]) uL Z Z Z)<|y1 Za Z Z Z Z Z Z .head Z<|z6<|zi<|dZ.c1 Z ⟨_,.head⟩ Y6 Za Z ?_
   rw[gp,if_neg c1,if_neg c2];try rfl
theorem CM (b:Bool):aM prog E 207 [.bool b] (.int .i64 (if b=true then F2 else F3)):=by
 refine zp func207 Z (by decide) Z<|ai<|ak Z<|z6<|zd<|ai<|aj Z<|z6<|zy Z (fun c1=>?_) (fun c1=>?_)
 ·refine ai<|ak Z<|z6<|zi<|zn (x:=.int _ _) Z ?_
  simp_all[F2,F3]
 ·refine zh<|ai<|ak Z<|z6<|zi<|zn (x:=.int _ _) Z ?_
  simp_all[F2,F3]
theorem F9 (op:Int):aM prog E 188 [.int .i64 op] (.bool (decide (op=2)||(decide (op=3)||decide (op=4)))):=by
 refine zp func188 Z (by decide) Z<|ai<|ab Z<|z6<|ai<|aa Z<|ao Z Z<|aj Z<|zq (s:=5) Z (fun c2=>?_) (fun c2=>?_)
 ·refine z7 Z Z c2<|z7 Z Z c2<|aw Z c2 Z<|aj Z<|z7 Z Z Z<|z7 Z Z Z<|aw Z Z Z<|ab Z<|z6<|zi<|zn (x:=.bool _) Z ?_
  exact jb (by simp_all)
 ·refine z8 Z Z c2<|aa Z<|z8 Z Z c2<|ao Z Z<|ay Z c2 Z<|aj Z<|zq (s:=9) Z (fun c3=>?_) (fun c3=>?_)
  ·refine z7 Z Z c3<|z7 Z Z c3<|aw Z c3 Z<|ab Z<|z6<|zi<|zn (x:=.bool _) Z ?_
   exact jb (by simp_all)
  ·refine z8 Z Z c3<|aa Z<|z8 Z Z c3<|ao Z Z<|ay Z c3 Z<|ab Z<|z6<|zi<|zn (x:=.bool _) Z ?_
   exact jb (by simp_all)
theorem IE {x y:Int} (hx:bB x) (hy:bB y):aM prog E 205 [.int .i64 x,.int .i64 y] (.tup [.int .i64 (IntKind.i64.wrap (x+y)),.bool (decide (dp 0 x y))]):=by
 rw[←IA hx hy]
 refine zp func205 Z (by decide) Z<|ai<|ak Z<|ab Z<|z6<|ai<|aa Z<|aa Z<|za (Gv.addW Z Z)<|ak Z<|z6<|ai<|aa Z<|aa Z<|ax Z Z<|aa Z<|ax Z Z<|za (Gv.neqB Y8 Z Z)<|aj Z<|zq (s:=16) Z (fun c4=>?_) (fun c4=>?_)
 ·refine z7 Z Z c4<|z7 Z Z c4<|z7 Z Z c4<|z7 Z Z c4<|z7 Z Z c4<|aw Z c4 Z<|ak Z<|ab Z<|z6<|zi<|qh (x:=.int _ _) (y:=.bool _) Z Z ?_
  simp_all
 ·refine z8 Z Z c4<|aa Z<|z8 Z Z c4<|ax Z Z<|z8 Z Z c4<|aa Z<|z8 Z Z c4<|ax Z Z<|z8 Z Z c4<|za (Gv.eqlB Y8 Z Z)<|ay Z c4 Z<|ak Z<|ab Z<|z6<|zi<|qh (x:=.int _ _) (y:=.bool _) Z Z ?_
  simp_all
theorem IF {x y:Int} (hx:bB x) (hy:bB y):aM prog E 208 [.int .i64 x,.int .i64 y] (.tup [.int .i64 (IntKind.i64.wrap (x - y)),.bool (decide (dp 1 x y))]):=by
 rw[←IB hx hy]
 refine zp func208 Z (by decide) Z<|ai<|ak Z<|ab Z<|z6<|ai<|aa Z<|aa Z<|za (Gv.subW Z Z)<|ak Z<|z6<|ai<|aa Z<|aa Z<|ax Z Z<|aa Z<|ax Z Z<|za (Gv.eqlB Y8 Z Z)<|aj Z<|zq (s:=16) Z (fun c5=>?_) (fun c5=>?_)
 ·refine z7 Z Z c5<|z7 Z Z c5<|z7 Z Z c5<|z7 Z Z c5<|z7 Z Z c5<|aw Z c5 Z<|ak Z<|ab Z<|z6<|zi<|qh (x:=.int _ _) (y:=.bool _) Z Z ?_
  simp_all
 ·refine z8 Z Z c5<|aa Z<|z8 Z Z c5<|ax Z Z<|z8 Z Z c5<|aa Z<|z8 Z Z c5<|ax Z Z<|z8 Z Z c5<|za (Gv.eqlB Y8 Z Z)<|ay Z c5 Z<|ak Z<|ab Z<|z6<|zi<|qh (x:=.int _ _) (y:=.bool _) Z Z ?_
  simp_all
theorem HM {x:Int} (hx:bB x):aM prog E 217 [.int .i64 x] (.int .u64 (x.natAbs:Int)):=by
 rw[←kO hx]
 refine zp func217 Z (by decide) Z<|ai<|ak Z<|z6<|zd<|ai<|aa Z<|ax Z Z<|z6<|zt Z (fun c=>?_) (fun c=>?_)
 ·refine ai<|aa Z<|za (qm Zt Zk Z)<|za (Gv.neg Z)<|ak Z<|z6<|zi<|zn (x:=.int _ _) Z ?_
  rw[if_pos c];try rfl
 ·refine zh<|ai<|aa Z<|za (qm Zt Zk Z)<|ak Z<|z6<|zi<|zn (x:=.int _ _) Z ?_
  rw[if_neg c];try rfl
end Go.Proofs.YtdilpodccjlkgaaGreatDoor
