/- Ranges of numbers: what the program's functions answer. Of int64s. -/
import Derived.Test.YtdilpodccjlkgaaGreatDoorLc
import Derived.Test.YtdilpodccjlkgaaGreatDoorLb
import Derived.Test.YtdilpodccjlkgaaGreatDoorChecked
set_option linter.unusedVariables false
set_option linter.unusedSimpArgs false
set_option linter.unusedSectionVars false
namespace Go.Proofs.YtdilpodccjlkgaaGreatDoor
open Go.Proofs.Tryz
open Go.Proofs Go.Lib Go.Shelf Go.RowKit
variable {E:World}
set_option maxRecDepth 20000
structure ny (n:Nat) (l:List fw):Prop where
 le:n≤2000
 fac:∀q∈l,xL n q∧(-bw≤q.c∧q.c≤bw)
 len:l.length≤10000
theorem pA {α:Type} {k:Nat}:∀{rows:List (List α)} {j i:Nat} {r:List α} {v:α},(∀x∈rows,x.length=k)→rows[j]?=some r→i<k→rows.flatten.set (j*k+i) v=(rows.set j (r.set i v)).flatten
 |x::rows,0,i,r,v,hk,h,hi=>by
  cases h
  rw[List.flatten_cons,Nat.zero_mul,Nat.zero_add,List.set_append_left _ _ (by rw[hk x (.head _)];exact hi)];rfl
 |x::rows,j+1,i,r,v,hk,h,hi=>by
  have h1:=hk x (.head _)
  rw[List.flatten_cons,List.set_append_right _ _ (by rw[h1,Nat.succ_mul];omega),h1,show (j+1)*k+i - k=j*k+i by rw[Nat.succ_mul];omega,pA (fun y hy=>hk y (.tail _ hy)) h hi];rfl
theorem yC {n:Nat} {b:Int}:((la n b).map fq).flatten=((List.replicate n [AV.bool false,.int .i64 0]).set b.toNat [.bool true,.int .i64 0]).flatten:=by
 unfold la
 rw[List.map_set,List.map_replicate];rfl
theorem Bi {n:Nat} {b:Int} (hb:m0 n b):(List.replicate n [AV.bool false,.int .i64 0]).flatten.set (b.toNat*2+0) (.bool true)=((la n b).map fq).flatten:=by
 unfold m0 at hb
 rw[yC,pA (r:=[AV.bool false,.int .i64 0]) (fun x hx=>by rw[(List.mem_replicate.1 hx).2];rfl) (by rw[List.getElem?_replicate,if_pos (by omega)]) (by decide)];rfl
theorem yD (n:Nat) (x y:AV):(List.replicate n [x,y]).flatten.length=n*2:=by
 induction n with
 |zero=>rfl
 |succ n ih=>rw[List.replicate_succ,List.flatten_cons,qo,ih,Nat.succ_mul];show 2+_=_;omega
theorem CT {n i:Nat} (h:i<n):i*2+0<(List.replicate n (List.map lit [Value.bool false,Value.int IntKind.i64 0])).flatten.length:=by
 have h2:(List.replicate n (List.map lit [Value.bool false,Value.int IntKind.i64 0])).flatten.length=n*2:=yD n (AV.bool false) (.int .i64 0)
 omega
theorem jC (n:Nat) (l:List fw) (y:AV) (hl:ny n l) {a b:Int} (ha:m0 n a) (hb:m0 n b):aI prog E 156 [vo n l y,.int .i64 a,.int .i64 b] (.tup [.int .i64 ((eX l n a b).getD 0),.bool (eX l n a b).isSome]):=by
 have hn:=hl.le
 have ha2:=ha
 have hb2:=hb
 unfold m0 at ha2 hb2
 have hsa:=jY (E:=E) n (.fro 3 (l.map bM)) y a
 rw[qv (show 0≤a∧a<n from ha2)] at hsa
 have hsb:=jY (E:=E) n (.fro 3 (l.map bM)) y b
 rw[qv (show 0≤b∧b<n from hb2)] at hsb
 have hfur:=fun r k h1 h2 h3=>wq (E:=E) n l y r k h1 h2 hn hl.fac hl.len h3
 unfold vo at hfur ⊢
 refine zo func156 Z (by decide) Z<|ah<|ao Z<|ab Z<|z6<|zd<|ah<|za (ep Z)<|aa Z<|zf (hsa) Z<|aD Z<|ai Z<|z8 Z Z Z<|za (ep Z)<|z8 Z Z Z<|aa Z<|z8 Z Z Z<|zf (hsb) Z<|z8 Z Z Z<|aD Z<|au Z Z Z<|z6<|ye Z Z<|zg<|ah<|za (ep Z)<|za (yf Z)<|aq Ze Z wz Z Z<|ay j6 Z<|ax.makeZ (m:=n) [.bool false,.int .i64 0] Y1 type261 Z Z Z (by decide) (by decide) Z Z (by simp) (by simp) (by show (16:Int)*_≤_;omega) (by omega)<|fun i25=>za (lj Z)<|z6<|ah<|za (gQ Z)<|aa Z<|za (Gv.idxO (j:=b.toNat) Y1 Yn Z Z (by omega) ⟨_,.head⟩ (fun h=>by have:=congrArg List.length h;simp at this;omega) (by omega))<|za (zn Yd Z Zj (by decide) Z Z)<|ax.storeGN (new:=((la n b).map fq).flatten) Zj Z Z Z Z Z .head (CT (by omega)) (Bi hb)<|z6<|zy (aX.know (t:=8) (rows:=(la n b).map fq) Z .head (by exact gU _) (by decide) (by rw[qp,nh])) ?_
 refine zd<|ah<|ao Z<|ab Z<|z6<|zj<|y8 (γ:=Nat × Bool × List (Option Int)) [0,1] (fun g=>[(9,.int .i64 g.1),(10,.bool g.2.1),(8,.fro 2 (g.2.2.map fq))]) (fun g=>[]) (fun g=>g.1≤6∧g.2.2=xG l g.1 (la n b)∧(g.2.1=false→ng l g.2.2=g.2.2)) (fun g=>6 - g.1) (0,true,la n b) dy aE (⟨ql _,Z,fun h=>by cases h⟩) ?_
 rintro ⟨k,again,r⟩ ⟨hk,hr,hag⟩
 try dsimp only at *
 refine zd<|zd<|yg (γ:=Bool) [0,1,8,9] (fun u=>[(34,.bool u)]) (fun u=>[]) (fun u=>u=(decide (k<6)&&again)) ?_ (fun _ _ h=>h) ?_
 ·refine aV<|aa Z<|aw Z Z<|ai Z<|zp (s:=32) Z (fun c1=>?_) (fun c1=>?_)
  ·refine z8 Z Z c1<|ai Z<|ar Z c1 Z<|z6 ?_
   exact ⟨_,iS,aJ,aE,by simp_all<;>omega⟩
  ·refine z7 Z Z c1<|au Z c1 Z<|z6 ?_
   exact ⟨_,iS,aJ,aE,by simp_all<;>omega⟩
 ·rintro u hu
  refine zu Z (fun cu=>?_) (fun cu=>?_)
  ·have hu2:k<6∧again=true:=by rw[hu] at cu;simpa using cu
   have hrl:r.length=n:=by rw[hr,tO,nh]
   have hsr:mH k r:=by
    have:=mH.it (fun q hq=>(hl.fac q hq).2) k 0 _ (mH.beg n b)
    rw[Nat.zero_add] at this
    rw[hr];exact this
   refine zg<|zd<|zj<|aV<|za (ep Z)<|bb Z<|zf (hfur r k (by omega) hrl hsr) Z<|za (iW Z)<|za (q4 (v:=.fro _ _) Z Z)<|za (ij Z Z)<|za (oP Z)<|ab Z<|z6<|aV<|aa Z<|aC Z Z<|ao Z<|z6 ?_
   exact ⟨(k+1,(wa l r).2,ng l r),eZ,dy,aE,⟨by omega,by rw[tQ,←hr];rfl,fun h=>by rw[(p9 l r).2 h,(p9 l r).2 h]⟩,by dsimp only;omega⟩
  ·have hfin:r=xG l 6 (la n b):=by
    rw[hu] at cu
    by_cases h6:k<6
    ·have:again=false:=by simpa [h6] using cu
     have h2:=vd (hag this) (6 - k)
     have h3:=tQ l k (6 - k) (la n b)
     rw[show k+(6 - k)=6 by omega,←hr,h2] at h3
     exact h3.symm
    ·rw[hr,show k=6 by omega]
   have hrl:r.length=n:=by rw[hr,tO,nh]
   have hlea:eX l n a b=jn r a:=by unfold eX;rw[hfin]
   rw[hlea]
   have hra:=tV hrl ha
   refine y7<|zd<|ah<|bb Z<|aa Z<|za (bx a.toNat Y1 Yn Z Z (by omega) hra)<|aq Yd Z Zj Z Z<|za (yo (c:=.bool _) Yh Z)<|aD Z<|z6<|zu Z (fun cr=>?_) (fun cr=>?_)
   ·refine ah<|ao Z<|ab Z<|z6<|zh<|qc (x:=.int _ _) (y:=.bool _) Z Z ?_
    exact (by cases h:jn r a with|none=>rfl|some m=>rw[h] at cr;cases cr)
   ·refine zg<|ah<|bb Z<|aa Z<|za (bx a.toNat Y1 Yn Z Z (by omega) hra)<|aq Yd Z Zo Z Z<|ay Zz Z<|ao Z<|ab Z<|z6<|zh<|qc (x:=.int _ _) (y:=.bool _) Z Z ?_
    exact (by cases h:jn r a with|none=>rw[h] at cr;cases cr|some m=>rfl)
theorem o6 (n:Nat) (l:List fw) (y:AV) (hl:ny n l) {a b:Int} (ha:m0 n a) (hb:m0 n b) (c:Int):aI prog E 113 [vo n l y,.int .i64 a,.int .i64 b,.int .i64 c] (.bool (p8 l n a b c)):=by
 have hle:=jC (E:=E) n l y hl ha hb
 unfold vo at hle ⊢
 refine zo func113 Z (by decide) Z<|ah<|ab Z<|z6<|ah<|za (ep Z)<|aa Z<|aa Z<|zf (hle) Z<|za (iW Z)<|za (iJ Z Z)<|za (ij Z Z)<|ao Z<|ab Z<|z6<|ah<|ai Z<|ai Z<|zp (s:=19) Z (fun c2=>?_) (fun c2=>?_)
 ·refine z8 Z Z c2<|aa Z<|z8 Z Z c2<|aa Z<|z8 Z Z c2<|za (Gv.leq Z Z)<|ar Z c2 Z<|ab Z<|z6<|zh<|zk (x:=.bool _) Z ?_
  exact congrArg AV.bool (by unfold p8;cases h:eX l n a b with|none=>simp_all|some m=>simp_all)
 ·refine z7 Z Z c2<|z7 Z Z c2<|z7 Z Z c2<|au Z c2 Z<|ab Z<|z6<|zh<|zk (x:=.bool _) Z ?_
  exact congrArg AV.bool (by unfold p8;cases h:eX l n a b with|none=>simp_all|some m=>simp_all)
end Go.Proofs.YtdilpodccjlkgaaGreatDoor
namespace Go.Proofs.YtdilpodccjlkgaaGreatDoor
open Go.Proofs.Tryz
open Go.Proofs Go.Lib Go.Shelf Go.RowKit
theorem r9:de prog 226 #[(0,1),(1,1)] [.int .i64 0,.int .i64 0]:=⟨_,_,Zq,Yi,fun w=>by kernel_rfl,rfl⟩
variable {E:World}
set_option maxRecDepth 20000
def tX (f0 f1 f2 t m pr:AV) (n:Nat) (l:List fw) (q:Int) (ps:AV):AV:=.pf [f0,f1,f2,t,m,pr,vo n l .any,.int .i64 q,ps,.any,.any]
theorem m5 {n:Nat} {l:List fw} (hl:ny n l) {a b:Int}:-6917529027641081856≤(eX l n a b).getD 0∧(eX l n a b).getD 0≤6917529027641081856:=by
 cases h:eX l n a b with
 |none=>exact ⟨by decide,by decide⟩
 |some m=>exact v8 (fun q hq=>(hl.fac q hq).2) h
theorem Bj {x:Int} (h:-6917529027641081856≤x∧x≤6917529027641081856):IntKind.i64.wrap (0 - x)=-x:=by
 rw[tT];omega
section
variable {f0 f1 f2 t m pr ps:AV} {n:Nat} {l:List fw} {q v:Int} (hl:ny n l) (hv:m0 n v) (hq:m0 n q)
include hl hv hq
theorem sb:aI prog E 117 [tX f0 f1 f2 t m pr n l q ps,.int .i64 v] (.tup [.int .i64 ((eX l n v q).getD 0),.bool (eX l n v q).isSome]):=by
 have hle:=jC (E:=E) n l .any hl hv hq
 unfold tX
 unfold vo at hle ⊢
 refine zo func117 Z (by decide) Z<|ah<|ao Z<|ab Z<|z6<|zd<|zt (fun j=>false) (by kernel_rfl) Z (zm (.rest _))<|aj 0 Z (ep Z)<|aj 1 Z (yf Z)<|aj 2 Z (bK j7 Z Z2 Z Z)<|aj 3 Z (yo (c:=.pf _) Z9 Z)<|aj 4 Z (dF Z)<|aj 5 Z (ep Z)<|aj 6 Z (yf Z)<|aj 7 Z (bK j7 Z wz Z Z)<|aj 8 Z (da j6 Z)<|aY 9 Z<|zf (hle) Z<|z6<|aj 10 Z (iJ Z Z)<|aj 11 Z (ij Z Z)<|aj 12 Z (oZ Z)<|aj 13 Z (oO Z)<|bV<|zh<|qc (x:=.int _ _) (y:=.bool _) Z Z ?_
 rfl
theorem kJ:aI prog E 152 [tX f0 f1 f2 t m pr n l q ps,.int .i64 v] (.tup [.int .i64 (-(eX l n q v).getD 0),.bool (eX l n q v).isSome]):=by
 have hle:=jC (E:=E) n l .any hl hq hv
 have hr:=m5 hl (a:=q) (b:=v)
 unfold tX
 unfold vo at hle ⊢
 refine zo func152 Z (by decide) Z<|ah<|ao Z<|ab Z<|z6<|zd<|zt (fun j=>false) (by kernel_rfl) Z (zm (.rest _))<|aj 0 Z (ep Z)<|aj 1 Z (yf Z)<|aj 2 Z (bK j7 Z Z2 Z Z)<|aj 3 Z (yo (c:=.pf _) Z9 Z)<|aj 4 Z (ep Z)<|aj 5 Z (yf Z)<|aj 6 Z (bK j7 Z wz Z Z)<|aj 7 Z (da j6 Z)<|aj 8 Z (dF Z)<|aY 9 Z<|zf (hle) Z<|z6<|aj 10 Z (iW Z)<|aj 11 Z (iJ Z Z)<|aj 12 Z (ij Z Z)<|aj 13 Z (oZ Z)<|aj 14 Z (oO Z)<|bV<|ah<|aa Z<|za (Gv.neg Z)<|ai Z<|ao Z<|ab Z<|z6<|zh<|qc (x:=.int _ _) (y:=.bool _) Z Z ?_
 rw[Bj hr]
theorem wr:aI prog E 116 [tX f0 f1 f2 t m pr n l q ps,.int .i64 v] (.bool (p8 l n q v 0)):=by
 have hdn:=kJ (E:=E) (f0:=f0) (f1:=f1) (f2:=f2) (t:=t) (m:=m) (pr:=pr) (ps:=ps) hl hv hq
 unfold tX at hdn ⊢
 refine zo func116 Z (by decide) Z<|ah<|ab Z<|z6<|ah<|za (ep Z)<|aa Z<|zf (hdn) Z<|za (iW Z)<|za (iJ Z Z)<|za (ij Z Z)<|ao Z<|ab Z<|z6<|ah<|ai Z<|ai Z<|zp (s:=14) Z (fun c1=>?_) (fun c1=>?_)
 ·refine z8 Z Z c1<|aa Z<|z8 Z Z c1<|za (q3 Z Z)<|ar Z c1 Z<|ab Z<|z6<|zh<|zk (x:=.bool _) Z ?_
  exact congrArg AV.bool (by unfold p8;cases h:eX l n q v with|none=>simp_all|some k=>simp_all<;>omega)
 ·refine z7 Z Z c1<|z7 Z Z c1<|au Z c1 Z<|ab Z<|z6<|zh<|zk (x:=.bool _) Z ?_
  exact congrArg AV.bool (by unfold p8;cases h:eX l n q v with|none=>simp_all|some k=>simp_all<;>omega)
theorem nz:aI prog E 157 [tX f0 f1 f2 t m pr n l q ps,.int .i64 v] (.tup [.agg [.int .i64 (-(eX l n q v).getD 0),.int .i64 ((eX l n v q).getD 0)],.bool ((eX l n q v).isSome&&(eX l n v q).isSome)]):=by
 have hdn:=kJ (E:=E) (f0:=f0) (f1:=f1) (f2:=f2) (t:=t) (m:=m) (pr:=pr) (ps:=ps) hl hv hq
 have hup:=sb (E:=E) (f0:=f0) (f1:=f1) (f2:=f2) (t:=t) (m:=m) (pr:=pr) (ps:=ps) hl hv hq
 unfold tX at hdn hup ⊢
 refine zo func157 Z (by decide) Z<|ah<|y5 (cs:=[.int .i64 0,.int .i64 0]) Yi Z Z<|fun i4=>ab Z<|z6<|ah<|za (ep Z)<|aa Z<|zf (hdn) Z<|za (iW Z)<|za (iJ Z Z)<|za (ij Z Z)<|ao Z<|ab Z<|z6<|ah<|za (ep Z)<|aa Z<|zf (hup) Z<|za (iW Z)<|za (iJ Z Z)<|za (ij Z Z)<|ao Z<|ab Z<|z6<|ah<|aa Z<|aa Z<|za (y4 (cps:=[(0,[_]),(1,[_])]) (rs:=[_,_]) r9 Z Z Z)<|ai Z<|ai Z<|zp (s:=26) Z (fun c2=>?_) (fun c2=>?_)
 ·refine z8 Z Z c2<|ai Z<|ar Z c2 Z<|zz Z3 Z Z Z Z Z Z .head Z<|ab Z<|z6<|zh<|dx.c1t (y:=.bool _) Z Z ⟨_,.head⟩ Zr Z3 Z ?_
  exact congrArg (fun b=>AV.tup [.agg [.int .i64 (-(eX l n q v).getD 0),.int .i64 ((eX l n v q).getD 0)],.bool b]) (by simp_all)
 ·refine z7 Z Z c2<|au Z c2 Z<|zz Z3 Z Z Z Z Z Z .head Z<|ab Z<|z6<|zh<|dx.c1t (y:=.bool _) Z Z ⟨_,.head⟩ Zr Z3 Z ?_
  exact congrArg (fun b=>AV.tup [.agg [.int .i64 (-(eX l n q v).getD 0),.int .i64 ((eX l n v q).getD 0)],.bool b]) (by simp_all)
end
end Go.Proofs.YtdilpodccjlkgaaGreatDoor
namespace Go.Proofs.YtdilpodccjlkgaaGreatDoor
open Go.Proofs.Tryz
open Go.Proofs
theorem dv:de prog 250 #[(0,1),(1,1),(2,1)] [.str ⟨#[]⟩,.str ⟨#[]⟩,.str ⟨#[]⟩]:=⟨_,_,underlying250,zeroValue250,fun w=>by kernel_rfl,rfl⟩
theorem DS:lh prog 275 3 [.str ⟨#[]⟩,.str ⟨#[]⟩,.str ⟨#[]⟩,.str ⟨#[]⟩,.str ⟨#[]⟩,.str ⟨#[]⟩,.str ⟨#[]⟩,.str ⟨#[]⟩,.str ⟨#[]⟩,.str ⟨#[]⟩,.str ⟨#[]⟩,.str ⟨#[]⟩,.str ⟨#[]⟩,.str ⟨#[]⟩,.str ⟨#[]⟩,.str ⟨#[]⟩,.str ⟨#[]⟩,.str ⟨#[]⟩,.str ⟨#[]⟩,.str ⟨#[]⟩,.str ⟨#[]⟩,.str ⟨#[]⟩,.str ⟨#[]⟩,.str ⟨#[]⟩,.str ⟨#[]⟩,.str ⟨#[]⟩,.str ⟨#[]⟩,.str ⟨#[]⟩,.str ⟨#[]⟩,.str ⟨#[]⟩,.str ⟨#[]⟩,.str ⟨#[]⟩,.str ⟨#[]⟩,.str ⟨#[]⟩,.str ⟨#[]⟩,.str ⟨#[]⟩,.str ⟨#[]⟩,.str ⟨#[]⟩,.str ⟨#[]⟩,.str ⟨#[]⟩,.str ⟨#[]⟩,.str ⟨#[]⟩,.str ⟨#[]⟩,.str ⟨#[]⟩,.str ⟨#[]⟩,.str ⟨#[]⟩,.str ⟨#[]⟩,.str ⟨#[]⟩,.str ⟨#[]⟩,.str ⟨#[]⟩,.str ⟨#[]⟩,.str ⟨#[]⟩,.str ⟨#[]⟩,.str ⟨#[]⟩,.str ⟨#[]⟩,.str ⟨#[]⟩,.str ⟨#[]⟩,.str ⟨#[]⟩,.str ⟨#[]⟩,.str ⟨#[]⟩,.str ⟨#[]⟩,.str ⟨#[]⟩,.str ⟨#[]⟩,.str ⟨#[]⟩,.str ⟨#[]⟩,.str ⟨#[]⟩,.str ⟨#[]⟩,.str ⟨#[]⟩,.str ⟨#[]⟩,.str ⟨#[]⟩,.str ⟨#[]⟩,.str ⟨#[]⟩,.str ⟨#[]⟩,.str ⟨#[]⟩,.str ⟨#[]⟩,.str ⟨#[]⟩,.str ⟨#[]⟩,.str ⟨#[]⟩,.str ⟨#[]⟩,.str ⟨#[]⟩,.str ⟨#[]⟩]:=⟨_,_,_,underlying275,zeroValue275,sizeOf250,rfl⟩
variable {E:World}
set_option maxRecDepth 20000
def fX:List (ByteArray × ByteArray × ByteArray):=[(⟨#[99,111,110,115,116]⟩,⟨#[]⟩,⟨#[105]⟩),
 (⟨#[99,111,112,121]⟩,⟨#[105]⟩,⟨#[105]⟩),
 (⟨#[97,100,100]⟩,⟨#[105,105]⟩,⟨#[105]⟩),
 (⟨#[115,117,98]⟩,⟨#[105,105]⟩,⟨#[105]⟩),
 (⟨#[109,117,108]⟩,⟨#[105,105]⟩,⟨#[105]⟩),
 (⟨#[100,105,118]⟩,⟨#[105,105]⟩,⟨#[105]⟩),
 (⟨#[114,101,109]⟩,⟨#[105,105]⟩,⟨#[105]⟩),
 (⟨#[101,113]⟩,⟨#[105,105]⟩,⟨#[98]⟩),
 (⟨#[108,116]⟩,⟨#[105,105]⟩,⟨#[98]⟩),
 (⟨#[108,101]⟩,⟨#[105,105]⟩,⟨#[98]⟩),
 (⟨#[110,111,116]⟩,⟨#[98]⟩,⟨#[98]⟩),
 (⟨#[97,110,100]⟩,⟨#[98,98]⟩,⟨#[98]⟩),
 (⟨#[108,101,110]⟩,⟨#[97]⟩,⟨#[105]⟩),
 (⟨#[108,111,97,100]⟩,⟨#[97,105]⟩,⟨#[105]⟩),
 (⟨#[115,116,111,114,101]⟩,⟨#[97,105,105]⟩,⟨#[]⟩),
 (⟨#[110,101,119]⟩,⟨#[105]⟩,⟨#[97]⟩),
 (⟨#[110,105,108]⟩,⟨#[]⟩,⟨#[97]⟩),
 (⟨#[111,117,116]⟩,⟨#[105]⟩,⟨#[]⟩),
 (⟨#[99,104,107,105,100,120]⟩,⟨#[97,105]⟩,⟨#[]⟩),
 (⟨#[99,104,107,110,105,108]⟩,⟨#[97]⟩,⟨#[]⟩),
 (⟨#[99,104,107,100,105,118]⟩,⟨#[105]⟩,⟨#[]⟩),
 (⟨#[99,104,107,97,100,100]⟩,⟨#[105,105]⟩,⟨#[]⟩),
 (⟨#[99,104,107,115,117,98]⟩,⟨#[105,105]⟩,⟨#[]⟩),
 (⟨#[99,104,107,109,117,108]⟩,⟨#[105,105]⟩,⟨#[]⟩),
 (⟨#[99,104,107,108,101,110]⟩,⟨#[105]⟩,⟨#[]⟩),
 (⟨#[112,105]⟩,⟨#[105,105]⟩,⟨#[105]⟩),
 (⟨#[112,105,108,101,110]⟩,⟨#[105,97]⟩,⟨#[105]⟩)]
def bS (op:Int):ByteArray × ByteArray × ByteArray:=if 0≤op then fX[op.toNat]?.getD (⟨#[]⟩,⟨#[]⟩,⟨#[]⟩) else (⟨#[]⟩,⟨#[]⟩,⟨#[]⟩)
def o7 (op:Int):Bool:=decide (0≤op)&&decide (op<27)
def o8 (r:ByteArray × ByteArray × ByteArray):List AV:=[.str r.1,.str r.2.1,.str r.2.2]
theorem Bk (op:Int):aI prog E 200 [.int .i64 op] (.bool (o7 op)):=by
 refine zo func200 Z (by decide) Z<|ah<|ab Z<|z6<|ah<|aa Z<|za (q3 Z Z)<|ai Z<|zp (s:=5) Z (fun c1=>?_) (fun c1=>?_)
 ·refine z8 Z Z c1<|aa Z<|z8 Z Z c1<|aw Z Z<|ar Z c1 Z<|ab Z<|z6<|zh<|zk (x:=.bool _) Z ?_
  simp_all[o7]<;>omega
 ·refine z7 Z Z c1<|z7 Z Z c1<|au Z c1 Z<|ab Z<|z6<|zh<|zk (x:=.bool _) Z ?_
  simp_all[o7]<;>omega
set_option maxHeartbeats 4000000 in
theorem tY:aI prog E 201 [] (.agg (fX.flatMap o8)):=by
 refine zo func201 Z (by decide) Z<|ah<|y5 (cs:=[.str ⟨#[]⟩,.str ⟨#[]⟩,.str ⟨#[]⟩,.str ⟨#[]⟩,.str ⟨#[]⟩,.str ⟨#[]⟩,.str ⟨#[]⟩,.str ⟨#[]⟩,.str ⟨#[]⟩,.str ⟨#[]⟩,.str ⟨#[]⟩,.str ⟨#[]⟩,.str ⟨#[]⟩,.str ⟨#[]⟩,.str ⟨#[]⟩,.str ⟨#[]⟩,.str ⟨#[]⟩,.str ⟨#[]⟩,.str ⟨#[]⟩,.str ⟨#[]⟩,.str ⟨#[]⟩,.str ⟨#[]⟩,.str ⟨#[]⟩,.str ⟨#[]⟩,.str ⟨#[]⟩,.str ⟨#[]⟩,.str ⟨#[]⟩,.str ⟨#[]⟩,.str ⟨#[]⟩,.str ⟨#[]⟩,.str ⟨#[]⟩,.str ⟨#[]⟩,.str ⟨#[]⟩,.str ⟨#[]⟩,.str ⟨#[]⟩,.str ⟨#[]⟩,.str ⟨#[]⟩,.str ⟨#[]⟩,.str ⟨#[]⟩,.str ⟨#[]⟩,.str ⟨#[]⟩,.str ⟨#[]⟩,.str ⟨#[]⟩,.str ⟨#[]⟩,.str ⟨#[]⟩,.str ⟨#[]⟩,.str ⟨#[]⟩,.str ⟨#[]⟩,.str ⟨#[]⟩,.str ⟨#[]⟩,.str ⟨#[]⟩,.str ⟨#[]⟩,.str ⟨#[]⟩,.str ⟨#[]⟩,.str ⟨#[]⟩,.str ⟨#[]⟩,.str ⟨#[]⟩,.str ⟨#[]⟩,.str ⟨#[]⟩,.str ⟨#[]⟩,.str ⟨#[]⟩,.str ⟨#[]⟩,.str ⟨#[]⟩,.str ⟨#[]⟩,.str ⟨#[]⟩,.str ⟨#[]⟩,.str ⟨#[]⟩,.str ⟨#[]⟩,.str ⟨#[]⟩,.str ⟨#[]⟩,.str ⟨#[]⟩,.str ⟨#[]⟩,.str ⟨#[]⟩,.str ⟨#[]⟩,.str ⟨#[]⟩,.str ⟨#[]⟩,.str ⟨#[]⟩,.str ⟨#[]⟩,.str ⟨#[]⟩,.str ⟨#[]⟩,.str ⟨#[]⟩]) zeroValue275 Z Z<|fun i0=>z6<|ah<|za (y4 (cps:=[(0,[_]),(1,[_]),(2,[_])]) (rs:=[_,_,_]) dv Z Z Z)<|za (y4 (cps:=[(0,[_]),(1,[_]),(2,[_])]) (rs:=[_,_,_]) dv Z Z Z)<|za (y4 (cps:=[(0,[_]),(1,[_]),(2,[_])]) (rs:=[_,_,_]) dv Z Z Z)<|za (y4 (cps:=[(0,[_]),(1,[_]),(2,[_])]) (rs:=[_,_,_]) dv Z Z Z)<|za (y4 (cps:=[(0,[_]),(1,[_]),(2,[_])]) (rs:=[_,_,_]) dv Z Z Z)<|za (y4 (cps:=[(0,[_]),(1,[_]),(2,[_])]) (rs:=[_,_,_]) dv Z Z Z)<|za (y4 (cps:=[(0,[_]),(1,[_]),(2,[_])]) (rs:=[_,_,_]) dv Z Z Z)<|za (y4 (cps:=[(0,[_]),(1,[_]),(2,[_])]) (rs:=[_,_,_]) dv Z Z Z)<|za (y4 (cps:=[(0,[_]),(1,[_]),(2,[_])]) (rs:=[_,_,_]) dv Z Z Z)<|za (y4 (cps:=[(0,[_]),(1,[_]),(2,[_])]) (rs:=[_,_,_]) dv Z Z Z)<|za (y4 (cps:=[(0,[_]),(1,[_]),(2,[_])]) (rs:=[_,_,_]) dv Z Z Z)<|za (y4 (cps:=[(0,[_]),(1,[_]),(2,[_])]) (rs:=[_,_,_]) dv Z Z Z)<|za (y4 (cps:=[(0,[_]),(1,[_]),(2,[_])]) (rs:=[_,_,_]) dv Z Z Z)<|za (y4 (cps:=[(0,[_]),(1,[_]),(2,[_])]) (rs:=[_,_,_]) dv Z Z Z)<|za (y4 (cps:=[(0,[_]),(1,[_]),(2,[_])]) (rs:=[_,_,_]) dv Z Z Z)<|za (y4 (cps:=[(0,[_]),(1,[_]),(2,[_])]) (rs:=[_,_,_]) dv Z Z Z)<|za (y4 (cps:=[(0,[_]),(1,[_]),(2,[_])]) (rs:=[_,_,_]) dv Z Z Z)<|za (y4 (cps:=[(0,[_]),(1,[_]),(2,[_])]) (rs:=[_,_,_]) dv Z Z Z)<|za (y4 (cps:=[(0,[_]),(1,[_]),(2,[_])]) (rs:=[_,_,_]) dv Z Z Z)<|za (y4 (cps:=[(0,[_]),(1,[_]),(2,[_])]) (rs:=[_,_,_]) dv Z Z Z)<|za (y4 (cps:=[(0,[_]),(1,[_]),(2,[_])]) (rs:=[_,_,_]) dv Z Z Z)<|za (y4 (cps:=[(0,[_]),(1,[_]),(2,[_])]) (rs:=[_,_,_]) dv Z Z Z)<|za (y4 (cps:=[(0,[_]),(1,[_]),(2,[_])]) (rs:=[_,_,_]) dv Z Z Z)<|za (y4 (cps:=[(0,[_]),(1,[_]),(2,[_])]) (rs:=[_,_,_]) dv Z Z Z)<|za (y4 (cps:=[(0,[_]),(1,[_]),(2,[_])]) (rs:=[_,_,_]) dv Z Z Z)<|za (y4 (cps:=[(0,[_]),(1,[_]),(2,[_])]) (rs:=[_,_,_]) dv Z Z Z)<|za (y4 (cps:=[(0,[_]),(1,[_]),(2,[_])]) (rs:=[_,_,_]) dv Z Z Z)<|za (Gv.buildAF (xs:=[[_,_,_],[_,_,_],[_,_,_],[_,_,_],[_,_,_],[_,_,_],[_,_,_],[_,_,_],[_,_,_],[_,_,_],[_,_,_],[_,_,_],[_,_,_],[_,_,_],[_,_,_],[_,_,_],[_,_,_],[_,_,_],[_,_,_],[_,_,_],[_,_,_],[_,_,_],[_,_,_],[_,_,_],[_,_,_],[_,_,_],[_,_,_]]) DS Z Z Z Z)<|zz sizeOf275 Z Z Z Z Z Z .head Z<|z6<|zh<|dx.c1 Z ⟨_,.head⟩ isAgg275 sizeOf275 Z ?_
 rfl
theorem sd {op:Int} (h:o7 op=false):bS op=(⟨#[]⟩,⟨#[]⟩,⟨#[]⟩):=by
 unfold o7 at h
 unfold bS
 split
 ·rename_i h0
  have:¬op<27:=by simpa [h0] using h
  rw[List.getElem?_eq_none (by show 27≤_;omega)];rfl
 ·rfl
theorem Bl {op:Int} (h:o7 op=true):∃j:Nat,op=(j:Int)∧j<27∧((fX.flatMap o8).drop (j*3)).take 3=o8 (bS op):=by
 unfold o7 at h
 simp at h
 obtain ⟨j,rfl⟩:∃j:Nat,op=j:=⟨op.toNat,by omega⟩
 have hj:j<27:=by omega
 refine ⟨j,Z,hj,vg (enc:=o8) (k:=3) (fun _=>Z) _ _ ?_⟩
 unfold bS
 rw[if_pos h.1,Int.toNat_natCast,qi (show j<fX.length from hj)];rfl
theorem qJ (op:Int):aI prog E 183 [.int .i64 op] (.agg (o8 (bS op))):=by
 refine zo func183 Z (by decide) Z<|ah<|y5 (cs:=[.str ⟨#[]⟩,.str ⟨#[]⟩,.str ⟨#[]⟩]) zeroValue250 Z Z<|fun i2=>z6<|zd<|ah<|aa Z<|zf (Bk _) Z<|aD Z<|z6<|zu Z (fun c=>?_) (fun c=>?_)
 ·have c:o7 op=false:=by simpa using c
  rw[sd c]
  refine ah<|za (y4 (cps:=[]) (rs:=[.str ⟨#[]⟩,.str ⟨#[]⟩,.str ⟨#[]⟩]) dv Z Z Z)<|zz sizeOf250 Z Z Z Z Z Z .head Z<|z6<|zh<|dx.c1 Z ⟨_,.head⟩ isAgg250 sizeOf250 Z ?_
  rfl
 ·have c:o7 op=true:=by simpa using c
  obtain ⟨j,hj1,hj2,hj3⟩:=Bl c
  refine zg<|ah<|zf (tY) Z<|aa Z<|za (Gv.indexA underlying275 isAgg250 sizeOf250 Z Z hj1 hj2 hj3)<|zz sizeOf250 Z Z Z Z Z Z .head Z<|z6<|zh<|dx.c1 Z ⟨_,.head⟩ isAgg250 sizeOf250 Z ?_
  rfl
theorem wt (op:Int):aI prog E 181 [.int .i64 op] (.str (bS op).1):=by
 refine zo func181 Z (by decide) Z<|ah<|za (qa (v:=.str _) Z)<|z6<|ah<|aa Z<|zf (qJ _) Z<|za (Gv.field1 (v:=.str _) underlying250 Z Y0 Z Z)<|za (qa (v:=.str _) Z)<|z6<|zh<|zk (x:=.str _) Z ?_
 rfl
def nA (op:Int):Bool:=decide (op=0)||decide (op=25)
theorem fI (op:Int):aI prog E 182 [.int .i64 op] (.bool (nA op)):=by
 refine zo func182 Z (by decide) Z<|ah<|ab Z<|z6<|ah<|aa Z<|ak Z Z<|ai Z<|zp (s:=5) Z (fun c2=>?_) (fun c2=>?_)
 ·refine z7 Z Z c2<|z7 Z Z c2<|ar Z c2 Z<|ab Z<|z6<|zh<|zk (x:=.bool _) Z ?_
  simp_all[nA]
 ·refine z8 Z Z c2<|aa Z<|z8 Z Z c2<|ak Z Z<|au Z c2 Z<|ab Z<|z6<|zh<|zk (x:=.bool _) Z ?_
  simp_all[nA]
def dN (c:Int):Int:=if c=98 then 1 else if c=97 then 2 else 0
theorem nB (c:Int):aI prog E 184 [.int .i32 c] (.int .i64 (dN c)):=by
 refine zo func184 Z (by decide) Z<|ah<|ao Z<|z6<|zd<|ah<|aa Z<|z6<|zj<|ah<|ak Z Z<|ab Z<|z6<|zu Z (fun c3=>?_) (fun c3=>?_)
 ·refine ah<|ao Z<|z6<|zh<|zk (x:=.int _ _) Z ?_
  simp_all[dN]
 ·refine ah<|ak Z Z<|ab Z<|z6<|zu Z (fun c4=>?_) (fun c4=>?_)
  ·refine ah<|ao Z<|z6<|zh<|zk (x:=.int _ _) Z ?_
   simp_all[dN]
  ·refine zg<|ah<|ao Z<|z6<|zh<|zk (x:=.int _ _) Z ?_
   simp_all[dN]
theorem yE:∀r∈fX,(∀b∈r.2.1.data.toList,b<128)∧(∀b∈r.2.2.data.toList,b<128):=by decide
theorem nC (op:Int):bS op=(⟨#[]⟩,⟨#[]⟩,⟨#[]⟩)∨bS op∈fX:=by
 unfold bS
 split
 ·cases h:fX[op.toNat]? with
  |none=>exact .inl rfl
  |some r=>exact .inr (qs h)
 ·exact .inl rfl
theorem nD (op:Int):(∀b∈(bS op).2.1.data.toList,b<128)∧(∀b∈(bS op).2.2.data.toList,b<128):=by
 rcases nC op with h|h
 ·rw[h];simp
 ·exact yE _ h
def bo (op:Int):List Int:=(bS op).2.1.data.toList.map fun b=>dN b.toNat
def kK (op:Int):Int:=((bS op).2.2.data.toList.head?.map fun b=>dN b.toNat).getD 0
def dU (op:Int):Bool:=!(bS op).2.2.data.toList.isEmpty
end Go.Proofs.YtdilpodccjlkgaaGreatDoor
namespace Go.Proofs.YtdilpodccjlkgaaGreatDoor
open Go.Proofs.Tryz
open Go.Proofs
theorem Bm:cF prog 218 59 1 1 [.int .i64 0]:=⟨_,underlying218,Yq,zeroValue59,by decide,by decide,by kernel_rfl⟩
variable {E:World}
set_option maxRecDepth 20000
structure se where
 name:ByteArray
 ty:Int
deriving DecidableEq
structure eJ where
 dst:Int
 args:List Int
 from_:List Int
deriving DecidableEq
structure aB where
 op:Int
 dst:Int
 args:List Int
 num:Int
deriving DecidableEq
structure ft where
 kind:Int
 var:Int
 to0:Int
 to1:Int
deriving DecidableEq
structure aN where
 name:ByteArray
 phis:List eJ
 insts:List aB
 term:ft
deriving DecidableEq
structure ad where
 vars:List se
 params:List Int
 blocks:List aN
deriving DecidableEq
def cE (x:Int):List AV:=[.int .i64 x]
def e9 (v:se):List AV:=[.str v.name,.int .i64 v.ty]
def d6 (p:eJ):List AV:=[.int .i64 p.dst,.fro 1 (p.args.map cE),.fro 1 (p.from_.map cE)]
def be (x:aB):List AV:=[.int .i64 x.op,.int .i64 x.dst,.fro 1 (x.args.map cE),.int .i64 x.num]
def m6 (t:ft):List AV:=[.int .i64 t.kind,.int .i64 t.var,.int .i64 t.to0,.int .i64 t.to1]
def bN (b:aN):List AV:=[.str b.name,.fro 3 (b.phis.map d6),.fro 4 (b.insts.map be),.int .i64 b.term.kind,.int .i64 b.term.var,.int .i64 b.term.to0,.int .i64 b.term.to1]
def bD (f:ad):List AV:=[.fro 2 (f.vars.map e9),.fro 1 (f.params.map cE),.fro 7 (f.blocks.map bN)]
theorem nE (op:Int):aI prog E 149 [.int .i64 op] (.fro 1 ((bo op).map cE)):=by
 obtain ⟨hasc,_⟩:=nD op
 have hl:(bo op).length=(bS op).2.1.size:=by unfold bo;rw[qp];exact Array.length_toList
 have hlen:(bo op).length≤3:=by
  rcases nC op with h|h
  ·unfold bo;rw[h];decide
  ·have:∀r∈fX,r.2.1.data.toList.length≤3:=by decide
   have:=this _ h
   unfold bo;simpa using this
 refine zo func149 Z (by decide) Z<|ah<|za (iR Z)<|z6<|ah<|za (iR Z)<|z6<|gj (t:=3) (k:=1) (T:=59) Z<|fun i3=>zd<|ah<|aa Z<|zf (qJ _) Z<|za (Gv.field1 (v:=.str _) underlying250 Z Y0 Z Z)<|ax.rangeT Zi Z<|fun i9=>z6<|zj<|y8 (γ:=Nat × Nat) [9] (fun g=>[(3,.own g.2 g.1)]) (fun g=>[(i9,.iter (bS op).2.1 g.1),(g.2,.grow 1 59 (((bo op).take g.1).map cE).flatten)]) (fun g=>g.1≤(bo op).length) (fun g=>(bo op).length - g.1) (0,i3) aJ aE (ql _) ?_
 rintro ⟨p,i⟩ hp
 try dsimp only at *
 try simp only at hp
 by_cases hlt:p<(bo op).length
 ·have hb:p<(bS op).2.1.data.toList.length:=by rw[hl] at hlt;exact hlt
  have hg:(bS op).2.1.data[p]?=some (bS op).2.1.data.toList[p]:=by rw[Array.getElem_toList];exact Array.getElem?_eq_getElem hb
  refine ah<|ax.nextA Z hg (hasc _ (qm hb)) .head<|za (ij Z Z)<|z6<|zd<|yl Z Z ?_
  have ht:(bo op).take (p+1)=(bo op).take p++[dN ((bS op).2.1.data.toList[p]).toNat]:=by
   rw[qj hlt]
   have:(bo op)[p]=dN ((bS op).2.1.data.toList[p]).toNat:=List.getElem_map _
   rw[this]
  refine zg<|zj<|ah<|za (iJ Z Z)<|ao Z<|z6<|aV<|za (gQ Z)<|aa Z<|zf (nB _) Z<|y3 (rows:=[[_]]) Bm Z Z Z Z Z<|yj (k:=1) underlying218 type59 Z Z Z Z Z (fun _=>.t1) (by rw[li (k:=1) (fun _=>rfl),List.length_take,Nat.min_eq_left hp]) (by decide) Z (by show (_+_)*8≤_;simp<;>omega) (by simp<;>omega)<|fun i17=>za (lj Z)<|z6 ?_
  exact ⟨(p+1,i17),aJ,aJ,⟨_,(.refl _),by rw[←jW ht];rfl⟩,hlt,by simp only;omega⟩
 ·refine ah<|ax.nextTover Z .head (by rw[←hl];exact hlt)<|za (ij Z Z)<|z6<|zd<|ye Z Z ?_
  have hkn:p=(bo op).length:=by omega
  subst hkn
  rw[qn]
  refine y7<|ah<|za (gQ Z)<|za (lj Z)<|z6<|zh ?_
  repeat (first|refine f9 ?_|refine eO ?_)
  refine yc (aX.know (t:=2) (rows:=(bo op).map cE) Z .t1 (by first|(intro r hr;obtain ⟨x,_,rfl⟩:=List.mem_map.1 hr;rfl)|simp[cE,e9,d6,be,bN]) (by decide) (by simp))<|zk (x:=.fro _ _) Z ?_
  rfl
theorem nF (op:Int):aI prog E 150 [.int .i64 op] (.tup [.int .i64 (kK op),.bool (dU op)]):=by
 obtain ⟨_,hasc⟩:=nD op
 refine zo func150 Z (by decide) Z<|ah<|ao Z<|ab Z<|z6<|zd<|ah<|aa Z<|zf (qJ _) Z<|za (Gv.field1 (v:=.str _) underlying250 Z Y0 Z Z)<|ax.rangeT Zi Z<|fun i9=>z6<|zj<|y8 (γ:=Unit) [9] (fun g=>[]) (fun g=>[(i9,.iter (bS op).2.2 0)]) (fun g=>True) (fun g=>0) () trivial aE (trivial) ?_
 rintro _ _
 by_cases hlt:∃c0 tl,(bS op).2.2.data.toList=c0::tl
 ·obtain ⟨c0,tl,hk⟩:=hlt
  have hg:(bS op).2.2.data[0]?=some c0:=by rw[←Array.getElem?_toList,hk];rfl
  refine ah<|ax.nextA Z hg (hasc _ (by rw[hk];exact .head _)) .head<|za (ij Z Z)<|z6<|zd<|yl Z Z<|zg<|zj<|ah<|za (iJ Z Z)<|ao Z<|z6<|ah<|aa Z<|zf (nB _) Z<|ao Z<|ab Z<|z6<|zh<|qc (x:=.int _ _) (y:=.bool _) Z Z ?_
  unfold kK dU;rw[hk];rfl
 ·have hk:(bS op).2.2.data.toList=[]:=by
   cases h:(bS op).2.2.data.toList with
   |nil=>rfl
   |cons x l=>exact absurd ⟨x,l,h⟩ hlt
  refine ah<|ax.nextTover Z .head (by show ¬0<(bS op).2.2.data.size;rw[←Array.length_toList,hk];decide)<|za (ij Z Z)<|z6<|zd<|ye Z Z<|y7<|ah<|ao Z<|ab Z<|z6<|zh<|qc (x:=.int _ _) (y:=.bool _) Z Z ?_
  unfold kK dU;rw[hk];rfl
def aT (f:ad) (v:Int):Bool:=decide (0≤v)&&decide (v<f.vars.length)
def dV (f:ad) (b:Int):Bool:=decide (0≤b)&&decide (b<f.blocks.length)
theorem jD (f:ad) (v:Int):aI prog E 177 [.agg (bD f),.int .i64 v] (.bool (aT f v)):=by
 refine zo func177 Z (by decide) Z<|ah<|ya (cs:=_) Z Z Z<|ab Z<|z6<|ah<|aa Z<|za (q3 Z Z)<|ai Z<|zp (s:=7) Z (fun c1=>?_) (fun c1=>?_)
 ·refine z8 Z Z c1<|aa Z<|z8 Z Z c1<|aq je Z Y5 Z Z<|z8 Z Z c1<|aH Yg Z<|z8 Z Z c1<|ap Z6 Z<|z8 Z Z c1<|aw Z Z<|ar Z c1 Z<|ab Z<|z6<|zh<|zk (x:=.bool _) Z ?_
  simp_all[aT]<;>omega
 ·refine z7 Z Z c1<|z7 Z Z c1<|z7 Z Z c1<|z7 Z Z c1<|z7 Z Z c1<|au Z c1 Z<|ab Z<|z6<|zh<|zk (x:=.bool _) Z ?_
  simp_all[aT]<;>omega
theorem m7 (f:ad) (v:Int):aI prog E 180 [.agg (bD f),.int .i64 v] (.bool (dV f v)):=by
 refine zo func180 Z (by decide) Z<|ah<|ya (cs:=_) Z Z Z<|ab Z<|z6<|ah<|aa Z<|za (q3 Z Z)<|ai Z<|zp (s:=7) Z (fun c2=>?_) (fun c2=>?_)
 ·refine z8 Z Z c2<|aa Z<|z8 Z Z c2<|aq je Z Z0 Z Z<|z8 Z Z c2<|aH Zb Z<|z8 Z Z c2<|ap ji Z<|z8 Z Z c2<|aw Z Z<|ar Z c2 Z<|ab Z<|z6<|zh<|zk (x:=.bool _) Z ?_
  simp_all[dV]<;>omega
 ·refine z7 Z Z c2<|z7 Z Z c2<|z7 Z Z c2<|z7 Z Z c2<|z7 Z Z c2<|au Z c2 Z<|ab Z<|z6<|zh<|zk (x:=.bool _) Z ?_
  simp_all[dV]<;>omega
def bT {α:Type} (p:α→Bool):List α→Nat→Int
 |[],_=>-1
 |x::xs,k=>if p x then k else bT p xs (k+1)
theorem ej {α:Type} (p:α→Bool):∀(xs:List α) (k:Nat),decide (0≤bT p xs k)=xs.any p
 |[],k=>rfl
 |x::xs,k=>by
  unfold bT
  rw[List.any_cons]
  split
  ·rename_i h;rw[h];simp
  ·rename_i h;simp[h,ej p xs (k+1)]
theorem bq {α:Type} (p:α→Bool):∀(xs:List α) (k:Nat),k≤xs.length→(xs.take k).all (fun x=>!p x)=true→bT p xs 0=bT p (xs.drop k) k
 |_,0,_,_=>rfl
 |xs,k+1,h,hall=>by
  rw[qj (by omega),List.all_append] at hall
  simp only[qx,List.all_cons,List.all_nil,Bool.and_true] at hall
  rw[bq p xs k (by omega) hall.1,List.drop_eq_getElem_cons (by omega)]
  rw[bT]
  rw[if_neg (by simpa using hall.2)]
theorem mM {p:Int→Bool} {fn:FuncId} {c:List AV} (xs:List Int) (hl:xs.length≤281474976710656) (hp:∀x,aI prog E fn ([.int .i64 x]++c) (.bool (p x))) :
  aI prog E 162 [.fro 1 (xs.map cE),.fn fn [] c] (.int .i64 (bT p xs 0)):=by
 refine zo func162 Z (by decide) Z<|ah<|ao Z<|z6<|zd<|ah<|bb Z<|ap wx Z<|aa Z<|z6<|zj<|y8 (γ:=Nat) [0,1,7] (fun k=>[(8,.int .i64 k)]) (fun k=>[]) (fun k=>k≤xs.length∧(xs.take k).all (fun x=>!p x)) (fun k=>xs.length - k) 0 aJ aE (⟨ql _,Z⟩) ?_
 rintro k ⟨hk,hall⟩
 refine ah<|aw Z Z<|z6<|zd<|zw Z (fun ck=>?_) (fun ck=>?_)
 ·have hk2:k<xs.length:=by omega
  refine zg<|zd<|zj<|ah<|aa Z<|ao Z<|z6<|ah<|za (yr (v:=.fn _ _ _) Z)<|bb Z<|aa Z<|za (q8 wx wz Z Z Z (qi (by omega)))<|ay j6 Z<|ax.callVP Z (hp _) Z<|z6<|zu Z (fun cp=>?_) (fun cp=>?_)
  ·refine ah<|aa Z<|ao Z<|z6<|zh<|zk (x:=.int _ _) Z ?_
   rw[bq p xs k hk hall,List.drop_eq_getElem_cons hk2,bT,if_pos cp]
  ·refine zg<|aV<|aC Z Z<|aa Z<|z6 ?_
   exact ⟨k+1,dy,aJ,aE,⟨hk2,by rw[qj hk2,List.all_append,hall];simp[cp]⟩,by omega⟩
 ·have hkn:k=xs.length:=by omega
  refine y7<|ah<|ao Z<|z6<|zh<|zk (x:=.int _ _) Z ?_
  rw[bq p xs k hk hall,hkn,List.drop_length,bT]
theorem gl {p:Int→Bool} {fn:FuncId} {c:List AV} (xs:List Int) (hl:xs.length≤281474976710656) (hp:∀x,aI prog E fn ([.int .i64 x]++c) (.bool (p x))) :
  aI prog E 131 [.fro 1 (xs.map cE),.fn fn [] c] (.bool (xs.any p)):=by
 refine zo func131 Z (by decide) Z<|ah<|ab Z<|z6<|ah<|bb Z<|za (yr (v:=.fn _ _ _) Z)<|zf (mM xs hl hp) Z<|za (q3 Z Z)<|ab Z<|z6<|zh<|zk (x:=.bool _) Z ?_
 rw[ej]
theorem tZ (f:ad) (v:Int):aI prog E 199 ([.int .i64 v]++[.pf (bD f)]) (.bool (!aT f v)):=by
 refine zo func199 Z (by decide) Z<|ah<|ab Z<|z6<|ah<|ac jj jh Z Z<|aa Z<|zf (jD _ _) Z<|aD Z<|ab Z<|z6<|zh<|zk (x:=.bool _) Z ?_
 rfl
theorem pB (f:ad) (l:List Int) (hl:l.length≤281474976710656):aI prog E 178 [.agg (bD f),.fro 1 (l.map cE)] (.bool (l.all (aT f))):=by
 refine zo func178 Z (by decide) Z<|ah<|ya (cs:=_) Z Z Z<|ab Z<|z6<|ah<|bb Z<|za (Gv.func Z Z)<|zf (gl l hl (tZ f)) Z<|aD Z<|ab Z<|z6<|zh<|zk (x:=.bool _) Z ?_
 rw[List.any_eq_not_all_not];simp
end Go.Proofs.YtdilpodccjlkgaaGreatDoor
namespace Go.Proofs.YtdilpodccjlkgaaGreatDoor
open Go.Proofs.Tryz
open Go.Proofs
variable {E:World}
set_option maxRecDepth 20000
def nG {α:Type} (l:List α):Prop:=l.length≤140737488355328
def vq (p:eJ):Prop:=nG p.args∧nG p.from_
def DT (b:aN):Prop:=nG b.phis∧nG b.insts∧(∀p∈b.phis,vq p)∧(∀x∈b.insts,nG x.args)
def qK (f:ad):Prop:=nG f.vars∧nG f.params∧nG f.blocks∧∀b∈f.blocks,DT b
theorem nG.lt {α:Type} {l:List α} (h:nG l):l.length≤140737488355328:=h
theorem jb {x y:Bool} (h:x=y):AV.bool x=AV.bool y:=congrArg AV.bool h
theorem CU (k:Nat):∀I v,bg I (.raw (.slice none 0 0)) v→bg I (.fro k []) v:=fun _ _ h=>⟨none,0,0,h,rfl,Nat.le_refl _,fun _=>rfl,trivial⟩
theorem CV (a b c d:Int) (w:World) (m:Nat):(Op.equalIn (m+2) 47 (.agg [.int .i64 a,.int .i64 b].toArray) (.agg [.int .i64 c,.int .i64 d].toArray)).run prog w=.ok (decide (a=c∧b=d)) w:=by
 rw[Op.equalIn]
 simp only[Sem.run_bind,run_underlying jw,Result.andThen_ok]
 simp only[Std.Legacy.Range.forIn_eq_forIn_range',Std.Legacy.Range.size,Nat.sub_zero,Nat.add_sub_cancel,Nat.div_one,List.range'_succ,List.range'_zero,List.forIn_cons,List.forIn_nil]
 simp[part,j6,wz,run_equalIn_int,Zp]
 by_cases h1:a=c<;>by_cases h2:b=d<;>simp[h1,h2]
theorem ml (xs ys:List Int) (hl:nG xs):aI prog E 155 [.fro 1 (xs.map cE),.fro 1 (ys.map cE)] (.bool (decide (xs=ys))):=by
 have hl:=hl.lt
 refine zo func155 Z (by decide) Z<|ah<|ab Z<|z6<|zd<|ah<|bb Z<|ap wx Z<|bb Z<|ap wx Z<|aL Z Z<|z6<|zu Z (fun c0=>?_) (fun c0=>?_)
 ·have h:¬xs=ys:=fun e=>by subst e;simp at c0
  refine ah<|ab Z<|z6<|zh<|zk (x:=.bool _) Z ?_
  rw[qw h]
 ·have hl2:xs.length=ys.length:=by simp at c0;omega
  refine zg<|zd<|ah<|bb Z<|ap wx Z<|aa Z<|z6<|zj<|y8 (γ:=Nat) [0,1,12] (fun k=>[(13,.int .i64 k)]) (fun k=>[]) (fun k=>k≤xs.length∧xs.take k=ys.take k) (fun k=>xs.length - k) 0 aJ aE (⟨ql _,Z⟩) ?_
  rintro k ⟨hk,he⟩
  refine ah<|aw Z Z<|z6<|zd<|zw Z (fun ck=>?_) (fun ck=>?_)
  ·have hk2:k<xs.length:=by omega
   have hk3:k<ys.length:=by omega
   refine zg<|zd<|zj<|ah<|aa Z<|ao Z<|z6<|zd<|zt (fun j=>false) (by kernel_rfl) Z (zm (.rest _))<|aj 0 Z (DN Z)<|aj 1 Z (dF Z)<|aj 2 Z (q8 wx wz Z Z Z (qi (by omega)))<|aj 3 Z (da j6 Z)<|aj 4 Z (DN Z)<|aj 5 Z (dF Z)<|aj 6 Z (q8 wx wz Z Z Z (qi (by omega)))<|aj 7 Z (da j6 Z)<|aj 8 Z (Gv.neqI Z Z)<|bV<|zu Z (fun cd=>?_) (fun cd=>?_)
   ·refine ah<|ab Z<|z6<|zh<|zk (x:=.bool _) Z ?_
    rw[qw (DM hk2 hk3 (by simpa using cd))]
   ·refine zg<|aV<|aC Z Z<|aa Z<|z6 ?_
    exact ⟨k+1,dy,aJ,aE,⟨hk2,we hk2 hk3 he (by simpa using cd)⟩,by omega⟩
  ·refine y7<|ah<|ab Z<|z6<|zh<|zk (x:=.bool _) Z ?_
   rw[qv (wg hl2 (by omega) he)]
end Go.Proofs.YtdilpodccjlkgaaGreatDoor
namespace Go.Proofs.YtdilpodccjlkgaaGreatDoor
open Go.Proofs.Tryz
open Go.Proofs
variable {E:World}
set_option maxRecDepth 20000
theorem mN {p:Int→Bool} {fn:FuncId} {c:List AV} (xs:List Int) (hl:xs.length≤281474976710656) (hp:∀x∈xs,aI prog E fn ([.int .i64 x]++c) (.bool (p x))) :
  aI prog E 162 [.fro 1 (xs.map cE),.fn fn [] c] (.int .i64 (bT p xs 0)):=by
 refine zo func162 Z (by decide) Z<|ah<|ao Z<|z6<|zd<|ah<|bb Z<|ap wx Z<|aa Z<|z6<|zj<|y8 (γ:=Nat) [0,1,7] (fun k=>[(8,.int .i64 k)]) (fun k=>[]) (fun k=>k≤xs.length∧(xs.take k).all (fun x=>!p x)) (fun k=>xs.length - k) 0 aJ aE (⟨ql _,Z⟩) ?_
 rintro k ⟨hk,hall⟩
 refine ah<|aw Z Z<|z6<|zd<|zw Z (fun ck=>?_) (fun ck=>?_)
 ·have hk2:k<xs.length:=by omega
  refine zg<|zd<|zj<|ah<|aa Z<|ao Z<|z6<|ah<|za (yr (v:=.fn _ _ _) Z)<|bb Z<|aa Z<|za (q8 wx wz Z Z Z (qi (by omega)))<|ay j6 Z<|ax.callVP Z (hp _ (qm hk2)) Z<|z6<|zu Z (fun cp=>?_) (fun cp=>?_)
  ·refine ah<|aa Z<|ao Z<|z6<|zh<|zk (x:=.int _ _) Z ?_
   rw[bq p xs k hk hall,List.drop_eq_getElem_cons hk2,bT,if_pos cp]
  ·refine zg<|aV<|aC Z Z<|aa Z<|z6 ?_
   exact ⟨k+1,dy,aJ,aE,⟨hk2,by rw[qj hk2,List.all_append,hall];simp[cp]⟩,by omega⟩
 ·have hkn:k=xs.length:=by omega
  refine y7<|ah<|ao Z<|z6<|zh<|zk (x:=.int _ _) Z ?_
  rw[bq p xs k hk hall,hkn,List.drop_length,bT]
theorem kL {p:Int→Bool} {fn:FuncId} {c:List AV} (xs:List Int) (hl:xs.length≤281474976710656) (hp:∀x∈xs,aI prog E fn ([.int .i64 x]++c) (.bool (p x))) :
  aI prog E 131 [.fro 1 (xs.map cE),.fn fn [] c] (.bool (xs.any p)):=by
 refine zo func131 Z (by decide) Z<|ah<|ab Z<|z6<|ah<|bb Z<|za (yr (v:=.fn _ _ _) Z)<|zf (mN xs hl hp) Z<|za (q3 Z Z)<|ab Z<|z6<|zh<|zk (x:=.bool _) Z ?_
 rw[ej]
def bj (f:ad) (v:Int):Int:=((f.vars[v.toNat]?).map (·.ty)).getD 0
theorem jE {f:ad} {v:Int} (h:aT f v=true):∃x,f.vars[v.toNat]?=some x∧v=(v.toNat:Int)∧bj f v=x.ty:=by
 unfold aT at h
 simp only[qx,w1] at h
 have hl:v.toNat<f.vars.length:=by omega
 refine ⟨f.vars[v.toNat],qi hl,by omega,?_⟩
 unfold bj;rw[qi hl];rfl
theorem eS (f:ad) (v:Int) (hv:aT f v=true):aI prog E 147 [.agg (bD f),.int .i64 v] (.int .i64 (bj f v)):=by
 obtain ⟨x,hx,hv2,hk⟩:=jE hv
 rw[hk]
 refine zo func147 Z (by decide) Z<|ah<|ya (cs:=_) Z Z Z<|ao Z<|z6<|ah<|aq je Z Y5 Z Z<|aH Yg Z<|aa Z<|za (bx v.toNat Z6 Y2 Z Z hv2 hx)<|aq Zf Z Yq Z Z<|ay isAgg59 Z<|ao Z<|z6<|zh<|zk (x:=.int _ _) Z ?_
 rfl
theorem yF (op:Int):aI prog E 148 [.int .i64 op] (.bool (decide (op=1))):=by
 refine zo func148 Z (by decide) Z<|ah<|ab Z<|z6<|ah<|aa Z<|ak Z Z<|ab Z<|z6<|zh<|zk (x:=.bool _) Z ?_
 simp_all
theorem yG:∀{l:List Int} (h:0<l.length),l.headD 0=l[0]
 |[],h=>absurd h (Nat.lt_irrefl 0)
 |_::_,_=>rfl
def gm (f:ad) (x:aB):Bool:=if x.op=1 then decide (bj f x.dst=bj f (x.args.headD 0)) else decide (x.args.map (bj f)=bo x.op)&&(!dU x.op||decide (bj f x.dst=kK x.op))
theorem gK {f:ad} {xs ts:List Int} {k:Nat} (h1:k<xs.length) (h2:k<ts.length) (h:(xs.take k).map (bj f)=ts.take k) (hk:bj f xs[k]=ts[k]):(xs.take (k+1)).map (bj f)=ts.take (k+1):=by
 rw[qj h1,qj h2,qt,h,List.map_cons,List.map_nil,hk]
theorem yH {f:ad} {xs ts:List Int} {k:Nat} (h1:k<xs.length) (h2:k<ts.length) (hk:¬bj f xs[k]=ts[k]):¬xs.map (bj f)=ts:=by
 intro e
 apply hk
 subst e
 rw[List.getElem_map]
theorem ua (f:ad) (x:aB) (ha:x.args.all (aT f)=true) (hl:x.args.length=(bo x.op).length) (hd:dU x.op=true→aT f x.dst=true) :
  aI prog E 105 [.agg (bD f),.agg (be x)] (.bool (gm f x)):=by
 have hlen:(bo x.op).length≤3:=by
  rcases nC x.op with h|h
  ·unfold bo;rw[h];decide
  ·have:∀r∈fX,r.2.1.data.toList.length≤3:=by decide
   have:=this _ h
   unfold bo;simpa using this
 refine zo func105 Z (by decide) Z<|ah<|ya (cs:=_) Z Z Z<|ya (cs:=_) Z Z Z<|ab Z<|z6<|zd<|ah<|aq wy Z jv Z Z<|ay jy Z<|zf (yF _) Z<|z6<|zw Z (fun c1=>?_) (fun c1=>?_)
 ·have e1:x.op=1:=by simpa using c1
  have hlz:0<x.args.length:=by rw[hl,e1];decide
  have hv0:aT f x.args[0]=true:=List.all_eq_true.1 ha _ (qm hlz)
  have hvd:aT f x.dst=true:=hd (by rw[e1];decide)
  refine zd<|zt (fun j=>false) (by kernel_rfl) Z (zm (.rest _))<|aj 0 Z (yt jj jh Z Z)<|aj 1 Z (bK wy Z wz Z Z)<|aj 2 Z (da j6 Z)<|aj 4 Z (yt jj jh Z Z)<|aj 5 Z (bK wy Z j5 Z Z)<|aj 6 Z (eH j9 Z)<|aj 7 Z (bx 0 wx wz Z Z Z (qi hlz))<|aj 8 Z (da j6 Z)<|aY 3 Z<|zf (eS _ _ (by assumption)) Z<|z6<|aY 9 Z<|zf (eS _ _ (by assumption)) Z<|z6<|aj 10 Z (Gv.eqlI Z Z)<|aj 11 Z (oO Z)<|bV<|zh<|zk (x:=.bool _) Z ?_
  exact jb (by unfold gm;rw[if_pos e1,yG hlz])
 ·have e1:¬x.op=1:=by simpa using c1
  refine zg<|zd<|ah<|aq wy Z jv Z Z<|ay jy Z<|zf (nE _) Z<|ap underlying218 Z<|aa Z<|z6<|zj<|y8 (γ:=Nat) [2,3,25,26] (fun k=>[(27,.int .i64 k)]) (fun k=>[]) (fun k=>k≤(bo x.op).length∧(x.args.take k).map (bj f)=(bo x.op).take k) (fun k=>(bo x.op).length - k) 0 aJ aE (⟨ql _,Z⟩) ?_
  rintro k ⟨hk,hall⟩
  refine ah<|aw Z Z<|z6<|zd<|zw Z (fun ck=>?_) (fun ck=>?_)
  ·have hk2:k<(bo x.op).length:=by simp at ck;omega
   have hk3:k<x.args.length:=by omega
   have hvk:aT f x.args[k]=true:=List.all_eq_true.1 ha _ (qm hk3)
   refine zg<|zd<|zj<|ah<|aa Z<|za (bx k underlying218 Yq Z Z Z (qi hk2))<|ay isAgg59 Z<|ao Z<|ao Z<|z6<|zd<|zt (fun j=>false) (by kernel_rfl) Z (zm (.rest _))<|aj 0 Z (yt jj jh Z Z)<|aj 1 Z (bK wy Z j5 Z Z)<|aj 2 Z (eH j9 Z)<|aj 3 Z (dF Z)<|aj 4 Z (bx k wx wz Z Z Z (qi hk3))<|aj 5 Z (da j6 Z)<|aj 7 Z (dF Z)<|aY 6 Z<|zf (eS _ _ (by assumption)) Z<|z6<|aj 8 Z (Gv.neqI Z Z)<|bV<|zu Z (fun cn=>?_) (fun cn=>?_)
   ·refine ah<|ab Z<|z6<|zh<|zk (x:=.bool _) Z ?_
    exact jb (by unfold gm;rw[if_neg e1,qw (yH hk3 hk2 (by simpa using cn))];rfl)
   ·refine zg<|aV<|aC Z Z<|aa Z<|z6 ?_
    exact ⟨k+1,iS,aJ,aE,⟨hk2,gK hk3 hk2 hall (by simpa using cn)⟩,by omega⟩
  ·have hkn:k=(bo x.op).length:=by simp at ck;omega
   subst hkn
   rw[qn,←hl,qn] at hall
   refine y7<|ah<|aq wy Z jv Z Z<|ay jy Z<|zf (nF _) Z<|za (iW Z)<|za (iJ Z Z)<|za (ij Z Z)<|ao Z<|ab Z<|z6<|ah<|ai Z<|aD Z<|ai Z<|zp (s:=50) Z (fun c1=>?_) (fun c1=>?_)
   ·refine z7 Z Z c1<|z7 Z Z c1<|z7 Z Z c1<|z7 Z Z c1<|z7 Z Z c1<|z7 Z Z c1<|ar Z c1 Z<|ab Z<|z6<|zh<|zk (x:=.bool _) Z ?_
    exact jb (by unfold gm;rw[if_neg e1,qv hall];simp_all)
   ·refine z8 Z Z c1<|ac jj jh Z Z<|z8 Z Z c1<|aq wy Z wz Z Z<|z8 Z Z c1<|ay j6 Z<|z8 Z Z c1<|zf (eS f x.dst (hd (by simp_all))) Z<|z8 Z Z c1<|aa Z<|z8 Z Z c1<|ak Z Z<|au Z c1 Z<|ab Z<|z6<|zh<|zk (x:=.bool _) Z ?_
    exact jb (by unfold gm;rw[if_neg e1,qv hall];simp_all)
def qL (f:ad) (p:eJ):Bool:=!(p.args.any fun v=>!decide (bj f v=bj f p.dst))
theorem ub (f:ad) (p:eJ) (v:Int) (hv:aT f v=true) (hd:aT f p.dst=true):aI prog E 146 ([.int .i64 v]++[.pf (bD f),.pf (d6 p)]) (.bool (!decide (bj f v=bj f p.dst))):=by
 refine zo func146 Z (by decide) Z<|ah<|ab Z<|z6<|zd<|zt (fun j=>false) (by kernel_rfl) Z (zm (.rest _))<|aj 0 Z (yt jj jh Z Z)<|aj 1 Z (dF Z)<|aj 3 Z (yt jj jh Z Z)<|aj 4 Z (bK jx Z wz Z Z)<|aj 5 Z (da j6 Z)<|aY 2 Z<|zf (eS _ _ (by assumption)) Z<|z6<|aY 6 Z<|zf (eS _ _ (by assumption)) Z<|z6<|aj 7 Z (Gv.neqI Z Z)<|aj 8 Z (oO Z)<|bV<|zh<|zk (x:=.bool _) Z ?_
 simp_all
theorem wu (f:ad) (p:eJ) (hp:vq p) (ha:p.args.all (aT f)=true) (hd:aT f p.dst=true):aI prog E 104 [.agg (bD f),.agg (d6 p)] (.bool (qL f p)):=by
 have hl1:=hp.1.lt
 refine zo func104 Z (by decide) Z<|ah<|ya (cs:=_) Z Z Z<|ya (cs:=_) Z Z Z<|ab Z<|z6<|ah<|aq jx Z j5 Z Z<|aH j9 Z<|za (Gv.func Z Z)<|zf (kL p.args (by omega) (fun v hv=>ub f p v (List.all_eq_true.1 ha v hv) hd)) Z<|aD Z<|ab Z<|z6<|zh<|zk (x:=.bool _) Z ?_
 rfl
def dH (f:ad) (t:ft):Bool:=if t.kind=0 then !decide (t.to0=0) else if t.kind=1 then decide (bj f t.var=1)&&!decide (t.to0=0)&&!decide (t.to1=0) else decide (bj f t.var=0)
theorem uc (f:ad) (t:ft) (h:¬t.kind=0→aT f t.var=true):aI prog E 106 [.agg (bD f),.agg (m6 t)] (.bool (dH f t)):=by
 refine zo func106 Z (by decide) Z<|ah<|ya (cs:=_) Z Z Z<|ya (cs:=_) Z Z Z<|ab Z<|z6<|zd<|ah<|aq j8 Z Zv Z Z<|ay Y3 Z<|z6<|zj<|ah<|ak Z Z<|ab Z<|z6<|zu Z (fun c2=>?_) (fun c2=>?_)
 ·refine ah<|aq j8 Z Z7 Z Z<|za (yw (j:=0) jw wz Z Z Z (by decide) Z)<|ay j6 Z<|aL Z Z<|ab Z<|z6<|zh<|zk (x:=.bool _) Z ?_
  exact jb (by unfold dH;simp_all)
 ·refine ah<|ak Z Z<|ab Z<|z6<|zu Z (fun c3=>?_) (fun c3=>?_)
  ·refine ah<|ac jj jh Z Z<|aq j8 Z wz Z Z<|ay j6 Z<|zf (eS f t.var (h (by simp_all))) Z<|ak Z Z<|ai Z<|zp (s:=20) Z (fun c4=>?_) (fun c4=>?_)
   ·refine z8 Z Z c4<|aq j8 Z Z7 Z Z<|z8 Z Z c4<|za (yw (j:=0) jw wz Z Z Z (by decide) Z)<|z8 Z Z c4<|ay j6 Z<|z8 Z Z c4<|aL Z Z<|ar Z c4 Z<|ai Z<|zp (s:=26) Z (fun c5=>?_) (fun c5=>?_)
    ·refine z8 Z Z c5<|aq j8 Z Z7 Z Z<|z8 Z Z c5<|za (yw (j:=1) jw wz Z Z Z (by decide) Z)<|z8 Z Z c5<|ay j6 Z<|z8 Z Z c5<|aL Z Z<|ar Z c5 Z<|ab Z<|z6<|zh<|zk (x:=.bool _) Z ?_
     exact jb (by unfold dH;simp_all)
    ·refine z7 Z Z c5<|z7 Z Z c5<|z7 Z Z c5<|z7 Z Z c5<|au Z c5 Z<|ab Z<|z6<|zh<|zk (x:=.bool _) Z ?_
     exact jb (by unfold dH;simp_all)
   ·refine z7 Z Z c4<|z7 Z Z c4<|z7 Z Z c4<|z7 Z Z c4<|au Z c4 Z<|ai Z<|z7 Z Z Z<|z7 Z Z Z<|z7 Z Z Z<|z7 Z Z Z<|au Z Z Z<|ab Z<|z6<|zh<|zk (x:=.bool _) Z ?_
    exact jb (by unfold dH;simp_all)
  ·refine zg<|ah<|ac jj jh Z Z<|aq j8 Z wz Z Z<|ay j6 Z<|zf (eS f t.var (h (by simp_all))) Z<|ak Z Z<|ab Z<|z6<|zh<|zk (x:=.bool _) Z ?_
   exact jb (by unfold dH;simp_all)
end Go.Proofs.YtdilpodccjlkgaaGreatDoor
namespace Go.Proofs.YtdilpodccjlkgaaGreatDoor
open Go.Proofs.Tryz
open Go.Proofs
variable {E:World}
set_option maxRecDepth 20000
theorem Cw:aI prog E 204 [] (.agg (lR AQ)):=by
 refine zo func204 Z (by decide) Z<|ah<|y5 (cs:=[.int .i64 0,.int .i64 0]) Yi Z Z<|fun i0=>z6<|ah<|za (y4 (cps:=[(0,[_]),(1,[_])]) (rs:=[_,_]) r9 Z Z Z)<|zz Z3 Z Z Z Z Z Z .head Z<|z6<|zh<|dx.c1 Z ⟨_,.head⟩ Zr Z3 Z ?_
 rfl
theorem Fh (n:Int):aI prog E 216 [.int .i64 n] (.agg (lR (vl n))):=by
 refine zo func216 Z (by decide) Z<|ah<|y5 (cs:=[.int .i64 0,.int .i64 0]) Yi Z Z<|fun i2=>z6<|ah<|aa Z<|aa Z<|za (y4 (cps:=[(0,[_]),(1,[_])]) (rs:=[_,_]) r9 Z Z Z)<|zz Z3 Z Z Z Z Z Z .head Z<|z6<|zh<|dx.c1 Z ⟨_,.head⟩ Zr Z3 Z ?_
 rfl
theorem DU (lo hi:Int):aI prog E 221 [.int .i64 lo,.int .i64 hi] (.agg (lR (rU lo hi))):=by
 refine zo func221 Z (by decide) Z<|ah<|y5 (cs:=[.int .i64 0,.int .i64 0]) Yi Z Z<|fun i4=>z6<|zd<|ah<|aa Z<|aa Z<|za (yx Z Z)<|z6<|zw Z (fun c=>?_) (fun c=>?_)
 ·refine ah<|zf (Cw) Z<|zz Z3 Z Z Z Z Z Z .head Z<|z6<|zh<|dx.c1 Z ⟨_,.head⟩ Zr Z3 Z ?_
  rw[rU,if_pos c];try rfl
 ·refine zg<|ah<|aa Z<|aa Z<|za (y4 (cps:=[(0,[_]),(1,[_])]) (rs:=[_,_]) r9 Z Z Z)<|zz Z3 Z Z Z Z Z Z .head Z<|z6<|zh<|dx.c1 Z ⟨_,.head⟩ Zr Z3 Z ?_
  rw[rU,if_neg c];try rfl
theorem lS (r:e7):aI prog E 189 [.agg (lR r)] (.bool (decide (r.2<r.1))):=by
 refine zo func189 Z (by decide) Z<|ah<|ya (cs:=_) Z Z Z<|ab Z<|z6<|ah<|aq Zq Z Zo Z Z<|ay Zz Z<|aq Zq Z Zo Z Z<|ay Zz Z<|za (yx Z Z)<|ab Z<|z6<|zh<|zk (x:=.bool _) Z ?_
 rfl
theorem DV (a b:e7):aI prog E 215 [.agg (lR a),.agg (lR b)] (.agg (lR (fN a b))):=by
 refine zo func215 Z (by decide) Z<|ah<|ya (cs:=_) Z Z Z<|ya (cs:=_) Z Z Z<|y5 (cs:=[.int .i64 0,.int .i64 0]) Yi Z Z<|fun i4=>z6<|zd<|zj<|ah<|ac Zr Z3 Z Z<|zf (lS _) Z<|ab Z<|z6<|zw Z (fun c1=>?_) (fun c1=>?_)
 ·refine ah<|aq Zq Z Zo Z Z<|ay Zz Z<|aq Zq Z Zo Z Z<|ay Zz Z<|zf (DU _ _) Z<|zz Z3 Z Z Z Z Z Z .head Z<|z6<|zh<|dx.c1 Z ⟨_,.head⟩ Zr Z3 Z ?_
  rw[fN,if_pos c1];try rfl
 ·refine ah<|ac Zr Z3 Z Z<|zf (lS _) Z<|ab Z<|z6<|zw Z (fun c2=>?_) (fun c2=>?_)
  ·refine ah<|ac Zr Z3 Z Z<|zz Z3 Z Z Z Z Z Z .head Z<|z6<|zh<|dx.c1 Z ⟨_,.head⟩ Zr Z3 Z ?_
   rw[fN,if_neg c1,if_pos c2];try rfl
  ·refine zg<|ah<|aq Zq Z Zo Z Z<|ay Zz Z<|aq Zq Z Zo Z Z<|ay Zz Z<|za (Gv.minI Z Z)<|aq Zq Z Zo Z Z<|ay Zz Z<|aq Zq Z Zo Z Z<|ay Zz Z<|za (Gv.maxI Z Z)<|za (y4 (cps:=[(0,[_]),(1,[_])]) (rs:=[_,_]) r9 Z Z Z)<|zz Z3 Z Z Z Z Z Z .head Z<|z6<|zh<|dx.c1 Z ⟨_,.head⟩ Zr Z3 Z ?_
   rw[fN,if_neg c1,if_neg c2];try rfl
theorem yI (b:Bool):aI prog E 207 [.bool b] (.int .i64 (if b=true then Cr else Cs)):=by
 refine zo func207 Z (by decide) Z<|ah<|ao Z<|z6<|zd<|ah<|ai Z<|z6<|zu Z (fun c1=>?_) (fun c1=>?_)
 ·refine ah<|ao Z<|z6<|zh<|zk (x:=.int _ _) Z ?_
  simp_all[Cr,Cs]
 ·refine zg<|ah<|ao Z<|z6<|zh<|zk (x:=.int _ _) Z ?_
  simp_all[Cr,Cs]
theorem Cx (op:Int):aI prog E 188 [.int .i64 op] (.bool (decide (op=2)||(decide (op=3)||decide (op=4)))):=by
 refine zo func188 Z (by decide) Z<|ah<|ab Z<|z6<|ah<|aa Z<|ak Z Z<|ai Z<|zp (s:=5) Z (fun c2=>?_) (fun c2=>?_)
 ·refine z7 Z Z c2<|z7 Z Z c2<|ar Z c2 Z<|ai Z<|z7 Z Z Z<|z7 Z Z Z<|ar Z Z Z<|ab Z<|z6<|zh<|zk (x:=.bool _) Z ?_
  exact jb (by simp_all)
 ·refine z8 Z Z c2<|aa Z<|z8 Z Z c2<|ak Z Z<|au Z c2 Z<|ai Z<|zp (s:=9) Z (fun c3=>?_) (fun c3=>?_)
  ·refine z7 Z Z c3<|z7 Z Z c3<|ar Z c3 Z<|ab Z<|z6<|zh<|zk (x:=.bool _) Z ?_
   exact jb (by simp_all)
  ·refine z8 Z Z c3<|aa Z<|z8 Z Z c3<|ak Z Z<|au Z c3 Z<|ab Z<|z6<|zh<|zk (x:=.bool _) Z ?_
   exact jb (by simp_all)
theorem EN {x y:Int} (hx:dG x) (hy:dG y):aI prog E 205 [.int .i64 x,.int .i64 y] (.tup [.int .i64 (IntKind.i64.wrap (x+y)),.bool (decide (e8 0 x y))]):=by
 rw[←EK hx hy]
 refine zo func205 Z (by decide) Z<|ah<|ao Z<|ab Z<|z6<|ah<|aa Z<|aa Z<|za (Gv.addW Z Z)<|ao Z<|z6<|ah<|aa Z<|aa Z<|aw Z Z<|aa Z<|aw Z Z<|za (Gv.neqB Zy Z Z)<|ai Z<|zp (s:=16) Z (fun c4=>?_) (fun c4=>?_)
 ·refine z7 Z Z c4<|z7 Z Z c4<|z7 Z Z c4<|z7 Z Z c4<|z7 Z Z c4<|ar Z c4 Z<|ao Z<|ab Z<|z6<|zh<|qc (x:=.int _ _) (y:=.bool _) Z Z ?_
  simp_all
 ·refine z8 Z Z c4<|aa Z<|z8 Z Z c4<|aw Z Z<|z8 Z Z c4<|aa Z<|z8 Z Z c4<|aw Z Z<|z8 Z Z c4<|za (Gv.eqlB Zy Z Z)<|au Z c4 Z<|ao Z<|ab Z<|z6<|zh<|qc (x:=.int _ _) (y:=.bool _) Z Z ?_
  simp_all
theorem EO {x y:Int} (hx:dG x) (hy:dG y):aI prog E 208 [.int .i64 x,.int .i64 y] (.tup [.int .i64 (IntKind.i64.wrap (x - y)),.bool (decide (e8 1 x y))]):=by
 rw[←EL hx hy]
 refine zo func208 Z (by decide) Z<|ah<|ao Z<|ab Z<|z6<|ah<|aa Z<|aa Z<|za (Gv.subW Z Z)<|ao Z<|z6<|ah<|aa Z<|aa Z<|aw Z Z<|aa Z<|aw Z Z<|za (Gv.eqlB Zy Z Z)<|ai Z<|zp (s:=16) Z (fun c5=>?_) (fun c5=>?_)
 ·refine z7 Z Z c5<|z7 Z Z c5<|z7 Z Z c5<|z7 Z Z c5<|z7 Z Z c5<|ar Z c5 Z<|ao Z<|ab Z<|z6<|zh<|qc (x:=.int _ _) (y:=.bool _) Z Z ?_
  simp_all
 ·refine z8 Z Z c5<|aa Z<|z8 Z Z c5<|aw Z Z<|z8 Z Z c5<|aa Z<|z8 Z Z c5<|aw Z Z<|z8 Z Z c5<|za (Gv.eqlB Zy Z Z)<|au Z c5 Z<|ao Z<|ab Z<|z6<|zh<|qc (x:=.int _ _) (y:=.bool _) Z Z ?_
  simp_all
theorem DW {x:Int} (hx:dG x):aI prog E 217 [.int .i64 x] (.int .u64 (x.natAbs:Int)):=by
 rw[←xZ hx]
 refine zo func217 Z (by decide) Z<|ah<|ao Z<|z6<|zd<|ah<|aa Z<|aw Z Z<|z6<|zw Z (fun c=>?_) (fun c=>?_)
 ·refine ah<|aa Z<|za (Gv.conv underlying2 underlying199 Z)<|za (Gv.neg Z)<|ao Z<|z6<|zh<|zk (x:=.int _ _) Z ?_
  rw[if_pos c];try rfl
 ·refine zg<|ah<|aa Z<|za (Gv.conv underlying2 underlying199 Z)<|ao Z<|z6<|zh<|zk (x:=.int _ _) Z ?_
  rw[if_neg c];try rfl
end Go.Proofs.YtdilpodccjlkgaaGreatDoor
