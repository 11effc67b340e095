/- Ranges of numbers: what the program's functions answer. Of int64s. -/
import Derived.Test.YtdilpodccjlkgaaGreatDoorHc
import Derived.Test.YtdilpodccjlkgaaGreatDoorHb
import Derived.Test.YtdilpodccjlkgaaGreatDoorChecked
set_option linter.unusedVariables false
set_option linter.unusedSimpArgs false
set_option linter.unusedSectionVars false
namespace Go.Proofs.YtdilpodccjlkgaaGreatDoor
open Go.Proofs.Tryz
open Go.Proofs Go.Lib Go.Shelf Go.RowKit
variable {E:World}
set_option maxRecDepth 20000
structure mH (n:Nat) (l:List eu):Prop where
 le:n≤2000
 fac:∀q∈l,vn n q∧(-bo≤q.c∧q.c≤bo)
 len:l.length≤10000
theorem qY {α:Type} {k:Nat}:∀{rows:List (List α)} {j i:Nat} {r:List α} {v:α},(∀x∈rows,x.length=k)→rows[j]?=some r→i<k→rows.flatten.set (j*k+i) v=(rows.set j (r.set i v)).flatten
 |x::rows,0,i,r,v,hk,h,hi=>by
  cases h
  rw[List.flatten_cons,Nat.zero_mul,Nat.zero_add,List.set_append_left _ _ (by rw[hk x (.head _)];exact hi)];rfl
 |x::rows,j+1,i,r,v,hk,h,hi=>by
  have h1:=hk x (.head _)
  rw[List.flatten_cons,List.set_append_right _ _ (by rw[h1,Nat.succ_mul];omega),h1,show (j+1)*k+i - k=j*k+i by rw[Nat.succ_mul];omega,qY (fun y hy=>hk y (.tail _ hy)) h hi];rfl
theorem AU {n:Nat} {b:Int}:((ga n b).map fG).flatten=((List.replicate n [AV.bool false,.int .i64 0]).set b.toNat [.bool true,.int .i64 0]).flatten:=by
 unfold ga
 rw[List.map_set,List.map_replicate];rfl
theorem C3 {n:Nat} {b:Int} (hb:gj n b):(List.replicate n [AV.bool false,.int .i64 0]).flatten.set (b.toNat*2+0) (.bool true)=((ga n b).map fG).flatten:=by
 unfold gj at hb
 rw[AU,qY (r:=[AV.bool false,.int .i64 0]) (fun x hx=>by rw[(List.mem_replicate.1 hx).2];rfl) (by rw[List.getElem?_replicate,if_pos (by omega)]) (by decide)];rfl
theorem AW (n:Nat) (x y:AV):(List.replicate n [x,y]).flatten.length=n*2:=by
 induction n with
 |zero=>rfl
 |succ n ih=>rw[List.replicate_succ,List.flatten_cons,qq,ih,Nat.succ_mul];show 2+_=_;omega
theorem EJ {n i:Nat} (h:i<n):i*2+0<(List.replicate n (List.map lit [Value.bool false,Value.int IntKind.i64 0])).flatten.length:=by
 have h2:(List.replicate n (List.map lit [Value.bool false,Value.int IntKind.i64 0])).flatten.length=n*2:=AW n (AV.bool false) (.int .i64 0)
 omega
theorem ki (n:Nat) (l:List eu) (y:AV) (hl:mH n l) {a b:Int} (ha:gj n a) (hb:gj n b):aK prog E 156 [wT n l y,.int .i64 a,.int .i64 b] (.tup [.int .i64 ((dE l n a b).getD 0),.bool (dE l n a b).isSome]):=by
 have hn:=hl.le
 have ha2:=ha
 have hb2:=hb
 unfold gj at ha2 hb2
 have hsa:=kQ (E:=E) n (.fro 3 (l.map bf)) y a
 rw[qx (show 0≤a∧a<n from ha2)] at hsa
 have hsb:=kQ (E:=E) n (.fro 3 (l.map bf)) y b
 rw[qx (show 0≤b∧b<n from hb2)] at hsb
 have hfur:=fun r k h1 h2 h3=>yB (E:=E) n l y r k h1 h2 hn hl.fac hl.len h3
 unfold wT at hfur ⊢
 refine zq func156 U (by decide) U<|ae<|ap U<|ab U<|z6<|zd<|ae<|bg U<|aa U<|ze (hsa) U<|aB U<|aj U<|z8 U U U<|bg U<|z8 U U U<|aa U<|z8 U U U<|ze (hsb) U<|z8 U U U<|aB U<|au U U U<|z6<|yg U U<|zg<|ae<|bg U<|za (yc U)<|ao Zl U j6 U U<|ay j7 U<|az.makeZ (m:=n) [.bool false,.int .i64 0] Ya type261 U U U (by decide) (by decide) U U (by simp) (by simp) (by show (16:Int)*_≤_;omega) (by omega)<|fun i25=>za (gZ U)<|z6<|ae<|bz U<|aa U<|za (Gv.idxO (j:=b.toNat) Ya Yz U U (by omega) ⟨_,.head⟩ (fun h=>by have:=congrArg List.length h;simp at this;omega) (by omega))<|za (zn Ym U Zc (by decide) U U)<|az.storeGN (new:=((ga n b).map fG).flatten) Zc U U U U U .head (EJ (by omega)) (C3 hb)<|z6<|y3 (aX.know (t:=8) (rows:=(ga n b).map fG) U .head (by exact iz _) (by decide) (by rw[qr,ka])) ?_
 refine zd<|ae<|ap U<|ab U<|z6<|zj<|y8 (γ:=Nat × Bool × List (Option Int)) [0,1] (fun g=>[(9,.int .i64 g.1),(10,.bool g.2.1),(8,.fro 2 (g.2.2.map fG))]) (fun g=>[]) (fun g=>g.1≤6∧g.2.2=xN l g.1 (ga n b)∧(g.2.1=false→mD l g.2.2=g.2.2)) (fun g=>6 - g.1) (0,true,ga n b) de aD (⟨qn _,U,fun h=>by cases h⟩) ?_
 rintro ⟨k,again,r⟩ ⟨hk,hr,hag⟩
 try dsimp only at *
 refine zd<|zd<|ya (γ:=Bool) [0,1,8,9] (fun u=>[(34,.bool u)]) (fun u=>[]) (fun u=>u=(decide (k<6)&&again)) ?_ (fun _ _ h=>h) ?_
 ·refine aO<|aa U<|ax U U<|aj U<|zo (s:=32) U (fun c1=>?_) (fun c1=>?_)
  ·refine z8 U U c1<|aj U<|aq U c1 U<|z6 ?_
   exact ⟨_,fl,aH,aD,by simp_all<;>omega⟩
  ·refine z7 U U c1<|au U c1 U<|z6 ?_
   exact ⟨_,fl,aH,aD,by simp_all<;>omega⟩
 ·rintro u hu
  refine zy U (fun cu=>?_) (fun cu=>?_)
  ·have hu2:k<6∧again=true:=by rw[hu] at cu;simpa using cu
   have hrl:r.length=n:=by rw[hr,vm,ka]
   have hsr:lS k r:=by
    have:=lS.it (fun q hq=>(hl.fac q hq).2) k 0 _ (lS.beg n b)
    rw[Nat.zero_add] at this
    rw[hr];exact this
   refine zg<|zd<|zj<|aO<|bg U<|aT U<|ze (hfur r k (by omega) hrl hsr) U<|bR U<|za (yz (v:=.fro _ _) U U)<|bZ U U<|za (kO U)<|ab U<|z6<|aO<|aa U<|aC U U<|ap U<|z6 ?_
   exact ⟨(k+1,(xP l r).2,mD l r),cV,de,aD,⟨by omega,by rw[vo,←hr];rfl,fun h=>by rw[(rR l r).2 h,(rR l r).2 h]⟩,by dsimp only;omega⟩
  ·have hfin:r=xN l 6 (ga n b):=by
    rw[hu] at cu
    by_cases h6:k<6
    ·have:again=false:=by simpa [h6] using cu
     have h2:=wH (hag this) (6 - k)
     have h3:=vo l k (6 - k) (ga n b)
     rw[show k+(6 - k)=6 by omega,←hr,h2] at h3
     exact h3.symm
    ·rw[hr,show k=6 by omega]
   have hrl:r.length=n:=by rw[hr,vm,ka]
   have hlea:dE l n a b=jn r a:=by unfold dE;rw[hfin]
   rw[hlea]
   have hra:=oq hrl ha
   refine y7<|zd<|ae<|aT U<|aa U<|za (bh a.toNat Ya Yz U U (by omega) hra)<|ao Ym U Zc U U<|za (yn (c:=.bool _) Y7 U)<|aB U<|z6<|zy U (fun cr=>?_) (fun cr=>?_)
   ·refine ae<|ap U<|ab U<|z6<|zi<|q7 (x:=.int _ _) (y:=.bool _) U U ?_
    exact (by cases h:jn r a with|none=>rfl|some m=>rw[h] at cr;cases cr)
   ·refine zg<|ae<|aT U<|aa U<|za (bh a.toNat Ya Yz U U (by omega) hra)<|ao Ym U Za U U<|ay Zj U<|ap U<|ab U<|z6<|zi<|q7 (x:=.int _ _) (y:=.bool _) U U ?_
    exact (by cases h:jn r a with|none=>rw[h] at cr;cases cr|some m=>rfl)
theorem p7 (n:Nat) (l:List eu) (y:AV) (hl:mH n l) {a b:Int} (ha:gj n a) (hb:gj n b) (c:Int):aK prog E 113 [wT n l y,.int .i64 a,.int .i64 b,.int .i64 c] (.bool (gB l n a b c)):=by
 have hle:=ki (E:=E) n l y hl ha hb
 unfold wT at hle ⊢
 refine zq func113 U (by decide) U<|ae<|ab U<|z6<|ae<|bg U<|aa U<|aa U<|ze (hle) U<|bR U<|bJ U U<|bZ U U<|ap U<|ab U<|z6<|ae<|aj U<|aj U<|zo (s:=19) U (fun c2=>?_) (fun c2=>?_)
 ·refine z8 U U c2<|aa U<|z8 U U c2<|aa U<|z8 U U c2<|za (qb U U)<|aq U c2 U<|ab U<|z6<|zi<|zm (x:=.bool _) U ?_
  exact congrArg AV.bool (by unfold gB;cases h:dE l n a b with|none=>simp_all|some m=>simp_all)
 ·refine z7 U U c2<|z7 U U c2<|z7 U U c2<|au U c2 U<|ab U<|z6<|zi<|zm (x:=.bool _) U ?_
  exact congrArg AV.bool (by unfold gB;cases h:dE l n a b with|none=>simp_all|some m=>simp_all)
end Go.Proofs.YtdilpodccjlkgaaGreatDoor
namespace Go.Proofs.YtdilpodccjlkgaaGreatDoor
open Go.Proofs.Tryz
open Go.Proofs Go.Lib Go.Shelf Go.RowKit
theorem tC:cX prog 226 #[(0,1),(1,1)] [.int .i64 0,.int .i64 0]:=⟨_,_,Zv,Yr,fun w=>by kernel_rfl,rfl⟩
variable {E:World}
set_option maxRecDepth 20000
def vt (f0 f1 f2 t m pr:AV) (n:Nat) (l:List eu) (q:Int) (ps:AV):AV:=.pf [f0,f1,f2,t,m,pr,wT n l .any,.int .i64 q,ps,.any,.any]
theorem l7 {n:Nat} {l:List eu} (hl:mH n l) {a b:Int}:-6917529027641081856≤(dE l n a b).getD 0∧(dE l n a b).getD 0≤6917529027641081856:=by
 cases h:dE l n a b with
 |none=>exact ⟨by decide,by decide⟩
 |some m=>exact xO (fun q hq=>(hl.fac q hq).2) h
theorem r9 {x:Int} (h:-6917529027641081856≤x∧x≤6917529027641081856):IntKind.i64.wrap (0 - x)=-x:=by
 rw[rX];omega
section
variable {f0 f1 f2 t m pr ps:AV} {n:Nat} {l:List eu} {q v:Int} (hl:mH n l) (hv:gj n v) (hq:gj n q)
include hl hv hq
theorem tD:aK prog E 117 [vt f0 f1 f2 t m pr n l q ps,.int .i64 v] (.tup [.int .i64 ((dE l n v q).getD 0),.bool (dE l n v q).isSome]):=by
 have hle:=ki (E:=E) n l .any hl hv hq
 unfold vt
 unfold wT at hle ⊢
 refine zq func117 U (by decide) U<|ae<|ap U<|ab U<|z6<|zd<|zw (fun j=>false) (by kernel_rfl) U (zh (.rest _))<|ak 0 U (gD U)<|ak 1 U (yc U)<|ak 2 U (bx je U Z8 U U)<|ak 3 U (yn (c:=.pf _) Zg U)<|ak 4 U (dq U)<|ak 5 U (gD U)<|ak 6 U (yc U)<|ak 7 U (bx je U j6 U U)<|ak 8 U (b7 j7 U)<|ba 9 U<|ze (hle) U<|z6<|ak 10 U (D8 U U)<|ak 11 U (D9 U U)<|ak 12 U (mA U)<|ak 13 U (lT U)<|bY<|zi<|q7 (x:=.int _ _) (y:=.bool _) U U ?_
 rfl
theorem ly:aK prog E 152 [vt f0 f1 f2 t m pr n l q ps,.int .i64 v] (.tup [.int .i64 (-(dE l n q v).getD 0),.bool (dE l n q v).isSome]):=by
 have hle:=ki (E:=E) n l .any hl hq hv
 have hr:=l7 hl (a:=q) (b:=v)
 unfold vt
 unfold wT at hle ⊢
 refine zq func152 U (by decide) U<|ae<|ap U<|ab U<|z6<|zd<|zw (fun j=>false) (by kernel_rfl) U (zh (.rest _))<|ak 0 U (gD U)<|ak 1 U (yc U)<|ak 2 U (bx je U Z8 U U)<|ak 3 U (yn (c:=.pf _) Zg U)<|ak 4 U (gD U)<|ak 5 U (yc U)<|ak 6 U (bx je U j6 U U)<|ak 7 U (b7 j7 U)<|ak 8 U (dq U)<|ba 9 U<|ze (hle) U<|z6<|ak 10 U (Ft U)<|ak 11 U (D8 U U)<|ak 12 U (D9 U U)<|ak 13 U (mA U)<|ak 14 U (lT U)<|bY<|ae<|aa U<|za (Gv.neg U)<|aj U<|ap U<|ab U<|z6<|zi<|q7 (x:=.int _ _) (y:=.bool _) U U ?_
 rw[r9 hr]
theorem yC:aK prog E 116 [vt f0 f1 f2 t m pr n l q ps,.int .i64 v] (.bool (gB l n q v 0)):=by
 have hdn:=ly (E:=E) (f0:=f0) (f1:=f1) (f2:=f2) (t:=t) (m:=m) (pr:=pr) (ps:=ps) hl hv hq
 unfold vt at hdn ⊢
 refine zq func116 U (by decide) U<|ae<|ab U<|z6<|ae<|bg U<|aa U<|ze (hdn) U<|bR U<|bJ U U<|bZ U U<|ap U<|ab U<|z6<|ae<|aj U<|aj U<|zo (s:=14) U (fun c1=>?_) (fun c1=>?_)
 ·refine z8 U U c1<|aa U<|z8 U U c1<|za (yy U U)<|aq U c1 U<|ab U<|z6<|zi<|zm (x:=.bool _) U ?_
  exact congrArg AV.bool (by unfold gB;cases h:dE l n q v with|none=>simp_all|some k=>simp_all<;>omega)
 ·refine z7 U U c1<|z7 U U c1<|au U c1 U<|ab U<|z6<|zi<|zm (x:=.bool _) U ?_
  exact congrArg AV.bool (by unfold gB;cases h:dE l n q v with|none=>simp_all|some k=>simp_all<;>omega)
theorem ot:aK prog E 157 [vt f0 f1 f2 t m pr n l q ps,.int .i64 v] (.tup [.agg [.int .i64 (-(dE l n q v).getD 0),.int .i64 ((dE l n v q).getD 0)],.bool ((dE l n q v).isSome&&(dE l n v q).isSome)]):=by
 have hdn:=ly (E:=E) (f0:=f0) (f1:=f1) (f2:=f2) (t:=t) (m:=m) (pr:=pr) (ps:=ps) hl hv hq
 have hup:=tD (E:=E) (f0:=f0) (f1:=f1) (f2:=f2) (t:=t) (m:=m) (pr:=pr) (ps:=ps) hl hv hq
 unfold vt at hdn hup ⊢
 refine zq func157 U (by decide) U<|ae<|y6 (cs:=[.int .i64 0,.int .i64 0]) Yr U U<|fun i4=>ab U<|z6<|ae<|bg U<|aa U<|ze (hdn) U<|bR U<|bJ U U<|bZ U U<|ap U<|ab U<|z6<|ae<|bg U<|aa U<|ze (hup) U<|bR U<|bJ U U<|bZ U U<|ap U<|ab U<|z6<|ae<|aa U<|aa U<|za (y5 (cps:=[(0,[_]),(1,[_])]) (rs:=[_,_]) tC U U U)<|aj U<|aj U<|zo (s:=26) U (fun c2=>?_) (fun c2=>?_)
 ·refine z8 U U c2<|aj U<|aq U c2 U<|y1 Z9 U U U U U U .head U<|ab U<|z6<|zi<|dI.c1t (y:=.bool _) U U ⟨_,.head⟩ Zy Z9 U ?_
  exact congrArg (fun b=>AV.tup [.agg [.int .i64 (-(dE l n q v).getD 0),.int .i64 ((dE l n v q).getD 0)],.bool b]) (by simp_all)
 ·refine z7 U U c2<|au U c2 U<|y1 Z9 U U U U U U .head U<|ab U<|z6<|zi<|dI.c1t (y:=.bool _) U U ⟨_,.head⟩ Zy Z9 U ?_
  exact congrArg (fun b=>AV.tup [.agg [.int .i64 (-(dE l n q v).getD 0),.int .i64 ((dE l n v q).getD 0)],.bool b]) (by simp_all)
end
end Go.Proofs.YtdilpodccjlkgaaGreatDoor
namespace Go.Proofs.YtdilpodccjlkgaaGreatDoor
open Go.Proofs.Tryz
open Go.Proofs
theorem dQ:cX prog 250 #[(0,1),(1,1),(2,1)] [.str ⟨#[]⟩,.str ⟨#[]⟩,.str ⟨#[]⟩]:=⟨_,_,underlying250,zeroValue250,fun w=>by kernel_rfl,rfl⟩
theorem FT:lZ prog 275 3 [.str ⟨#[]⟩,.str ⟨#[]⟩,.str ⟨#[]⟩,.str ⟨#[]⟩,.str ⟨#[]⟩,.str ⟨#[]⟩,.str ⟨#[]⟩,.str ⟨#[]⟩,.str ⟨#[]⟩,.str ⟨#[]⟩,.str ⟨#[]⟩,.str ⟨#[]⟩,.str ⟨#[]⟩,.str ⟨#[]⟩,.str ⟨#[]⟩,.str ⟨#[]⟩,.str ⟨#[]⟩,.str ⟨#[]⟩,.str ⟨#[]⟩,.str ⟨#[]⟩,.str ⟨#[]⟩,.str ⟨#[]⟩,.str ⟨#[]⟩,.str ⟨#[]⟩,.str ⟨#[]⟩,.str ⟨#[]⟩,.str ⟨#[]⟩,.str ⟨#[]⟩,.str ⟨#[]⟩,.str ⟨#[]⟩,.str ⟨#[]⟩,.str ⟨#[]⟩,.str ⟨#[]⟩,.str ⟨#[]⟩,.str ⟨#[]⟩,.str ⟨#[]⟩,.str ⟨#[]⟩,.str ⟨#[]⟩,.str ⟨#[]⟩,.str ⟨#[]⟩,.str ⟨#[]⟩,.str ⟨#[]⟩,.str ⟨#[]⟩,.str ⟨#[]⟩,.str ⟨#[]⟩,.str ⟨#[]⟩,.str ⟨#[]⟩,.str ⟨#[]⟩,.str ⟨#[]⟩,.str ⟨#[]⟩,.str ⟨#[]⟩,.str ⟨#[]⟩,.str ⟨#[]⟩,.str ⟨#[]⟩,.str ⟨#[]⟩,.str ⟨#[]⟩,.str ⟨#[]⟩,.str ⟨#[]⟩,.str ⟨#[]⟩,.str ⟨#[]⟩,.str ⟨#[]⟩,.str ⟨#[]⟩,.str ⟨#[]⟩,.str ⟨#[]⟩,.str ⟨#[]⟩,.str ⟨#[]⟩,.str ⟨#[]⟩,.str ⟨#[]⟩,.str ⟨#[]⟩,.str ⟨#[]⟩,.str ⟨#[]⟩,.str ⟨#[]⟩,.str ⟨#[]⟩,.str ⟨#[]⟩,.str ⟨#[]⟩,.str ⟨#[]⟩,.str ⟨#[]⟩,.str ⟨#[]⟩,.str ⟨#[]⟩,.str ⟨#[]⟩,.str ⟨#[]⟩]:=⟨_,_,_,underlying275,zeroValue275,sizeOf250,rfl⟩
variable {E:World}
set_option maxRecDepth 20000
def gk:List (ByteArray × ByteArray × ByteArray):=[(⟨#[99,111,110,115,116]⟩,⟨#[]⟩,⟨#[105]⟩),
 (⟨#[99,111,112,121]⟩,⟨#[105]⟩,⟨#[105]⟩),
 (⟨#[97,100,100]⟩,⟨#[105,105]⟩,⟨#[105]⟩),
 (⟨#[115,117,98]⟩,⟨#[105,105]⟩,⟨#[105]⟩),
 (⟨#[109,117,108]⟩,⟨#[105,105]⟩,⟨#[105]⟩),
 (⟨#[100,105,118]⟩,⟨#[105,105]⟩,⟨#[105]⟩),
 (⟨#[114,101,109]⟩,⟨#[105,105]⟩,⟨#[105]⟩),
 (⟨#[101,113]⟩,⟨#[105,105]⟩,⟨#[98]⟩),
 (⟨#[108,116]⟩,⟨#[105,105]⟩,⟨#[98]⟩),
 (⟨#[108,101]⟩,⟨#[105,105]⟩,⟨#[98]⟩),
 (⟨#[110,111,116]⟩,⟨#[98]⟩,⟨#[98]⟩),
 (⟨#[97,110,100]⟩,⟨#[98,98]⟩,⟨#[98]⟩),
 (⟨#[108,101,110]⟩,⟨#[97]⟩,⟨#[105]⟩),
 (⟨#[108,111,97,100]⟩,⟨#[97,105]⟩,⟨#[105]⟩),
 (⟨#[115,116,111,114,101]⟩,⟨#[97,105,105]⟩,⟨#[]⟩),
 (⟨#[110,101,119]⟩,⟨#[105]⟩,⟨#[97]⟩),
 (⟨#[110,105,108]⟩,⟨#[]⟩,⟨#[97]⟩),
 (⟨#[111,117,116]⟩,⟨#[105]⟩,⟨#[]⟩),
 (⟨#[99,104,107,105,100,120]⟩,⟨#[97,105]⟩,⟨#[]⟩),
 (⟨#[99,104,107,110,105,108]⟩,⟨#[97]⟩,⟨#[]⟩),
 (⟨#[99,104,107,100,105,118]⟩,⟨#[105]⟩,⟨#[]⟩),
 (⟨#[99,104,107,97,100,100]⟩,⟨#[105,105]⟩,⟨#[]⟩),
 (⟨#[99,104,107,115,117,98]⟩,⟨#[105,105]⟩,⟨#[]⟩),
 (⟨#[99,104,107,109,117,108]⟩,⟨#[105,105]⟩,⟨#[]⟩),
 (⟨#[99,104,107,108,101,110]⟩,⟨#[105]⟩,⟨#[]⟩),
 (⟨#[112,105]⟩,⟨#[105,105]⟩,⟨#[105]⟩),
 (⟨#[112,105,108,101,110]⟩,⟨#[105,97]⟩,⟨#[105]⟩)]
def cJ (op:Int):ByteArray × ByteArray × ByteArray:=if 0≤op then gk[op.toNat]?.getD (⟨#[]⟩,⟨#[]⟩,⟨#[]⟩) else (⟨#[]⟩,⟨#[]⟩,⟨#[]⟩)
def p8 (op:Int):Bool:=decide (0≤op)&&decide (op<27)
def p9 (r:ByteArray × ByteArray × ByteArray):List AV:=[.str r.1,.str r.2.1,.str r.2.2]
theorem C4 (op:Int):aK prog E 200 [.int .i64 op] (.bool (p8 op)):=by
 refine zq func200 U (by decide) U<|ae<|ab U<|z6<|ae<|aa U<|za (yy U U)<|aj U<|zo (s:=5) U (fun c1=>?_) (fun c1=>?_)
 ·refine z8 U U c1<|aa U<|z8 U U c1<|ax U U<|aq U c1 U<|ab U<|z6<|zi<|zm (x:=.bool _) U ?_
  simp_all[p8]<;>omega
 ·refine z7 U U c1<|z7 U U c1<|au U c1 U<|ab U<|z6<|zi<|zm (x:=.bool _) U ?_
  simp_all[p8]<;>omega
set_option maxHeartbeats 4000000 in
theorem vu:aK prog E 201 [] (.agg (gk.flatMap p9)):=by
 refine zq func201 U (by decide) U<|ae<|y6 (cs:=[.str ⟨#[]⟩,.str ⟨#[]⟩,.str ⟨#[]⟩,.str ⟨#[]⟩,.str ⟨#[]⟩,.str ⟨#[]⟩,.str ⟨#[]⟩,.str ⟨#[]⟩,.str ⟨#[]⟩,.str ⟨#[]⟩,.str ⟨#[]⟩,.str ⟨#[]⟩,.str ⟨#[]⟩,.str ⟨#[]⟩,.str ⟨#[]⟩,.str ⟨#[]⟩,.str ⟨#[]⟩,.str ⟨#[]⟩,.str ⟨#[]⟩,.str ⟨#[]⟩,.str ⟨#[]⟩,.str ⟨#[]⟩,.str ⟨#[]⟩,.str ⟨#[]⟩,.str ⟨#[]⟩,.str ⟨#[]⟩,.str ⟨#[]⟩,.str ⟨#[]⟩,.str ⟨#[]⟩,.str ⟨#[]⟩,.str ⟨#[]⟩,.str ⟨#[]⟩,.str ⟨#[]⟩,.str ⟨#[]⟩,.str ⟨#[]⟩,.str ⟨#[]⟩,.str ⟨#[]⟩,.str ⟨#[]⟩,.str ⟨#[]⟩,.str ⟨#[]⟩,.str ⟨#[]⟩,.str ⟨#[]⟩,.str ⟨#[]⟩,.str ⟨#[]⟩,.str ⟨#[]⟩,.str ⟨#[]⟩,.str ⟨#[]⟩,.str ⟨#[]⟩,.str ⟨#[]⟩,.str ⟨#[]⟩,.str ⟨#[]⟩,.str ⟨#[]⟩,.str ⟨#[]⟩,.str ⟨#[]⟩,.str ⟨#[]⟩,.str ⟨#[]⟩,.str ⟨#[]⟩,.str ⟨#[]⟩,.str ⟨#[]⟩,.str ⟨#[]⟩,.str ⟨#[]⟩,.str ⟨#[]⟩,.str ⟨#[]⟩,.str ⟨#[]⟩,.str ⟨#[]⟩,.str ⟨#[]⟩,.str ⟨#[]⟩,.str ⟨#[]⟩,.str ⟨#[]⟩,.str ⟨#[]⟩,.str ⟨#[]⟩,.str ⟨#[]⟩,.str ⟨#[]⟩,.str ⟨#[]⟩,.str ⟨#[]⟩,.str ⟨#[]⟩,.str ⟨#[]⟩,.str ⟨#[]⟩,.str ⟨#[]⟩,.str ⟨#[]⟩,.str ⟨#[]⟩]) zeroValue275 U U<|fun i0=>z6<|ae<|za (y5 (cps:=[(0,[_]),(1,[_]),(2,[_])]) (rs:=[_,_,_]) dQ U U U)<|za (y5 (cps:=[(0,[_]),(1,[_]),(2,[_])]) (rs:=[_,_,_]) dQ U U U)<|za (y5 (cps:=[(0,[_]),(1,[_]),(2,[_])]) (rs:=[_,_,_]) dQ U U U)<|za (y5 (cps:=[(0,[_]),(1,[_]),(2,[_])]) (rs:=[_,_,_]) dQ U U U)<|za (y5 (cps:=[(0,[_]),(1,[_]),(2,[_])]) (rs:=[_,_,_]) dQ U U U)<|za (y5 (cps:=[(0,[_]),(1,[_]),(2,[_])]) (rs:=[_,_,_]) dQ U U U)<|za (y5 (cps:=[(0,[_]),(1,[_]),(2,[_])]) (rs:=[_,_,_]) dQ U U U)<|za (y5 (cps:=[(0,[_]),(1,[_]),(2,[_])]) (rs:=[_,_,_]) dQ U U U)<|za (y5 (cps:=[(0,[_]),(1,[_]),(2,[_])]) (rs:=[_,_,_]) dQ U U U)<|za (y5 (cps:=[(0,[_]),(1,[_]),(2,[_])]) (rs:=[_,_,_]) dQ U U U)<|za (y5 (cps:=[(0,[_]),(1,[_]),(2,[_])]) (rs:=[_,_,_]) dQ U U U)<|za (y5 (cps:=[(0,[_]),(1,[_]),(2,[_])]) (rs:=[_,_,_]) dQ U U U)<|za (y5 (cps:=[(0,[_]),(1,[_]),(2,[_])]) (rs:=[_,_,_]) dQ U U U)<|za (y5 (cps:=[(0,[_]),(1,[_]),(2,[_])]) (rs:=[_,_,_]) dQ U U U)<|za (y5 (cps:=[(0,[_]),(1,[_]),(2,[_])]) (rs:=[_,_,_]) dQ U U U)<|za (y5 (cps:=[(0,[_]),(1,[_]),(2,[_])]) (rs:=[_,_,_]) dQ U U U)<|za (y5 (cps:=[(0,[_]),(1,[_]),(2,[_])]) (rs:=[_,_,_]) dQ U U U)<|za (y5 (cps:=[(0,[_]),(1,[_]),(2,[_])]) (rs:=[_,_,_]) dQ U U U)<|za (y5 (cps:=[(0,[_]),(1,[_]),(2,[_])]) (rs:=[_,_,_]) dQ U U U)<|za (y5 (cps:=[(0,[_]),(1,[_]),(2,[_])]) (rs:=[_,_,_]) dQ U U U)<|za (y5 (cps:=[(0,[_]),(1,[_]),(2,[_])]) (rs:=[_,_,_]) dQ U U U)<|za (y5 (cps:=[(0,[_]),(1,[_]),(2,[_])]) (rs:=[_,_,_]) dQ U U U)<|za (y5 (cps:=[(0,[_]),(1,[_]),(2,[_])]) (rs:=[_,_,_]) dQ U U U)<|za (y5 (cps:=[(0,[_]),(1,[_]),(2,[_])]) (rs:=[_,_,_]) dQ U U U)<|za (y5 (cps:=[(0,[_]),(1,[_]),(2,[_])]) (rs:=[_,_,_]) dQ U U U)<|za (y5 (cps:=[(0,[_]),(1,[_]),(2,[_])]) (rs:=[_,_,_]) dQ U U U)<|za (y5 (cps:=[(0,[_]),(1,[_]),(2,[_])]) (rs:=[_,_,_]) dQ U U U)<|za (Gv.buildAF (xs:=[[_,_,_],[_,_,_],[_,_,_],[_,_,_],[_,_,_],[_,_,_],[_,_,_],[_,_,_],[_,_,_],[_,_,_],[_,_,_],[_,_,_],[_,_,_],[_,_,_],[_,_,_],[_,_,_],[_,_,_],[_,_,_],[_,_,_],[_,_,_],[_,_,_],[_,_,_],[_,_,_],[_,_,_],[_,_,_],[_,_,_],[_,_,_]]) FT U U U U)<|y1 sizeOf275 U U U U U U .head U<|z6<|zi<|dI.c1 U ⟨_,.head⟩ isAgg275 sizeOf275 U ?_
 rfl
theorem tE {op:Int} (h:p8 op=false):cJ op=(⟨#[]⟩,⟨#[]⟩,⟨#[]⟩):=by
 unfold p8 at h
 unfold cJ
 split
 ·rename_i h0
  have:¬op<27:=by simpa [h0] using h
  rw[List.getElem?_eq_none (by show 27≤_;omega)];rfl
 ·rfl
theorem C5 {op:Int} (h:p8 op=true):∃j:Nat,op=(j:Int)∧j<27∧((gk.flatMap p9).drop (j*3)).take 3=p9 (cJ op):=by
 unfold p8 at h
 simp at h
 obtain ⟨j,rfl⟩:∃j:Nat,op=j:=⟨op.toNat,by omega⟩
 have hj:j<27:=by omega
 refine ⟨j,U,hj,wK (enc:=p9) (k:=3) (fun _=>U) _ _ ?_⟩
 unfold cJ
 rw[if_pos h.1,Int.toNat_natCast,qk (show j<gk.length from hj)];rfl
theorem sb (op:Int):aK prog E 183 [.int .i64 op] (.agg (p9 (cJ op))):=by
 refine zq func183 U (by decide) U<|ae<|y6 (cs:=[.str ⟨#[]⟩,.str ⟨#[]⟩,.str ⟨#[]⟩]) zeroValue250 U U<|fun i2=>z6<|zd<|ae<|aa U<|ze (C4 _) U<|aB U<|z6<|zy U (fun c=>?_) (fun c=>?_)
 ·have c:p8 op=false:=by simpa using c
  rw[tE c]
  refine ae<|za (y5 (cps:=[]) (rs:=[.str ⟨#[]⟩,.str ⟨#[]⟩,.str ⟨#[]⟩]) dQ U U U)<|y1 sizeOf250 U U U U U U .head U<|z6<|zi<|dI.c1 U ⟨_,.head⟩ isAgg250 sizeOf250 U ?_
  rfl
 ·have c:p8 op=true:=by simpa using c
  obtain ⟨j,hj1,hj2,hj3⟩:=C5 c
  refine zg<|ae<|ze (vu) U<|aa U<|za (Gv.indexA underlying275 isAgg250 sizeOf250 U U hj1 hj2 hj3)<|y1 sizeOf250 U U U U U U .head U<|z6<|zi<|dI.c1 U ⟨_,.head⟩ isAgg250 sizeOf250 U ?_
  rfl
theorem yD (op:Int):aK prog E 181 [.int .i64 op] (.str (cJ op).1):=by
 refine zq func181 U (by decide) U<|ae<|za (qc (v:=.str _) U)<|z6<|ae<|aa U<|ze (sb _) U<|za (Gv.field1 (v:=.str _) underlying250 U Y9 U U)<|za (qc (v:=.str _) U)<|z6<|zi<|zm (x:=.str _) U ?_
 rfl
def ou (op:Int):Bool:=decide (op=0)||decide (op=25)
theorem fU (op:Int):aK prog E 182 [.int .i64 op] (.bool (ou op)):=by
 refine zq func182 U (by decide) U<|ae<|ab U<|z6<|ae<|aa U<|ai U U<|aj U<|zo (s:=5) U (fun c2=>?_) (fun c2=>?_)
 ·refine z7 U U c2<|z7 U U c2<|aq U c2 U<|ab U<|z6<|zi<|zm (x:=.bool _) U ?_
  simp_all[ou]
 ·refine z8 U U c2<|aa U<|z8 U U c2<|ai U U<|au U c2 U<|ab U<|z6<|zi<|zm (x:=.bool _) U ?_
  simp_all[ou]
def ec (c:Int):Int:=if c=98 then 1 else if c=97 then 2 else 0
theorem ov (c:Int):aK prog E 184 [.int .i32 c] (.int .i64 (ec c)):=by
 refine zq func184 U (by decide) U<|ae<|ap U<|z6<|zd<|ae<|aa U<|z6<|zj<|ae<|ai U U<|ab U<|z6<|zy U (fun c3=>?_) (fun c3=>?_)
 ·refine ae<|ap U<|z6<|zi<|zm (x:=.int _ _) U ?_
  simp_all[ec]
 ·refine ae<|ai U U<|ab U<|z6<|zy U (fun c4=>?_) (fun c4=>?_)
  ·refine ae<|ap U<|z6<|zi<|zm (x:=.int _ _) U ?_
   simp_all[ec]
  ·refine zg<|ae<|ap U<|z6<|zi<|zm (x:=.int _ _) U ?_
   simp_all[ec]
theorem AX:∀r∈gk,(∀b∈r.2.1.data.toList,b<128)∧(∀b∈r.2.2.data.toList,b<128):=by decide
theorem ow (op:Int):cJ op=(⟨#[]⟩,⟨#[]⟩,⟨#[]⟩)∨cJ op∈gk:=by
 unfold cJ
 split
 ·cases h:gk[op.toNat]? with
  |none=>exact .inl rfl
  |some r=>exact .inr (qu h)
 ·exact .inl rfl
theorem ox (op:Int):(∀b∈(cJ op).2.1.data.toList,b<128)∧(∀b∈(cJ op).2.2.data.toList,b<128):=by
 rcases ow op with h|h
 ·rw[h];simp
 ·exact AX _ h
def bH (op:Int):List Int:=(cJ op).2.1.data.toList.map fun b=>ec b.toNat
def iS (op:Int):Int:=((cJ op).2.2.data.toList.head?.map fun b=>ec b.toNat).getD 0
def dV (op:Int):Bool:=!(cJ op).2.2.data.toList.isEmpty
end Go.Proofs.YtdilpodccjlkgaaGreatDoor
namespace Go.Proofs.YtdilpodccjlkgaaGreatDoor
open Go.Proofs.Tryz
open Go.Proofs
theorem C6:cU prog 218 59 1 1 [.int .i64 0]:=⟨_,underlying218,Yq,zeroValue59,by decide,by decide,by kernel_rfl⟩
variable {E:World}
set_option maxRecDepth 20000
structure tF where
 name:ByteArray
 ty:Int
deriving DecidableEq
structure e7 where
 dst:Int
 args:List Int
 from_:List Int
deriving DecidableEq
structure aF where
 op:Int
 dst:Int
 args:List Int
 num:Int
deriving DecidableEq
structure fH where
 kind:Int
 var:Int
 to0:Int
 to1:Int
deriving DecidableEq
structure aY where
 name:ByteArray
 phis:List e7
 insts:List aF
 term:fH
deriving DecidableEq
structure ad where
 vars:List tF
 params:List Int
 blocks:List aY
deriving DecidableEq
def cW (x:Int):List AV:=[.int .i64 x]
def fq (v:tF):List AV:=[.str v.name,.int .i64 v.ty]
def eN (p:e7):List AV:=[.int .i64 p.dst,.fro 1 (p.args.map cW),.fro 1 (p.from_.map cW)]
def aP (x:aF):List AV:=[.int .i64 x.op,.int .i64 x.dst,.fro 1 (x.args.map cW),.int .i64 x.num]
def nO (t:fH):List AV:=[.int .i64 t.kind,.int .i64 t.var,.int .i64 t.to0,.int .i64 t.to1]
def cZ (b:aY):List AV:=[.str b.name,.fro 3 (b.phis.map eN),.fro 4 (b.insts.map aP),.int .i64 b.term.kind,.int .i64 b.term.var,.int .i64 b.term.to0,.int .i64 b.term.to1]
def bD (f:ad):List AV:=[.fro 2 (f.vars.map fq),.fro 1 (f.params.map cW),.fro 7 (f.blocks.map cZ)]
theorem oy (op:Int):aK prog E 149 [.int .i64 op] (.fro 1 ((bH op).map cW)):=by
 obtain ⟨hasc,_⟩:=ox op
 have hl:(bH op).length=(cJ op).2.1.size:=by unfold bH;rw[qr];exact Array.length_toList
 have hlen:(bH op).length≤3:=by
  rcases ow op with h|h
  ·unfold bH;rw[h];decide
  ·have:∀r∈gk,r.2.1.data.toList.length≤3:=by decide
   have:=this _ h
   unfold bH;simpa using this
 refine zq func149 U (by decide) U<|ae<|bF U<|z6<|ae<|bF U<|z6<|fo (t:=3) (k:=1) (T:=59) U<|fun i3=>zd<|ae<|aa U<|ze (sb _) U<|za (Gv.field1 (v:=.str _) underlying250 U Y9 U U)<|az.rangeT Zr U<|fun i9=>z6<|zj<|y8 (γ:=Nat × Nat) [9] (fun g=>[(3,.own g.2 g.1)]) (fun g=>[(i9,.iter (cJ op).2.1 g.1),(g.2,.grow 1 59 (((bH op).take g.1).map cW).flatten)]) (fun g=>g.1≤(bH op).length) (fun g=>(bH op).length - g.1) (0,i3) aH aD (qn _) ?_
 rintro ⟨p,i⟩ hp
 try dsimp only at *
 try simp only at hp
 by_cases hlt:p<(bH op).length
 ·have hb:p<(cJ op).2.1.data.toList.length:=by rw[hl] at hlt;exact hlt
  have hg:(cJ op).2.1.data[p]?=some (cJ op).2.1.data.toList[p]:=by rw[Array.getElem_toList];exact Array.getElem?_eq_getElem hb
  refine ae<|az.nextA U hg (hasc _ (qo hb)) .head<|bZ U U<|z6<|zd<|yl U U ?_
  have ht:(bH op).take (p+1)=(bH op).take p++[ec ((cJ op).2.1.data.toList[p]).toNat]:=by
   rw[ql hlt]
   have:(bH op)[p]=ec ((cJ op).2.1.data.toList[p]).toNat:=List.getElem_map _
   rw[this]
  refine zg<|zj<|ae<|bJ U U<|ap U<|z6<|aO<|bz U<|aa U<|ze (ov _) U<|y4 (rows:=[[_]]) C6 U U U U U<|yj (k:=1) underlying218 type59 U U U U U (fun _=>.t1) (by rw[l5 (k:=1) (fun _=>rfl),List.length_take,Nat.min_eq_left hp]) (by decide) U (by show (_+_)*8≤_;simp<;>omega) (by simp<;>omega)<|fun i17=>za (gZ U)<|z6 ?_
  exact ⟨(p+1,i17),aH,aH,⟨_,(.refl _),by rw[←kM ht];rfl⟩,hlt,by simp only;omega⟩
 ·refine ae<|az.nextTover U .head (by rw[←hl];exact hlt)<|bZ U U<|z6<|zd<|yg U U ?_
  have hkn:p=(bH op).length:=by omega
  subst hkn
  rw[qp]
  refine y7<|ae<|bz U<|za (gZ U)<|z6<|zi ?_
  repeat (first|refine fM ?_|refine ez ?_)
  refine ye (aX.know (t:=2) (rows:=(bH op).map cW) U .t1 (by first|(intro r hr;obtain ⟨x,_,rfl⟩:=List.mem_map.1 hr;rfl)|simp[cW,fq,eN,aP,cZ]) (by decide) (by simp))<|zm (x:=.fro _ _) U ?_
  rfl
theorem oz (op:Int):aK prog E 150 [.int .i64 op] (.tup [.int .i64 (iS op),.bool (dV op)]):=by
 obtain ⟨_,hasc⟩:=ox op
 refine zq func150 U (by decide) U<|ae<|ap U<|ab U<|z6<|zd<|ae<|aa U<|ze (sb _) U<|za (Gv.field1 (v:=.str _) underlying250 U Y9 U U)<|az.rangeT Zr U<|fun i9=>z6<|zj<|y8 (γ:=Unit) [9] (fun g=>[]) (fun g=>[(i9,.iter (cJ op).2.2 0)]) (fun g=>True) (fun g=>0) () trivial aD (trivial) ?_
 rintro _ _
 by_cases hlt:∃c0 tl,(cJ op).2.2.data.toList=c0::tl
 ·obtain ⟨c0,tl,hk⟩:=hlt
  have hg:(cJ op).2.2.data[0]?=some c0:=by rw[←Array.getElem?_toList,hk];rfl
  refine ae<|az.nextA U hg (hasc _ (by rw[hk];exact .head _)) .head<|bZ U U<|z6<|zd<|yl U U<|zg<|zj<|ae<|bJ U U<|ap U<|z6<|ae<|aa U<|ze (ov _) U<|ap U<|ab U<|z6<|zi<|q7 (x:=.int _ _) (y:=.bool _) U U ?_
  unfold iS dV;rw[hk];rfl
 ·have hk:(cJ op).2.2.data.toList=[]:=by
   cases h:(cJ op).2.2.data.toList with
   |nil=>rfl
   |cons x l=>exact absurd ⟨x,l,h⟩ hlt
  refine ae<|az.nextTover U .head (by show ¬0<(cJ op).2.2.data.size;rw[←Array.length_toList,hk];decide)<|bZ U U<|z6<|zd<|yg U U<|y7<|ae<|ap U<|ab U<|z6<|zi<|q7 (x:=.int _ _) (y:=.bool _) U U ?_
  unfold iS dV;rw[hk];rfl
def aZ (f:ad) (v:Int):Bool:=decide (0≤v)&&decide (v<f.vars.length)
def eO (f:ad) (b:Int):Bool:=decide (0≤b)&&decide (b<f.blocks.length)
theorem kj (f:ad) (v:Int):aK prog E 177 [.agg (bD f),.int .i64 v] (.bool (aZ f v)):=by
 refine zq func177 U (by decide) U<|ae<|y9 (cs:=_) U U U<|ab U<|z6<|ae<|aa U<|za (yy U U)<|aj U<|zo (s:=7) U (fun c1=>?_) (fun c1=>?_)
 ·refine z8 U U c1<|aa U<|z8 U U c1<|ao jg U Y4 U U<|z8 U U c1<|aI Yb U<|z8 U U c1<|ar Z7 U<|z8 U U c1<|ax U U<|aq U c1 U<|ab U<|z6<|zi<|zm (x:=.bool _) U ?_
  simp_all[aZ]<;>omega
 ·refine z7 U U c1<|z7 U U c1<|z7 U U c1<|z7 U U c1<|z7 U U c1<|au U c1 U<|ab U<|z6<|zi<|zm (x:=.bool _) U ?_
  simp_all[aZ]<;>omega
theorem nP (f:ad) (v:Int):aK prog E 180 [.agg (bD f),.int .i64 v] (.bool (eO f v)):=by
 refine zq func180 U (by decide) U<|ae<|y9 (cs:=_) U U U<|ab U<|z6<|ae<|aa U<|za (yy U U)<|aj U<|zo (s:=7) U (fun c2=>?_) (fun c2=>?_)
 ·refine z8 U U c2<|aa U<|z8 U U c2<|ao jg U Z6 U U<|z8 U U c2<|aI Zd U<|z8 U U c2<|ar jk U<|z8 U U c2<|ax U U<|aq U c2 U<|ab U<|z6<|zi<|zm (x:=.bool _) U ?_
  simp_all[eO]<;>omega
 ·refine z7 U U c2<|z7 U U c2<|z7 U U c2<|z7 U U c2<|z7 U U c2<|au U c2 U<|ab U<|z6<|zi<|zm (x:=.bool _) U ?_
  simp_all[eO]<;>omega
def cK {α:Type} (p:α→Bool):List α→Nat→Int
 |[],_=>-1
 |x::xs,k=>if p x then k else cK p xs (k+1)
theorem eK {α:Type} (p:α→Bool):∀(xs:List α) (k:Nat),decide (0≤cK p xs k)=xs.any p
 |[],k=>rfl
 |x::xs,k=>by
  unfold cK
  rw[List.any_cons]
  split
  ·rename_i h;rw[h];simp
  ·rename_i h;simp[h,eK p xs (k+1)]
theorem bK {α:Type} (p:α→Bool):∀(xs:List α) (k:Nat),k≤xs.length→(xs.take k).all (fun x=>!p x)=true→cK p xs 0=cK p (xs.drop k) k
 |_,0,_,_=>rfl
 |xs,k+1,h,hall=>by
  rw[ql (by omega),List.all_append] at hall
  simp only[qz,List.all_cons,List.all_nil,Bool.and_true] at hall
  rw[bK p xs k (by omega) hall.1,List.drop_eq_getElem_cons (by omega)]
  rw[cK]
  rw[if_neg (by simpa using hall.2)]
theorem nz {p:Int→Bool} {fn:FuncId} {c:List AV} (xs:List Int) (hl:xs.length≤281474976710656) (hp:∀x,aK prog E fn ([.int .i64 x]++c) (.bool (p x))) :
  aK prog E 162 [.fro 1 (xs.map cW),.fn fn [] c] (.int .i64 (cK p xs 0)):=by
 refine zq func162 U (by decide) U<|ae<|ap U<|z6<|zd<|ae<|aT U<|ar wz U<|aa U<|z6<|zj<|y8 (γ:=Nat) [0,1,7] (fun k=>[(8,.int .i64 k)]) (fun k=>[]) (fun k=>k≤xs.length∧(xs.take k).all (fun x=>!p x)) (fun k=>xs.length - k) 0 aH aD (⟨qn _,U⟩) ?_
 rintro k ⟨hk,hall⟩
 refine ae<|ax U U<|z6<|zd<|zu U (fun ck=>?_) (fun ck=>?_)
 ·have hk2:k<xs.length:=by omega
  refine zg<|zd<|zj<|ae<|aa U<|ap U<|z6<|ae<|za (yt (v:=.fn _ _ _) U)<|aT U<|aa U<|za (qa wz j6 U U U (qk (by omega)))<|ay j7 U<|az.callVP U (hp _) U<|z6<|zy U (fun cp=>?_) (fun cp=>?_)
  ·refine ae<|aa U<|ap U<|z6<|zi<|zm (x:=.int _ _) U ?_
   rw[bK p xs k hk hall,List.drop_eq_getElem_cons hk2,cK,if_pos cp]
  ·refine zg<|aO<|aC U U<|aa U<|z6 ?_
   exact ⟨k+1,de,aH,aD,⟨hk2,by rw[ql hk2,List.all_append,hall];simp[cp]⟩,by omega⟩
 ·have hkn:k=xs.length:=by omega
  refine y7<|ae<|ap U<|z6<|zi<|zm (x:=.int _ _) U ?_
  rw[bK p xs k hk hall,hkn,List.drop_length,cK]
theorem gE {p:Int→Bool} {fn:FuncId} {c:List AV} (xs:List Int) (hl:xs.length≤281474976710656) (hp:∀x,aK prog E fn ([.int .i64 x]++c) (.bool (p x))) :
  aK prog E 131 [.fro 1 (xs.map cW),.fn fn [] c] (.bool (xs.any p)):=by
 refine zq func131 U (by decide) U<|ae<|ab U<|z6<|ae<|aT U<|za (yt (v:=.fn _ _ _) U)<|ze (nz xs hl hp) U<|za (yy U U)<|ab U<|z6<|zi<|zm (x:=.bool _) U ?_
 rw[eK]
theorem vv (f:ad) (v:Int):aK prog E 199 ([.int .i64 v]++[.pf (bD f)]) (.bool (!aZ f v)):=by
 refine zq func199 U (by decide) U<|ae<|ab U<|z6<|ae<|ac ju jf U U<|aa U<|ze (kj _ _) U<|aB U<|ab U<|z6<|zi<|zm (x:=.bool _) U ?_
 rfl
theorem qZ (f:ad) (l:List Int) (hl:l.length≤281474976710656):aK prog E 178 [.agg (bD f),.fro 1 (l.map cW)] (.bool (l.all (aZ f))):=by
 refine zq func178 U (by decide) U<|ae<|y9 (cs:=_) U U U<|ab U<|z6<|ae<|aT U<|za (Gv.func U U)<|ze (gE l hl (vv f)) U<|aB U<|ab U<|z6<|zi<|zm (x:=.bool _) U ?_
 rw[List.any_eq_not_all_not];simp
end Go.Proofs.YtdilpodccjlkgaaGreatDoor
namespace Go.Proofs.YtdilpodccjlkgaaGreatDoor
open Go.Proofs.Tryz
open Go.Proofs
variable {E:World}
set_option maxRecDepth 20000
def oA {α:Type} (l:List α):Prop:=l.length≤140737488355328
def wU (p:e7):Prop:=oA p.args∧oA p.from_
def FU (b:aY):Prop:=oA b.phis∧oA b.insts∧(∀p∈b.phis,wU p)∧(∀x∈b.insts,oA x.args)
def sd (f:ad):Prop:=oA f.vars∧oA f.params∧oA f.blocks∧∀b∈f.blocks,FU b
theorem oA.lt {α:Type} {l:List α} (h:oA l):l.length≤140737488355328:=h
theorem jb {x y:Bool} (h:x=y):AV.bool x=AV.bool y:=congrArg AV.bool h
theorem AY (k:Nat):∀I v,bq I (.raw (.slice none 0 0)) v→bq I (.fro k []) v:=fun _ _ h=>⟨none,0,0,h,rfl,Nat.le_refl _,fun _=>rfl,trivial⟩
theorem EK (a b c d:Int) (w:World) (m:Nat):(Op.equalIn (m+2) 47 (.agg [.int .i64 a,.int .i64 b].toArray) (.agg [.int .i64 c,.int .i64 d].toArray)).run prog w=.ok (decide (a=c∧b=d)) w:=by
 rw[Op.equalIn]
 simp only[Sem.run_bind,run_underlying Z1,Result.andThen_ok]
 simp only[Std.Legacy.Range.forIn_eq_forIn_range',Std.Legacy.Range.size,Nat.sub_zero,Nat.add_sub_cancel,Nat.div_one,List.range'_succ,List.range'_zero,List.forIn_cons,List.forIn_nil]
 simp[part,j7,j6,run_equalIn_int,Zu]
 by_cases h1:a=c<;>by_cases h2:b=d<;>simp[h1,h2]
theorem m9 (xs ys:List Int) (hl:oA xs):aK prog E 155 [.fro 1 (xs.map cW),.fro 1 (ys.map cW)] (.bool (decide (xs=ys))):=by
 have hl:=hl.lt
 refine zq func155 U (by decide) U<|ae<|ab U<|z6<|zd<|ae<|aT U<|ar wz U<|aT U<|ar wz U<|aM U U<|z6<|zy U (fun c0=>?_) (fun c0=>?_)
 ·have h:¬xs=ys:=fun e=>by subst e;simp at c0
  refine ae<|ab U<|z6<|zi<|zm (x:=.bool _) U ?_
  rw[qy h]
 ·have hl2:xs.length=ys.length:=by simp at c0;omega
  refine zg<|zd<|ae<|aT U<|ar wz U<|aa U<|z6<|zj<|y8 (γ:=Nat) [0,1,12] (fun k=>[(13,.int .i64 k)]) (fun k=>[]) (fun k=>k≤xs.length∧xs.take k=ys.take k) (fun k=>xs.length - k) 0 aH aD (⟨qn _,U⟩) ?_
  rintro k ⟨hk,he⟩
  refine ae<|ax U U<|z6<|zd<|zu U (fun ck=>?_) (fun ck=>?_)
  ·have hk2:k<xs.length:=by omega
   have hk3:k<ys.length:=by omega
   refine zg<|zd<|zj<|ae<|aa U<|ap U<|z6<|zd<|zw (fun j=>false) (by kernel_rfl) U (zh (.rest _))<|ak 0 U (CN U)<|ak 1 U (dq U)<|ak 2 U (qa wz j6 U U U (qk (by omega)))<|ak 3 U (b7 j7 U)<|ak 4 U (CN U)<|ak 5 U (dq U)<|ak 6 U (qa wz j6 U U U (qk (by omega)))<|ak 7 U (b7 j7 U)<|ak 8 U (Gv.neqI U U)<|bY<|zy U (fun cd=>?_) (fun cd=>?_)
   ·refine ae<|ab U<|z6<|zi<|zm (x:=.bool _) U ?_
    rw[qy (FD hk2 hk3 (by simpa using cd))]
   ·refine zg<|aO<|aC U U<|aa U<|z6 ?_
    exact ⟨k+1,de,aH,aD,⟨hk2,xT hk2 hk3 he (by simpa using cd)⟩,by omega⟩
  ·refine y7<|ae<|ab U<|z6<|zi<|zm (x:=.bool _) U ?_
   rw[qx (xU hl2 (by omega) he)]
end Go.Proofs.YtdilpodccjlkgaaGreatDoor
namespace Go.Proofs.YtdilpodccjlkgaaGreatDoor
open Go.Proofs.Tryz
open Go.Proofs
variable {E:World}
set_option maxRecDepth 20000
theorem nA {p:Int→Bool} {fn:FuncId} {c:List AV} (xs:List Int) (hl:xs.length≤281474976710656) (hp:∀x∈xs,aK prog E fn ([.int .i64 x]++c) (.bool (p x))) :
  aK prog E 162 [.fro 1 (xs.map cW),.fn fn [] c] (.int .i64 (cK p xs 0)):=by
 refine zq func162 U (by decide) U<|ae<|ap U<|z6<|zd<|ae<|aT U<|ar wz U<|aa U<|z6<|zj<|y8 (γ:=Nat) [0,1,7] (fun k=>[(8,.int .i64 k)]) (fun k=>[]) (fun k=>k≤xs.length∧(xs.take k).all (fun x=>!p x)) (fun k=>xs.length - k) 0 aH aD (⟨qn _,U⟩) ?_
 rintro k ⟨hk,hall⟩
 refine ae<|ax U U<|z6<|zd<|zu U (fun ck=>?_) (fun ck=>?_)
 ·have hk2:k<xs.length:=by omega
  refine zg<|zd<|zj<|ae<|aa U<|ap U<|z6<|ae<|za (yt (v:=.fn _ _ _) U)<|aT U<|aa U<|za (qa wz j6 U U U (qk (by omega)))<|ay j7 U<|az.callVP U (hp _ (qo hk2)) U<|z6<|zy U (fun cp=>?_) (fun cp=>?_)
  ·refine ae<|aa U<|ap U<|z6<|zi<|zm (x:=.int _ _) U ?_
   rw[bK p xs k hk hall,List.drop_eq_getElem_cons hk2,cK,if_pos cp]
  ·refine zg<|aO<|aC U U<|aa U<|z6 ?_
   exact ⟨k+1,de,aH,aD,⟨hk2,by rw[ql hk2,List.all_append,hall];simp[cp]⟩,by omega⟩
 ·have hkn:k=xs.length:=by omega
  refine y7<|ae<|ap U<|z6<|zi<|zm (x:=.int _ _) U ?_
  rw[bK p xs k hk hall,hkn,List.drop_length,cK]
theorem lz {p:Int→Bool} {fn:FuncId} {c:List AV} (xs:List Int) (hl:xs.length≤281474976710656) (hp:∀x∈xs,aK prog E fn ([.int .i64 x]++c) (.bool (p x))) :
  aK prog E 131 [.fro 1 (xs.map cW),.fn fn [] c] (.bool (xs.any p)):=by
 refine zq func131 U (by decide) U<|ae<|ab U<|z6<|ae<|aT U<|za (yt (v:=.fn _ _ _) U)<|ze (nA xs hl hp) U<|za (yy U U)<|ab U<|z6<|zi<|zm (x:=.bool _) U ?_
 rw[eK]
def bp (f:ad) (v:Int):Int:=((f.vars[v.toNat]?).map (·.ty)).getD 0
theorem iA {f:ad} {v:Int} (h:aZ f v=true):∃x,f.vars[v.toNat]?=some x∧v=(v.toNat:Int)∧bp f v=x.ty:=by
 unfold aZ at h
 simp only[qz,w6] at h
 have hl:v.toNat<f.vars.length:=by omega
 refine ⟨f.vars[v.toNat],qk hl,by omega,?_⟩
 unfold bp;rw[qk hl];rfl
theorem ff (f:ad) (v:Int) (hv:aZ f v=true):aK prog E 147 [.agg (bD f),.int .i64 v] (.int .i64 (bp f v)):=by
 obtain ⟨x,hx,hv2,hk⟩:=iA hv
 rw[hk]
 refine zq func147 U (by decide) U<|ae<|y9 (cs:=_) U U U<|ap U<|z6<|ae<|ao jg U Y4 U U<|aI Yb U<|aa U<|za (bh v.toNat Z7 Y1 U U hv2 hx)<|ao Zi U Yq U U<|ay X4 U<|ap U<|z6<|zi<|zm (x:=.int _ _) U ?_
 rfl
theorem AZ (op:Int):aK prog E 148 [.int .i64 op] (.bool (decide (op=1))):=by
 refine zq func148 U (by decide) U<|ae<|ab U<|z6<|ae<|aa U<|ai U U<|ab U<|z6<|zi<|zm (x:=.bool _) U ?_
 simp_all
theorem A3:∀{l:List Int} (h:0<l.length),l.headD 0=l[0]
 |[],h=>absurd h (Nat.lt_irrefl 0)
 |_::_,_=>rfl
def ft (f:ad) (x:aF):Bool:=if x.op=1 then decide (bp f x.dst=bp f (x.args.headD 0)) else decide (x.args.map (bp f)=bH x.op)&&(!dV x.op||decide (bp f x.dst=iS x.op))
theorem ic {f:ad} {xs ts:List Int} {k:Nat} (h1:k<xs.length) (h2:k<ts.length) (h:(xs.take k).map (bp f)=ts.take k) (hk:bp f xs[k]=ts[k]):(xs.take (k+1)).map (bp f)=ts.take (k+1):=by
 rw[ql h1,ql h2,qv,h,List.map_cons,List.map_nil,hk]
theorem A4 {f:ad} {xs ts:List Int} {k:Nat} (h1:k<xs.length) (h2:k<ts.length) (hk:¬bp f xs[k]=ts[k]):¬xs.map (bp f)=ts:=by
 intro e
 apply hk
 subst e
 rw[List.getElem_map]
theorem vw (f:ad) (x:aF) (ha:x.args.all (aZ f)=true) (hl:x.args.length=(bH x.op).length) (hd:dV x.op=true→aZ f x.dst=true) :
  aK prog E 105 [.agg (bD f),.agg (aP x)] (.bool (ft f x)):=by
 have hlen:(bH x.op).length≤3:=by
  rcases ow x.op with h|h
  ·unfold bH;rw[h];decide
  ·have:∀r∈gk,r.2.1.data.toList.length≤3:=by decide
   have:=this _ h
   unfold bH;simpa using this
 refine zq func105 U (by decide) U<|ae<|y9 (cs:=_) U U U<|y9 (cs:=_) U U U<|ab U<|z6<|zd<|ae<|ao j5 U jy U U<|ay Z2 U<|ze (AZ _) U<|z6<|zu U (fun c1=>?_) (fun c1=>?_)
 ·have e1:x.op=1:=by simpa using c1
  have hlz:0<x.args.length:=by rw[hl,e1];decide
  have hv0:aZ f x.args[0]=true:=List.all_eq_true.1 ha _ (qo hlz)
  have hvd:aZ f x.dst=true:=hd (by rw[e1];decide)
  refine zd<|zw (fun j=>false) (by kernel_rfl) U (zh (.rest _))<|ak 0 U (yr ju jf U U)<|ak 1 U (bx j5 U j6 U U)<|ak 2 U (b7 j7 U)<|ak 4 U (yr ju jf U U)<|ak 5 U (bx j5 U j8 U U)<|ak 6 U (dx j9 U)<|ak 7 U (bh 0 wz j6 U U U (qk hlz))<|ak 8 U (b7 j7 U)<|ba 3 U<|ze (ff _ _ (by assumption)) U<|z6<|ba 9 U<|ze (ff _ _ (by assumption)) U<|z6<|ak 10 U (Gv.eqlI U U)<|ak 11 U (lT U)<|bY<|zi<|zm (x:=.bool _) U ?_
  exact jb (by unfold ft;rw[if_pos e1,A3 hlz])
 ·have e1:¬x.op=1:=by simpa using c1
  refine zg<|zd<|ae<|ao j5 U jy U U<|ay Z2 U<|ze (oy _) U<|ar underlying218 U<|aa U<|z6<|zj<|y8 (γ:=Nat) [2,3,25,26] (fun k=>[(27,.int .i64 k)]) (fun k=>[]) (fun k=>k≤(bH x.op).length∧(x.args.take k).map (bp f)=(bH x.op).take k) (fun k=>(bH x.op).length - k) 0 aH aD (⟨qn _,U⟩) ?_
  rintro k ⟨hk,hall⟩
  refine ae<|ax U U<|z6<|zd<|zu U (fun ck=>?_) (fun ck=>?_)
  ·have hk2:k<(bH x.op).length:=by simp at ck;omega
   have hk3:k<x.args.length:=by omega
   have hvk:aZ f x.args[k]=true:=List.all_eq_true.1 ha _ (qo hk3)
   refine zg<|zd<|zj<|ae<|aa U<|za (bh k underlying218 Yq U U U (qk hk2))<|ay X4 U<|ap U<|ap U<|z6<|zd<|zw (fun j=>false) (by kernel_rfl) U (zh (.rest _))<|ak 0 U (yr ju jf U U)<|ak 1 U (bx j5 U j8 U U)<|ak 2 U (dx j9 U)<|ak 3 U (dq U)<|ak 4 U (bh k wz j6 U U U (qk hk3))<|ak 5 U (b7 j7 U)<|ak 7 U (dq U)<|ba 6 U<|ze (ff _ _ (by assumption)) U<|z6<|ak 8 U (Gv.neqI U U)<|bY<|zy U (fun cn=>?_) (fun cn=>?_)
   ·refine ae<|ab U<|z6<|zi<|zm (x:=.bool _) U ?_
    exact jb (by unfold ft;rw[if_neg e1,qy (A4 hk3 hk2 (by simpa using cn))];rfl)
   ·refine zg<|aO<|aC U U<|aa U<|z6 ?_
    exact ⟨k+1,fl,aH,aD,⟨hk2,ic hk3 hk2 hall (by simpa using cn)⟩,by omega⟩
  ·have hkn:k=(bH x.op).length:=by simp at ck;omega
   subst hkn
   rw[qp,←hl,qp] at hall
   refine y7<|ae<|ao j5 U jy U U<|ay Z2 U<|ze (oz _) U<|bR U<|bJ U U<|bZ U U<|ap U<|ab U<|z6<|ae<|aj U<|aB U<|aj U<|zo (s:=50) U (fun c1=>?_) (fun c1=>?_)
   ·refine z7 U U c1<|z7 U U c1<|z7 U U c1<|z7 U U c1<|z7 U U c1<|z7 U U c1<|aq U c1 U<|ab U<|z6<|zi<|zm (x:=.bool _) U ?_
    exact jb (by unfold ft;rw[if_neg e1,qx hall];simp_all)
   ·refine z8 U U c1<|ac ju jf U U<|z8 U U c1<|ao j5 U j6 U U<|z8 U U c1<|ay j7 U<|z8 U U c1<|ze (ff f x.dst (hd (by simp_all))) U<|z8 U U c1<|aa U<|z8 U U c1<|ai U U<|au U c1 U<|ab U<|z6<|zi<|zm (x:=.bool _) U ?_
    exact jb (by unfold ft;rw[if_neg e1,qx hall];simp_all)
def se (f:ad) (p:e7):Bool:=!(p.args.any fun v=>!decide (bp f v=bp f p.dst))
theorem vx (f:ad) (p:e7) (v:Int) (hv:aZ f v=true) (hd:aZ f p.dst=true):aK prog E 146 ([.int .i64 v]++[.pf (bD f),.pf (eN p)]) (.bool (!decide (bp f v=bp f p.dst))):=by
 refine zq func146 U (by decide) U<|ae<|ab U<|z6<|zd<|zw (fun j=>false) (by kernel_rfl) U (zh (.rest _))<|ak 0 U (yr ju jf U U)<|ak 1 U (dq U)<|ak 3 U (yr ju jf U U)<|ak 4 U (bx Z3 U j6 U U)<|ak 5 U (b7 j7 U)<|ba 2 U<|ze (ff _ _ (by assumption)) U<|z6<|ba 6 U<|ze (ff _ _ (by assumption)) U<|z6<|ak 7 U (Gv.neqI U U)<|ak 8 U (lT U)<|bY<|zi<|zm (x:=.bool _) U ?_
 simp_all
theorem yE (f:ad) (p:e7) (hp:wU p) (ha:p.args.all (aZ f)=true) (hd:aZ f p.dst=true):aK prog E 104 [.agg (bD f),.agg (eN p)] (.bool (se f p)):=by
 have hl1:=hp.1.lt
 refine zq func104 U (by decide) U<|ae<|y9 (cs:=_) U U U<|y9 (cs:=_) U U U<|ab U<|z6<|ae<|ao Z3 U j8 U U<|aI j9 U<|za (Gv.func U U)<|ze (lz p.args (by omega) (fun v hv=>vx f p v (List.all_eq_true.1 ha v hv) hd)) U<|aB U<|ab U<|z6<|zi<|zm (x:=.bool _) U ?_
 rfl
def d4 (f:ad) (t:fH):Bool:=if t.kind=0 then !decide (t.to0=0) else if t.kind=1 then decide (bp f t.var=1)&&!decide (t.to0=0)&&!decide (t.to1=0) else decide (bp f t.var=0)
theorem vy (f:ad) (t:fH) (h:¬t.kind=0→aZ f t.var=true):aK prog E 106 [.agg (bD f),.agg (nO t)] (.bool (d4 f t)):=by
 refine zq func106 U (by decide) U<|ae<|y9 (cs:=_) U U U<|y9 (cs:=_) U U U<|ab U<|z6<|zd<|ae<|ao jh U Zz U U<|ay Y8 U<|z6<|zj<|ae<|ai U U<|ab U<|z6<|zy U (fun c2=>?_) (fun c2=>?_)
 ·refine ae<|ao jh U Ze U U<|za (yv (j:=0) Z1 j6 U U U (by decide) U)<|ay j7 U<|aM U U<|ab U<|z6<|zi<|zm (x:=.bool _) U ?_
  exact jb (by unfold d4;simp_all)
 ·refine ae<|ai U U<|ab U<|z6<|zy U (fun c3=>?_) (fun c3=>?_)
  ·refine ae<|ac ju jf U U<|ao jh U j6 U U<|ay j7 U<|ze (ff f t.var (h (by simp_all))) U<|ai U U<|aj U<|zo (s:=20) U (fun c4=>?_) (fun c4=>?_)
   ·refine z8 U U c4<|ao jh U Ze U U<|z8 U U c4<|za (yv (j:=0) Z1 j6 U U U (by decide) U)<|z8 U U c4<|ay j7 U<|z8 U U c4<|aM U U<|aq U c4 U<|aj U<|zo (s:=26) U (fun c5=>?_) (fun c5=>?_)
    ·refine z8 U U c5<|ao jh U Ze U U<|z8 U U c5<|za (yv (j:=1) Z1 j6 U U U (by decide) U)<|z8 U U c5<|ay j7 U<|z8 U U c5<|aM U U<|aq U c5 U<|ab U<|z6<|zi<|zm (x:=.bool _) U ?_
     exact jb (by unfold d4;simp_all)
    ·refine z7 U U c5<|z7 U U c5<|z7 U U c5<|z7 U U c5<|au U c5 U<|ab U<|z6<|zi<|zm (x:=.bool _) U ?_
     exact jb (by unfold d4;simp_all)
   ·refine z7 U U c4<|z7 U U c4<|z7 U U c4<|z7 U U c4<|au U c4 U<|aj U<|z7 U U U<|z7 U U U<|z7 U U U<|z7 U U U<|au U U U<|ab U<|z6<|zi<|zm (x:=.bool _) U ?_
    exact jb (by unfold d4;simp_all)
  ·refine zg<|ae<|ac ju jf U U<|ao jh U j6 U U<|ay j7 U<|ze (ff f t.var (h (by simp_all))) U<|ai U U<|ab U<|z6<|zi<|zm (x:=.bool _) U ?_
   exact jb (by unfold d4;simp_all)
end Go.Proofs.YtdilpodccjlkgaaGreatDoor
namespace Go.Proofs.YtdilpodccjlkgaaGreatDoor
open Go.Proofs.Tryz
open Go.Proofs
variable {E:World}
set_option maxRecDepth 20000
theorem Eh:aK prog E 204 [] (.agg (iy CB)):=by
 refine zq func204 U (by decide) U<|ae<|y6 (cs:=[.int .i64 0,.int .i64 0]) Yr U U<|fun i0=>z6<|ae<|za (y5 (cps:=[(0,[_]),(1,[_])]) (rs:=[_,_]) tC U U U)<|y1 Z9 U U U U U U .head U<|z6<|zi<|dI.c1 U ⟨_,.head⟩ Zy Z9 U ?_
 rfl
theorem Hn (n:Int):aK prog E 216 [.int .i64 n] (.agg (iy (wQ n))):=by
 refine zq func216 U (by decide) U<|ae<|y6 (cs:=[.int .i64 0,.int .i64 0]) Yr U U<|fun i2=>z6<|ae<|aa U<|aa U<|za (y5 (cps:=[(0,[_]),(1,[_])]) (rs:=[_,_]) tC U U U)<|y1 Z9 U U U U U U .head U<|z6<|zi<|dI.c1 U ⟨_,.head⟩ Zy Z9 U ?_
 rfl
theorem FV (lo hi:Int):aK prog E 221 [.int .i64 lo,.int .i64 hi] (.agg (iy (tt lo hi))):=by
 refine zq func221 U (by decide) U<|ae<|y6 (cs:=[.int .i64 0,.int .i64 0]) Yr U U<|fun i4=>z6<|zd<|ae<|aa U<|aa U<|bb U U<|z6<|zu U (fun c=>?_) (fun c=>?_)
 ·refine ae<|ze (Eh) U<|y1 Z9 U U U U U U .head U<|z6<|zi<|dI.c1 U ⟨_,.head⟩ Zy Z9 U ?_
  rw[tt,if_pos c];try rfl
 ·refine zg<|ae<|aa U<|aa U<|za (y5 (cps:=[(0,[_]),(1,[_])]) (rs:=[_,_]) tC U U U)<|y1 Z9 U U U U U U .head U<|z6<|zi<|dI.c1 U ⟨_,.head⟩ Zy Z9 U ?_
  rw[tt,if_neg c];try rfl
theorem mJ (r:fj):aK prog E 189 [.agg (iy r)] (.bool (decide (r.2<r.1))):=by
 refine zq func189 U (by decide) U<|ae<|y9 (cs:=_) U U U<|ab U<|z6<|ae<|ao Zv U Za U U<|ay Zj U<|ao Zv U Za U U<|ay Zj U<|bb U U<|ab U<|z6<|zi<|zm (x:=.bool _) U ?_
 rfl
theorem FW (a b:fj):aK prog E 215 [.agg (iy a),.agg (iy b)] (.agg (iy (fZ a b))):=by
 refine zq func215 U (by decide) U<|ae<|y9 (cs:=_) U U U<|y9 (cs:=_) U U U<|y6 (cs:=[.int .i64 0,.int .i64 0]) Yr U U<|fun i4=>z6<|zd<|zj<|ae<|ac Zy Z9 U U<|ze (mJ _) U<|ab U<|z6<|zu U (fun c1=>?_) (fun c1=>?_)
 ·refine ae<|ao Zv U Za U U<|ay Zj U<|ao Zv U Za U U<|ay Zj U<|ze (FV _ _) U<|y1 Z9 U U U U U U .head U<|z6<|zi<|dI.c1 U ⟨_,.head⟩ Zy Z9 U ?_
  rw[fZ,if_pos c1];try rfl
 ·refine ae<|ac Zy Z9 U U<|ze (mJ _) U<|ab U<|z6<|zu U (fun c2=>?_) (fun c2=>?_)
  ·refine ae<|ac Zy Z9 U U<|y1 Z9 U U U U U U .head U<|z6<|zi<|dI.c1 U ⟨_,.head⟩ Zy Z9 U ?_
   rw[fZ,if_neg c1,if_pos c2];try rfl
  ·refine zg<|ae<|ao Zv U Za U U<|ay Zj U<|ao Zv U Za U U<|ay Zj U<|za (Gv.minI U U)<|ao Zv U Za U U<|ay Zj U<|ao Zv U Za U U<|ay Zj U<|za (Gv.maxI U U)<|za (y5 (cps:=[(0,[_]),(1,[_])]) (rs:=[_,_]) tC U U U)<|y1 Z9 U U U U U U .head U<|z6<|zi<|dI.c1 U ⟨_,.head⟩ Zy Z9 U ?_
   rw[fZ,if_neg c1,if_neg c2];try rfl
theorem A5 (b:Bool):aK prog E 207 [.bool b] (.int .i64 (if b=true then Ec else Ed)):=by
 refine zq func207 U (by decide) U<|ae<|ap U<|z6<|zd<|ae<|aj U<|z6<|zy U (fun c1=>?_) (fun c1=>?_)
 ·refine ae<|ap U<|z6<|zi<|zm (x:=.int _ _) U ?_
  simp_all[Ec,Ed]
 ·refine zg<|ae<|ap U<|z6<|zi<|zm (x:=.int _ _) U ?_
  simp_all[Ec,Ed]
theorem Ei (op:Int):aK prog E 188 [.int .i64 op] (.bool (decide (op=2)||(decide (op=3)||decide (op=4)))):=by
 refine zq func188 U (by decide) U<|ae<|ab U<|z6<|ae<|aa U<|ai U U<|aj U<|zo (s:=5) U (fun c2=>?_) (fun c2=>?_)
 ·refine z7 U U c2<|z7 U U c2<|aq U c2 U<|aj U<|z7 U U U<|z7 U U U<|aq U U U<|ab U<|z6<|zi<|zm (x:=.bool _) U ?_
  exact jb (by simp_all)
 ·refine z8 U U c2<|aa U<|z8 U U c2<|ai U U<|au U c2 U<|aj U<|zo (s:=9) U (fun c3=>?_) (fun c3=>?_)
  ·refine z7 U U c3<|z7 U U c3<|aq U c3 U<|ab U<|z6<|zi<|zm (x:=.bool _) U ?_
   exact jb (by simp_all)
  ·refine z8 U U c3<|aa U<|z8 U U c3<|ai U U<|au U c3 U<|ab U<|z6<|zi<|zm (x:=.bool _) U ?_
   exact jb (by simp_all)
theorem G0 {x y:Int} (hx:cY x) (hy:cY y):aK prog E 205 [.int .i64 x,.int .i64 y] (.tup [.int .i64 (IntKind.i64.wrap (x+y)),.bool (decide (dJ 0 x y))]):=by
 rw[←GW hx hy]
 refine zq func205 U (by decide) U<|ae<|ap U<|ab U<|z6<|ae<|aa U<|aa U<|za (Gv.addW U U)<|ap U<|z6<|ae<|aa U<|aa U<|ax U U<|aa U<|ax U U<|za (Gv.neqB Y0 U U)<|aj U<|zo (s:=16) U (fun c4=>?_) (fun c4=>?_)
 ·refine z7 U U c4<|z7 U U c4<|z7 U U c4<|z7 U U c4<|z7 U U c4<|aq U c4 U<|ap U<|ab U<|z6<|zi<|q7 (x:=.int _ _) (y:=.bool _) U U ?_
  simp_all
 ·refine z8 U U c4<|aa U<|z8 U U c4<|ax U U<|z8 U U c4<|aa U<|z8 U U c4<|ax U U<|z8 U U c4<|za (Gv.eqlB Y0 U U)<|au U c4 U<|ap U<|ab U<|z6<|zi<|q7 (x:=.int _ _) (y:=.bool _) U U ?_
  simp_all
theorem G1 {x y:Int} (hx:cY x) (hy:cY y):aK prog E 208 [.int .i64 x,.int .i64 y] (.tup [.int .i64 (IntKind.i64.wrap (x - y)),.bool (decide (dJ 1 x y))]):=by
 rw[←GX hx hy]
 refine zq func208 U (by decide) U<|ae<|ap U<|ab U<|z6<|ae<|aa U<|aa U<|za (Gv.subW U U)<|ap U<|z6<|ae<|aa U<|aa U<|ax U U<|aa U<|ax U U<|za (Gv.eqlB Y0 U U)<|aj U<|zo (s:=16) U (fun c5=>?_) (fun c5=>?_)
 ·refine z7 U U c5<|z7 U U c5<|z7 U U c5<|z7 U U c5<|z7 U U c5<|aq U c5 U<|ap U<|ab U<|z6<|zi<|q7 (x:=.int _ _) (y:=.bool _) U U ?_
  simp_all
 ·refine z8 U U c5<|aa U<|z8 U U c5<|ax U U<|z8 U U c5<|aa U<|z8 U U c5<|ax U U<|z8 U U c5<|za (Gv.eqlB Y0 U U)<|au U c5 U<|ap U<|ab U<|z6<|zi<|q7 (x:=.int _ _) (y:=.bool _) U U ?_
  simp_all
theorem FX {x:Int} (hx:cY x):aK prog E 217 [.int .i64 x] (.int .u64 (x.natAbs:Int)):=by
 rw[←kh hx]
 refine zq func217 U (by decide) U<|ae<|ap U<|z6<|zd<|ae<|aa U<|ax U U<|z6<|zu U (fun c=>?_) (fun c=>?_)
 ·refine ae<|aa U<|za (Gv.conv underlying2 Yu U)<|za (Gv.neg U)<|ap U<|z6<|zi<|zm (x:=.int _ _) U ?_
  rw[if_pos c];try rfl
 ·refine zg<|ae<|aa U<|za (Gv.conv underlying2 Yu U)<|ap U<|z6<|zi<|zm (x:=.int _ _) U ?_
  rw[if_neg c];try rfl
end Go.Proofs.YtdilpodccjlkgaaGreatDoor
