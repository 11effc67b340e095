/- The walk's facts of an add, a sub, a div, a rem. Of facts of nodes that there are. -/
import Derived.Test.YtdilpodccjlkgaaGreatDoorHd
import Derived.Test.YtdilpodccjlkgaaGreatDoorHc
import Derived.Test.YtdilpodccjlkgaaGreatDoorHn
set_option linter.unusedVariables false
set_option linter.unusedSimpArgs false
set_option linter.unusedSectionVars false
namespace Go.Proofs.YtdilpodccjlkgaaGreatDoor
open Go.Proofs.Tryz
open Go.Proofs Go.Lib Go.Shelf Go.RowKit
theorem Gi:cX prog 180 #[(0,1),(1,1),(2,1)] [.int .i64 0,.int .i64 0,.int .i64 0]:=⟨_,_,X2,zeroValue180,fun w=>by kernel_rfl,rfl⟩
theorem Dy:cU prog 134 180 1 3 [.int .i64 0,.int .i64 0,.int .i64 0]:=⟨_,Yt,sizeOf180,zeroValue180,by decide,by decide,by kernel_rfl⟩
theorem Gj:cX prog 136 #[(0,1),(1,1),(2,1)] [.int .i64 0,.raw (.slice none 0 0),.raw (.slice none 0 0)]:=⟨_,_,Zl,zeroValue136,fun w=>by kernel_rfl,rfl⟩
variable {E:World}
set_option maxRecDepth 20000
def lN (l:List eu) (a b c:Int):List eu:=if -bo≤c∧c≤bo∧l.length<8192 then l++[⟨a,b,c⟩] else l
def pV (js jl jm n:Nat) (l:List eu) (M:List Int):OL:=[(js,.cells 136 [.int .i64 n,.own jl l.length,.own jm M.length]),(jl,.grow 3 180 (l.map bf).flatten),(jm,.grow 1 3 (cI M))]
theorem xp (r:List eu):(r.map bf).flatten.length=r.length*3:=by
 induction r with
 |nil=>rfl
 |cons o r ih=>rw[List.map_cons,List.flatten_cons,qq,ih,List.length_cons];show 3+_=_;omega
theorem sF {c:Int} {l:List eu} {u:Bool} (h:u=(decide (c < -1152921504606846976)||(decide (1152921504606846976<c)||decide (8192≤(l.length:Int))))):u=!decide (-bo≤c∧c≤bo∧l.length<8192):=by
 rw[h,qt]
 unfold bo
 simp
 omega
theorem mX (js jl jm n:Nat) (l:List eu) (M:List Int) {a b:Int} (ha:gj n a) (hb:gj n b) (c:Int) (hll:l.length≤8192) :
  aR prog E 66 [.po js 0,.int .i64 a,.int .i64 b,.int .i64 c] (pV js jl jm n l M) (fun y O=>∃g:Nat × Bool,y=.bool g.2∧O=pV js g.1 jm n (lN l a b c) M∧True):=by
 refine yu (γ:=Nat × Bool) (x:=fun g=>.bool g.2) (M:=fun g=>pV js g.1 jm n (lN l a b c) M) (p:=fun _=>True) ?_
 have ha2:=ha
 have hb2:=hb
 unfold gj at ha2 hb2
 have hsa:=fun z y=>kQ (E:=E) n z y a
 rw[qx (show 0≤a∧a<n from ha2)] at hsa
 have hsb:=fun z y=>kQ (E:=E) n z y b
 rw[qx (show 0≤b∧b<n from hb2)] at hsb
 have hla:=fun z y=>aR.lendP (E:=E) (i:=js) (T:=136) (fun _ _ _ h=>fp h) (hsa z y)
 have hlb:=fun z y=>aR.lendP (E:=E) (i:=js) (T:=136) (fun _ _ _ h=>fp h) (hsb z y)
 unfold pV
 refine zq func66 U (by decide) U<|ae<|ab U<|z6<|zd<|zd<|ya (γ:=Bool) [0,1,2,3] (fun u=>[(34,.bool u)]) (fun u=>[(js,.cells 136 [.int .i64 n,.own jl l.length,.own jm M.length]),(jl,.grow 3 180 (l.map bf).flatten),(jm,.grow 1 3 (cI M))]) (fun u=>u=!decide (-bo≤c∧c≤bo∧l.length<8192)) ?_ (fun _ _ h=>h) ?_
 ·refine aO<|aE U<|aa U<|zr U (zh (.l (.r (.r (.rest _))))) (hla (.own jl l.length) (.own jm M.length)) ?_
  rintro r11 O11 ⟨rfl,rfl⟩
  refine aB U<|aj U<|z8 U U U<|aE U<|z8 U U U<|aa U<|z8 U U U<|zr U (zh (.l (.r (.r (.rest _))))) (hlb (.own jl l.length) (.own jm M.length)) ?_
  rintro r16 O16 ⟨rfl,rfl⟩
  refine z8 U U U<|aB U<|au U U U<|aj U<|zo (s:=19) U (fun c1=>?_) (fun c1=>?_)
  ·refine z7 U U c1<|z7 U U c1<|aq U c1 U<|aj U<|z7 U U U<|z7 U U U<|aq U U U<|aj U<|z7 U U U<|z7 U U U<|z7 U U U<|z7 U U U<|z7 U U U<|z7 U U U<|aq U U U<|z6 ?_
   exact ⟨_,fl,aH,aD,sF (by rw[qt];simp_all<;>omega)⟩
  ·refine z8 U U c1<|aa U<|z8 U U c1<|ax U U<|au U c1 U<|aj U<|zo (s:=23) U (fun c2=>?_) (fun c2=>?_)
   ·refine z7 U U c2<|z7 U U c2<|aq U c2 U<|aj U<|z7 U U U<|z7 U U U<|z7 U U U<|z7 U U U<|z7 U U U<|z7 U U U<|aq U U U<|z6 ?_
    exact ⟨_,fl,aH,aD,sF (by rw[qt];simp_all<;>omega)⟩
   ·refine z8 U U c2<|aa U<|z8 U U c2<|bb U U<|au U c2 U<|aj U<|zo (s:=27) U (fun c3=>?_) (fun c3=>?_)
    ·refine z7 U U c3<|z7 U U c3<|z7 U U c3<|z7 U U c3<|z7 U U c3<|z7 U U c3<|aq U c3 U<|z6 ?_
     exact ⟨_,fl,aH,aD,sF (by rw[qt];simp_all<;>omega)⟩
    ·refine z8 U U c3<|aE U<|z8 U U c3<|aw U<|z8 U U c3<|za (zn Zl U X6 (by decide) U U)<|z8 U U c3<|za (zt (c:=.own _ _) isAgg134 U ⟨_,.head⟩ U)<|z8 U U c3<|za (Gv.lenO Yt U)<|z8 U U c3<|za (yy U U)<|au U c3 U<|z6 ?_
     exact ⟨_,fl,aH,aD,sF (by rw[qt];simp_all<;>omega)⟩
 ·rintro u hu
  refine zy U (fun cu=>?_) (fun cu=>?_)
  ·have hn:¬(-bo≤c∧c≤bo∧l.length<8192):=fun hq=>by rw[hu,qx hq] at cu;cases cu
   have hL:lN l a b c=l:=by unfold lN;rw[if_neg hn]
   refine ae<|ab U<|z6<|zi<|zm (x:=.bool _) U ?_
   exact ⟨(jl,false),rfl,⟨_,.refl _,by rw[hL]⟩,trivial⟩
  ·have hy:-bo≤c∧c≤bo∧l.length<8192:=Classical.byContradiction fun hq=>by rw[hu,qy hq] at cu;simp at cu
   have hL:lN l a b c=l++[⟨a,b,c⟩]:=by unfold lN;rw[if_pos hy]
   refine zg<|ae<|aE U<|aE U<|aw U<|za (zn Zl U X6 (by decide) U U)<|za (zt (c:=.own _ _) isAgg134 U ⟨_,.head⟩ U)<|aa U<|aa U<|aa U<|za (y5 (cps:=[(0,[_]),(1,[_]),(2,[_])]) (rs:=[_,_,_]) Gi U U U)<|y4 (rows:=[[_,_,_]]) Dy U U U U U<|yj (k:=3) Yt type180 U U U U U (fun _=>.t1) (xp l) (by decide) U (by show (_+_)*24≤_;simp<;>omega) (by simp<;>omega)<|fun i45=>aw U<|za (zn Zl U X6 (by decide) U U)<|yw (l:=[_]) (new:=[_,_,_]) X6 U U U U U U .head U U<|z6<|ae<|ab U<|z6<|zi<|zm (x:=.bool _) U ?_
   exact ⟨(i45,true),rfl,⟨_,.refl _,by rw[hL,qv,List.flatten_append,qq];rfl⟩,trivial⟩
theorem wa (js jl jm n:Nat) (l:List eu) (M:List Int) (hll:l.length≤10000) (hm:M.length≤1000) :
  aR prog E 68 [.po js 0] (pV js jl jm n l M) (fun y O=>∃g:Nat,y=.tup []∧O=pV js jl g n l (M++[(l.length:Int)])∧True):=by
 refine yu (γ:=Nat) (x:=fun g=>.tup []) (M:=fun g=>pV js jl g n l (M++[(l.length:Int)])) (p:=fun _=>True) ?_
 unfold pV
 refine zq func68 U (by decide) U<|ae<|aE U<|za (Gv.neqPo underlying71 type136 U)<|z6<|yl U U<|zw (fun j=>Nat.beq j 14) (by kernel_rfl) U (zh (.r (.rest _)))<|ak 0 U (ef U)<|ak 1 U (ef U)<|ak 2 U (yb U)<|ak 3 U (zn Zl U j8 (by decide) U U)<|ak 4 U (zt (c:=.own _ _) j9 U ⟨_,.head⟩ U)<|ak 5 U (ef U)<|ak 6 U (yb U)<|ak 7 U (zn Zl U X6 (by decide) U U)<|ak 8 U (zt (c:=.own _ _) isAgg134 U ⟨_,.head⟩ U)<|ak 9 U (Gv.lenO Yt U)<|ba 10 U<|y4 (rows:=[[_]]) cC U U U U U<|z6<|ba 11 U<|yj (k:=1) wz X8 U U U U U (fun _=>.t1) (by simp[cI]) (by decide) U (by show (_+_)*8≤_;simp<;>omega) (by simp<;>omega)<|fun i15=>z6<|yx (i:=12) U (by kernel_rfl) (by kernel_rfl) (by kernel_rfl) (by kernel_rfl) (yb U)<|ak 13 U (zn Zl U j8 (by decide) U U)<|ym<|yi (i:=14) U (by kernel_rfl) (by kernel_rfl)<|yw (l:=[_]) (new:=[_,_,_]) j8 U U U U U U .head U U<|z6<|yo (by kernel_rfl)<|yh ?_
 exact ⟨i15,rfl,⟨_,.refl _,by rw[qq,←lw];rfl⟩,trivial⟩
theorem uE (js jl jm n:Nat) (l:List eu) (M:List Int) :
  aR prog E 121 [.po js 0] (pV js jl jm n l M) (fun y O=>y=.int .i64 M.length∧O=pV js jl jm n l M):=by
 unfold pV
 refine zq func121 U (by decide) U<|ae<|ap U<|z6<|zd<|ae<|aE U<|za (Gv.eqlPo underlying71 type136 U)<|z6<|yg U U<|zg<|ae<|aE U<|aw U<|za (zn Zl U j8 (by decide) U U)<|za (zt (c:=.own _ _) j9 U ⟨_,.head⟩ U)<|za (Gv.lenO wz U)<|ap U<|z6<|zi<|zm (x:=.int _ _) U ?_
 exact ⟨rfl,rfl⟩
theorem Dz (l:List eu) (m:Nat):(l.map bf).flatten.take (m*3)=((l.take m).map bf).flatten:=by
 induction l generalizing m with
 |nil=>simp
 |cons q l ih=>
  cases m with
  |zero=>simp
  |succ m=>
   rw[List.map_cons,List.flatten_cons,List.take_succ_cons,List.map_cons,List.flatten_cons,←ih m,List.take_append]
   have e:(bf q).length=3:=rfl
   rw[List.take_of_length_le (by rw[e];omega),e,show (m+1)*3 - 3=m*3 by omega]
theorem DA (M:List Int) (x:Int):(cI (M++[x])).take (M.length*1)=cI M:=by
 rw[←lw,Nat.mul_one,List.take_append_of_le_length (by rw[aQ];omega),List.take_of_length_le (by rw[aQ];omega)]
theorem BP {α:Type} (M:List α) (x:α):(M++[x])[M.length]?=some x:=by simp
theorem zS (js jl jm n:Nat) (l:List eu) (M:List Int) (m:Nat) (hm:m≤l.length) (hM:M.length≤1000) :
  aR prog E 75 [.po js 0] (pV js jl jm n l (M++[(m:Int)])) (fun y O=>y=.bool true∧O=pV js jl jm n (l.take m) M):=by
 have hd:=uE (E:=E) js jl jm n l (M++[(m:Int)])
 have hl1:(M++[(m:Int)]).length=M.length+1:=by simp
 unfold pV at hd ⊢
 refine zq func75 U (by decide) U<|ae<|ab U<|z6<|zd<|ae<|aE U<|zr U (zh (.l (.l (.l (.rest _))))) (hd) ?_
 rintro r5 O5 ⟨rfl,rfl⟩
 refine ai U U<|z6<|yg U (by rw[qy (by simp;omega)])<|zg<|ae<|aE U<|aw U<|za (zn Zl U j8 (by decide) U U)<|za (zt (c:=.own _ _) j9 U ⟨_,.head⟩ U)<|za (Gv.lenO wz U)<|za (Gv.sub U U (by unfold lj;omega))<|ap U<|z6<|zd<|zw (fun j=>Nat.beq j 15) (by kernel_rfl) U (zh (.r (.rest _)))<|ak 0 U (ef U)<|ak 1 U (ef U)<|ak 2 U (yb U)<|ak 3 U (zn Zl U X6 (by decide) U U)<|ak 4 U (zt (c:=.own _ _) isAgg134 U ⟨_,.head⟩ U)<|ak 5 U (ef U)<|ak 6 U (yb U)<|ak 7 U (zn Zl U j8 (by decide) U U)<|ak 8 U (zt (c:=.own _ _) j9 U ⟨_,.head⟩ U)<|ak 9 U (dq U)<|ba 10 U<|za (yp (j:=M.length) wz j6 U U (by simp) ⟨_,.t1⟩ (by simp[cI]) (by simp))<|z6<|ba 11 U<|za (q3 (j:=M.length) j7 U ⟨_,.t1⟩ (BP M (m:Int)))<|z6<|ba 12 U<|az.cutTo (j:=m) Yt sizeOf180 U U U .head (by decide) (by rw[xp];omega)<|z6<|yx (i:=13) U (by kernel_rfl) (by kernel_rfl) (by kernel_rfl) (by kernel_rfl) (yb U)<|ak 14 U (zn Zl U X6 (by decide) U U)<|ym<|yi (i:=15) U (by kernel_rfl) (by kernel_rfl)<|yw (l:=[_]) (new:=[_,_,_]) X6 U U U U U U .head U U<|z6<|yo (by kernel_rfl) ?_
 refine ae<|aE U<|aE U<|aw U<|za (zn Zl U j8 (by decide) U U)<|za (zt (c:=.own _ _) j9 U ⟨_,.head⟩ U)<|aa U<|az.cutTo (j:=M.length) wz j6 U U (by simp) .t2 (by decide) (by simp[cI])<|aw U<|za (zn Zl U j8 (by decide) U U)<|yw (l:=[_]) (new:=[_,_,_]) j8 U U U U U U .head U U<|z6<|ae<|ab U<|z6<|zi<|zm (x:=.bool _) U ?_
 exact ⟨rfl,by rw[Dz,DA,List.length_take,Nat.min_eq_left hm];rfl⟩
theorem zT (n:Nat) (hn:n≤1024):aR prog E 36 [.int .i64 n] [] (fun y O=>∃g:Nat × Nat × Nat,y=.po g.1 0∧O=pV g.1 g.2.1 g.2.2 n [] []∧True):=by
 refine yu (γ:=Nat × Nat × Nat) (x:=fun g=>.po g.1 0) (M:=fun g=>pV g.1 g.2.1 g.2.2 n [] []) (p:=fun _=>True) ?_
 unfold pV
 refine zq func36 U (by decide) U<|ae<|bF U<|z6<|zd<|zd<|ya (γ:=Bool) [0] (fun u=>[(8,.bool u)]) (fun u=>[]) (fun u=>u=false) ?_ (fun _ _ h=>h) ?_
 ·refine aO<|aa U<|ax U U<|aj U<|zo (s:=5) U (fun c4=>?_) (fun c4=>?_)
  ·refine z7 U U c4<|z7 U U c4<|aq U c4 U<|z6 ?_
   exact ⟨_,aH,aH,aD,by simp_all<;>omega⟩
  ·refine z8 U U c4<|aa U<|z8 U U c4<|bb U U<|au U c4 U<|z6 ?_
   exact ⟨_,aH,aH,aD,by simp_all<;>omega⟩
 ·rintro u hu
  subst hu
  refine yg U U<|zg<|ae<|aa U<|za (y5 (cps:=[(0,[_])]) (rs:=[_,.raw (.slice none 0 0),.raw (.slice none 0 0)]) Gj U U U)<|yk (cs:=_) U U U U<|fun i11=>za (gc U)<|z6<|fe (off:=1) (k:=3) (T:=180) (fun _=>.head) U<|fun jl=>fe (off:=2) (k:=1) (T:=3) (fun _=>.t1) U<|fun jm=>y3 (zb (zc .head))<|y3 (zb (zc .t1))<|y3 (zb (zc .t2))<|zi<|zm (x:=.po _ _) U ?_
  exact ⟨(i11,jl,jm),rfl,⟨_,.refl _,rfl⟩,trivial⟩
end Go.Proofs.YtdilpodccjlkgaaGreatDoor
namespace Go.Proofs.YtdilpodccjlkgaaGreatDoor
open Go.Proofs.Tryz
open Go.Proofs Go.Lib Go.Shelf Go.RowKit
variable {E:World}
set_option maxRecDepth 20000
def DB (f0 f1 f2 t m pr:AV) (js:Nat) (q:Int) (a8 a9 a10:AV):List AV:=[f0,f1,f2,t,m,pr,.po js 0,.int .i64 q,a8,a9,a10]
def DC (iw js jl jm n:Nat) (cs:List AV) (l:List eu) (M:List Int):OL:=(iw,.cells 75 cs)::pV js jl jm n l M
theorem BQ {l:List eu} {a b c:Int} (h:l.length≤8192):(lN l a b c).length≤8192:=by
 unfold lN
 split
 ·rw[qq];simp;omega
 ·exact h
theorem wb (f0 f1 f2 t m pr a8 a9 a10:AV) (iw js jl jm n:Nat) (q:Int) (l:List eu) (M:List Int) (hll:l.length≤8192) {a b:Int} (ha:gj n a) (hb:gj n b) :
  aR prog E 67 [.po iw 0,.int .i64 a,.int .i64 b] (DC iw js jl jm n (DB f0 f1 f2 t m pr js q a8 a9 a10) l M) (fun y O=>∃g:Nat,y=.tup []∧O=DC iw js g jm n (DB f0 f1 f2 t m pr js q a8 a9 a10) (lN (lN l a b 0) b a 0) M∧True):=by
 refine yu (γ:=Nat) (x:=fun g=>.tup []) (M:=fun g=>DC iw js g jm n (DB f0 f1 f2 t m pr js q a8 a9 a10) (lN (lN l a b 0) b a 0) M) (p:=fun _=>True) ?_
 have h1:=mX (E:=E) js jl jm n l M ha hb 0 hll
 have h2:=fun jl=>mX (E:=E) js jl jm n (lN l a b 0) M hb ha 0 (BQ hll)
 unfold DC DB
 unfold pV at h1 h2 ⊢
 refine zq func67 U (by decide) U<|ae<|aE U<|aw U<|za (zn je U Z8 (by decide) U U)<|za (zt (c:=.po _ _) Zg U ⟨_,.head⟩ U)<|aa U<|aa U<|zr U (zh (.r (.l (.l (.l (.rest _)))))) (h1) ?_
 rintro r12 O12 ⟨⟨j1,u1⟩,rfl,rfl,_⟩
 refine z6<|aO<|aE U<|aw U<|za (zn je U Z8 (by decide) U U)<|za (zt (c:=.po _ _) Zg U ⟨_,.t3⟩ U)<|aa U<|aa U<|zr U (zh (.l (.l (.l (.r (.rest _)))))) (h2 j1) ?_
 rintro r19 O19 ⟨⟨j2,u2⟩,rfl,rfl,_⟩
 refine z6<|ye (zb (zc .t2))<|ye (zb (zc .t2))<|ye (zb (zc .t2))<|ye (zb (zc .t3))<|yh ?_
 exact ⟨j2,rfl,⟨_,.refl _,rfl⟩,trivial⟩
end Go.Proofs.YtdilpodccjlkgaaGreatDoor
namespace Go.Proofs.YtdilpodccjlkgaaGreatDoor
open Go.Proofs.Tryz
def ag (k:Int):List (Int × AV)→Option AV
 |[]=>none
 |(k',x)::es=>if k=k' then some x else ag k es
def am (k:Int) (x:AV):List (Int × AV)→List (Int × AV)
 |[]=>[(k,x)]
 |(k',x')::es=>if k=k' then (k,x)::es else (k',x')::am k x es
theorem Em (k k':Int) (x:AV):∀es:List (Int × AV),ag k (am k' x es)=if k=k' then some x else ag k es
 |[]=>by simp only[am,ag]
 |(q,y)::es=>by
  simp only[am]
  by_cases h:k'=q
  ·subst h
   rw[if_pos rfl]
   simp only[ag]
   by_cases h2:k=k'
   ·rw[if_pos h2,if_pos h2]
   ·rw[if_neg h2,if_neg h2,if_neg h2]
  ·rw[if_neg h]
   simp only[ag]
   by_cases h2:k=q
   ·rw[if_pos h2,if_pos h2,if_neg (fun e=>h (by rw[←e,h2]))]
   ·rw[if_neg h2,if_neg h2];exact Em k k' x es
def jY (I:G):List (Int × AV)→List (Value × Value)→Prop
 |[],hs=>hs=[]
 |(k,x)::es,hs=>∃v hs',hs=(kv k,v)::hs'∧bq I x v∧jY I es hs'
theorem jY.mono {I J:G} (h:I.le J):∀{es:List (Int × AV)} {hs:List (Value × Value)},jY I es hs→jY J es hs
 |[],_,e=>e
 |(_,_)::_,_,⟨v,hs',e,h1,h2⟩=>⟨v,hs',e,bq.mono h _ _ h1,jY.mono h h2⟩
theorem jY.get {I:G} {k:Int}:∀{l:List MapEntry} {es:List (Int × AV)} (i:Nat),jY I es (l.map fun e=>(e.key,e.val)) →
  (Instr.findNow (.int .i64) (kv k) l i=some none∧ag k es=none∧∀y u,bq I y u→jY I (am k y es) ((l.map fun e=>(e.key,e.val))++[(kv k,u)])) ∨
  (∃j e0 v x,Instr.findNow (.int .i64) (kv k) l i=some (some (i+j,v))∧l[j]?=some e0∧e0.key=kv k∧ag k es=some x∧bq I x v∧∀y u,bq I y u→jY I (am k y es) ((l.map fun e=>(e.key,e.val)).set j (kv k,u)))
 |[],[],i,_=>.inl ⟨rfl,rfl,fun y u h=>⟨u,[],rfl,h,rfl⟩⟩
 |_::_,[],_,h=>by cases h
 |[],(_,_)::_,_,⟨_,_,e,_⟩=>by cases e
 |x::l,(k1,r)::es,i,⟨v,hs',e,h1,h2⟩=>by
  simp only[List.map_cons,List.cons.injEq,Prod.mk.injEq] at e
  obtain ⟨⟨hk,hv⟩,rfl⟩:=e
  by_cases e1:k=k1
  ·subst e1
   right
   refine ⟨0,x,v,r,?_,U,hk,by simp[ag],h1,fun y u h=>?_⟩
   ·unfold Instr.findNow;rw[hk,AH,qx rfl];simp[hv]
   ·simp only[am,if_pos,List.map_cons,List.set_cons_zero]
    exact ⟨u,_,rfl,h,h2⟩
  ·have hf:Instr.findNow (.int .i64) (kv k) (x::l) i=Instr.findNow (.int .i64) (kv k) l (i+1):=by
    rw[Instr.findNow,hk,AH,qy e1]
   have hg:ag k ((k1,r)::es)=ag k es:=by simp[ag,e1]
   have hms:∀y,am k y ((k1,r)::es)=(k1,r)::am k y es:=fun y=>by simp[am,e1]
   rw[hf,hg]
   rcases jY.get (k:=k) (i+1) h2 with ⟨g1,g2,g3⟩|⟨j,e0,v1,x1,g1,g2,g3,g4,g5,g6⟩
   ·left
    refine ⟨g1,g2,fun y u h=>?_⟩
    rw[hms]
    exact ⟨v,_,by rw[List.map_cons,hk,hv];rfl,h1,g3 y u h⟩
   ·right
    refine ⟨j+1,e0,v1,x1,by rw[g1];congr 3;omega,by simpa using g2,g3,g4,g5,fun y u h=>?_⟩
    rw[hms]
    exact ⟨v,_,by rw[List.map_cons,hk,hv,List.set_cons_succ],h1,g6 y u h⟩
def iJ (b:Nat) (es:List (Int × AV)):bS:=.heapG (fun I L=>∃arr clock,L=[(b,.map arr clock)]∧jY I es (fY arr)) fun I J L h hp=>by
 obtain ⟨arr,clock,h1,h2⟩:=hp;exact ⟨arr,clock,h1,h2.mono h⟩
section
variable {E:World} {P:Program} {ops:Array Oper} {K:aS→OL→Prop} {env:aS} {O O' O'':OL} {rest:List Oper} {n:Nat}
variable {d ty:Nat} {pos:String} {af:Array Edge} {x y z:Operand} {t u e T kt:TypeId} {b:Nat}
theorem az.makeMapA (k:∀b,az P E ops K rest (br env d (dw b)) ((0,iJ b [])::O)):az P E ops K (Oper.mk (some d) (.makeMap t none) ty pos af none::rest) env O:=fun I F ρ w h1 ⟨ht,L,hL,hS⟩=>by
 refine qf U ?_
 unfold iN
 have:(execOp (Go.Proofs.YtdilpodccjlkgaaGreatDoor.ev ρ) (Oper.mk (some d) (.makeMap t none) ty pos af none)).run P w=.ok (.value (.map (some w.heap.size))) (w.alloc (.map #[] 0)):=by
  simp only[execOp,Option.map_none]
  rw[Sem.run_bind,run_makeMap_plain];rfl
 rw[this]
 exact k w.heap.size I F _ _ (h1.upd d rfl) ⟨ht,(w.heap.size,.map #[] 0)::L,⟨[_],L,rfl,⟨#[],0,rfl,rfl⟩,hL⟩,hS.alloc _⟩
theorem Gv.lookupA {k:Int} {m:Nat} {es:List (Int × AV)} {zx:AV} {zv:Value} {r:Option AV} (hg:ag k es=r) (ht:P.underlying t=some (.map kt u)) (hk:P.underlying kt=some (.int .i64)) (hz:∀w,(zeroValue u).run P w=.ok zv w) (hzr:∀I,bq I zx zv) (hx:aV env x=dw b) (hy:aV env y=.int .i64 k)
  (hO:nN O m (iJ b es)):Gv P env O (Oper.mk (some d) (.lookup t x y true) ty pos af none) (.tup [r.getD zx,.bool r.isSome]):=fun I L E ρ h1 hL=>by
 subst hg
 obtain ⟨O',hO⟩:=hO
 obtain ⟨A,B,hp,⟨arr,clock,rfl,hM⟩,_⟩:=hO.rep hL
 have hin0:(b,Obj.map arr clock)∈L:=hp.mem_iff.2 (by simp)
 have hx:=fd h1 hx
 have hy:=fB h1 hy
 have hb:∀w J L',I.k.le J→SL J L' E w→(∀y∈L,y∈L')→w.heap[b]?=some (Obj.map arr clock):=fun w J L' hl hS hin=>by
  have:=hS.own _ (hin _ hin0);simpa using this
 have hc:∀w,(Instr.checkKey arr.isEmpty 10000 kt (kv k)).run P w=.ok () w:=fun w=>MapKept.run_checkKey (k:=kv k) hk (n9 k) _ 9999
 rcases jY.get (k:=k) 0 hM with ⟨g1,g2,_⟩|⟨j,e0,v,x1,g1,_,_,g4,g5,_⟩
 ·rw[g2]
  refine ⟨.tuple #[zv,.bool false],⟨[_,_],U,_,_,U,hzr I,_,_,U,U,U⟩,fun w J L' hl hS hin=>?_⟩
  have hb:=hb w J L' hl hS hin
  have hc:=hc w
  simp only[kv] at hc g1
  simp[execOp,Instr.lookup,run_underlying ht,hx,hy,MapKept.run_getObj_map hb,hc,MapKept.run_findKey hk g1,hz,Result.andThen]
 ·rw[g4]
  refine ⟨.tuple #[v,.bool true],⟨[_,_],U,_,_,U,g5,_,_,U,U,U⟩,fun w J L' hl hS hin=>?_⟩
  have hb:=hb w J L' hl hS hin
  have hc:=hc w
  simp only[kv] at hc g1
  simp[execOp,Instr.lookup,run_underlying ht,hx,hy,MapKept.run_getObj_map hb,hc,MapKept.run_findKey hk g1,Result.andThen]
theorem az.mapSetA {k:Int} {m:Nat} {v:AV} {es:List (Int × AV)} (ht:P.underlying t=some (.map kt u)) (hk:P.underlying kt=some (.int .i64)) (hx:aV env x=dw b) (hy:aV env y=.int .i64 k) (hz:aV env z=v) (hO:fD O m (iJ b es) (iJ b (am k v es)) O')
  (kk:az P E ops K rest env O'):az P E ops K (Oper.mk none (.mapUpdate t x y z) ty pos af none::rest) env O:=fun I F ρ w h1 ⟨htop,L,hL,hS⟩=>by
 have hx:=fd h1 hx
 have hy:=fB h1 hy
 have hz2:=h1.ev z
 rw[hz] at hz2
 obtain ⟨uu,hu⟩:∃uu,Go.Proofs.YtdilpodccjlkgaaGreatDoor.ev ρ z=uu:=⟨_,rfl⟩
 rw[hu] at hz2
 obtain ⟨A,B,hp,⟨arr,clock,rfl,he⟩,hback⟩:=hO.rep hL
 have hS2:SL I.k ((b,.map arr clock)::(B++F)) E w:=hS.perm ((hp.append_right F).symm)
 have hb:=hS2.own _ (.head _)
 simp only at hb
 have hc:(Instr.checkKey false 10000 kt (kv k)).run P w=.ok () w:=MapKept.run_checkKey (k:=kv k) hk (n9 k) false 9999
 have fin:∀(arr':Array MapEntry) (clock':Nat),jY I (am k v es) (fY arr') →
   (execOp (Go.Proofs.YtdilpodccjlkgaaGreatDoor.ev ρ) (Oper.mk none (.mapUpdate t x y z) ty pos af none)).run P w=.ok .skip { w with heap:=w.heap.setIfInBounds b (.map arr' clock') }→cA P ops (iv I F E K) (Oper.mk none (.mapUpdate t x y z) ty pos af none::rest) ρ w:=fun arr' clock' he' hrun=>by
  refine qf U ?_
  unfold iN
  rw[hrun]
  obtain ⟨L',h7,h8⟩:=hback (qd I) (A':=[(b,.map arr' clock')]) ⟨arr',clock',rfl,he'⟩
  have hh:=MapKept.heap_set (o':=.map arr' clock') hb
  have hS3:SL I.k ((b,.map arr' clock')::(B++F)) E { w with heap:=w.heap.setIfInBounds b (.map arr' clock') }:=hS2.turn rfl rfl rfl hh.1 hh.2
  exact kk I F ρ _ h1 ⟨htop,L',h7,hS3.perm (h8.append_right F)⟩
 rcases jY.get (k:=k) 0 he with ⟨g1,_,g3⟩|⟨j,e0,v1,x1,g1,g2,g3,_,_,g6⟩
 ·refine fin (arr.push { key:=kv k,val:=uu,born:=clock }) (clock+1) ?_ ?_
  ·have:=g3 v uu hz2
   unfold fY;simpa using this
  ·simp only[kv] at hc g1
   simp[execOp,hx,hy,hu,Instr.mapUpdate,run_underlying ht,MapKept.run_getObj_map hb,hc,MapKept.run_findKey hk g1,MapKept.run_setObj_map _ hb,Result.andThen,kv]
 ·rw[Nat.zero_add] at g1
  have hj':arr[j]?=some e0:=by rw[←Array.getElem?_toList];exact g2
  refine fin (arr.modify j fun e=>{ e with key:=kv k,val:=uu }) clock ?_ ?_
  ·have hjl:j<arr.toList.length:=(List.getElem?_eq_some_iff.1 g2).1
   have:(arr.modify j fun e=>{ e with key:=kv k,val:=uu }).toList=arr.toList.set j { e0 with key:=kv k,val:=uu }:=by
    apply List.ext_getElem?
    intro q
    rw[Array.getElem?_toList,Array.getElem?_modify]
    by_cases hq:j=q
    ·subst hq
     rw[if_pos rfl,hj',List.getElem?_set_self hjl];rfl
    ·rw[if_neg hq,List.getElem?_set_ne hq,Array.getElem?_toList]
   unfold fY
   rw[this,List.map_set];exact g6 v uu hz2
  ·have hkeep:(Instr.keyThatStays (kv k) (kv k)).run P w=.ok (kv k) w:=MapKept.run_keyThatStays (n9 k)
   simp only[kv] at hc g1 g3 hkeep
   simp[execOp,hx,hy,hu,Instr.mapUpdate,run_underlying ht,MapKept.run_getObj_map hb,hc,MapKept.run_findKey hk g1,MapKept.run_setObj_map _ hb,Result.andThen,hj',g3,hkeep,kv]
end
end Go.Proofs.YtdilpodccjlkgaaGreatDoor
namespace Go.Proofs.YtdilpodccjlkgaaGreatDoor
open Go.Proofs.Tryz
open Go.Proofs
theorem aR.lendTo {P:Program} {E:World} {f:FuncId} {ars ars':List AV} {O1 O2:OL} {Q:AV→OL→Prop}
  (has:∀(I J:G) (L:List (Nat × Obj)),I.le J→bt I O1 L→(∀y∈L,J.k y.1=some y.2)→∀vs,RepL I ars vs→RepL J ars' vs)
  (hx:∀(I J:G) y O v,Q y O→bq J y v→bq I y v) (hO:∀(I J:G) y O B,Q y O→bt J O B→bt I O B)
  (h:aR P E f ars' O2 Q):aR P E f ars (O1++O2) fun y O'=>∃O'',Q y O''∧O'=O1++O'':=fun I F w vs h1 h2=>by
 obtain ⟨ht,L,hL,hS⟩:=id h2
 obtain ⟨A,B,rfl,hA,hB⟩:=bt.append.1 hL
 rw[qm] at hS
 obtain ⟨K,h3,h4,hf⟩:=SL.freezeAllN hS
 let J:G:=⟨K,I.h⟩
 have hle:I.le J:=⟨h3,fun _ _ h=>h⟩
 refine (h J F w vs (has I J A hle hA hf vs h1) ⟨ht,B,hB.mono hle,h4⟩).mono fun v w' ⟨J2,y,O',a,b,c,d⟩=>?_
 obtain ⟨_,B',hB',hS'⟩:=c
 have hI2:∀b o,I.k b=some o→J2.k b=some o:=fun b o hb=>a.k b o (hle.k b o hb)
 have hA2:∀z∈A,J2.k z.1=some z.2:=fun z hz=>a.k _ _ (hf z hz)
 refine ⟨I,y,_,.refl _,hx I J2 y O' v d b,⟨ht,A++B',bt.append.2 ⟨A,B',U,hA,hO I J2 y O' B' d hB'⟩,?_⟩,O',d,U⟩
 rw[qm]
 refine ⟨hS'.os,hS'.output,hS'.tape,fun b o hb=>hS'.pers b o (hI2 b o hb),fun z hz=>?_,?_,fun z hz=>?_,hS.base,hS.flat,fun z hz=>?_⟩
 ·rcases List.mem_append.1 hz with hz|hz
  ·exact hS'.pers _ _ (hA2 z hz)
  ·exact hS'.own z hz
 ·have hn:=hS.nodup
  rw[qv,List.nodup_append] at hn ⊢
  refine ⟨hn.1,hS'.nodup,fun p hp q hq e=>?_⟩
  obtain ⟨z,hz,rfl⟩:=List.mem_map.1 hp
  obtain ⟨u,hu,rfl⟩:=List.mem_map.1 hq
  have h5:=hS'.apart u hu
  rw[←e,hA2 z hz] at h5
  cases h5
 ·rcases List.mem_append.1 hz with hz|hz
  ·exact hS.apart z (List.mem_append_left _ hz)
  ·have h5:=hS'.apart z hz
   cases h6:I.k z.1 with
   |none=>rfl
   |some o=>rw[hI2 _ _ h6] at h5;cases h5
 ·rcases List.mem_append.1 hz with hz|hz
  ·exact hS.oflat z (List.mem_append_left _ hz)
  ·exact hS'.oflat z hz
theorem db.up {env e:aS} {d:Nat} {v:AV}:∀{f:List Nat},f.all (fun t=>!Nat.beq t d)=true→db env e f→db env (br e d v) f
 |[],_,_=>trivial
 |t::f,h,⟨h1,h2⟩=>by
  rw[List.all_cons,qz] at h
  refine ⟨?_,db.up h.2 h2⟩
  unfold br
  have h3:Nat.beq t d=false:=by simpa using h.1
  rw[h3];exact h1
theorem jY.ints {I J:G}:∀{es:List (Int × Int)} {hs:List (Value × Value)},jY J (es.map fun p=>(p.1,.int .i64 p.2)) hs→jY I (es.map fun p=>(p.1,.int .i64 p.2)) hs
 |[],_,e=>e
 |_::_,_,⟨v,hs',e,h1,h2⟩=>⟨v,hs',e,h1,jY.ints h2⟩
theorem BR {I J:G} {b:Nat} {es:List (Int × Int)} {B:List (Nat × Obj)} (h:bt J [(0,iJ b (es.map fun p=>(p.1,.int .i64 p.2)))] B):bt I [(0,iJ b (es.map fun p=>(p.1,.int .i64 p.2)))] B:=by
 obtain ⟨A,C,e,⟨arr,clock,h1,h2⟩,h3⟩:=h
 exact ⟨A,C,e,⟨arr,clock,h1,h2.ints⟩,h3⟩
end Go.Proofs.YtdilpodccjlkgaaGreatDoor
namespace Go.Proofs.YtdilpodccjlkgaaGreatDoor
open Go.Proofs.Tryz
open Go.Proofs Go.Lib Go.Shelf Go.RowKit
variable {E:World}
set_option maxRecDepth 20000
def lm (f:ad) (t pr:AV) (js jp np:Nat) (a9 a10:AV):List AV:=[.fro 2 (f.vars.map fq),.fro 1 (f.params.map cW),.fro 7 (f.blocks.map cZ),t,.fro 2 ((cE f).map eP.row),pr,.po js 0,.int .i64 (bQ f),.own jp np,a9,a10]
def iu (f:ad) (t pr a9 a10:AV) (iw js jl jm jp:Nat) (K:KS) (M:List Int):OL:=[(iw,.cells 75 (lm f t pr js jp K.p.length a9 a10)),(js,.cells 136 [.int .i64 ((f.vars.length+1:Nat):Int),.own jl K.l.length,.own jm M.length]),(jl,.grow 3 180 (K.l.map bf).flatten),(jm,.grow 1 3 (cI M)),(jp,.grow 2 187 (K.p.map cD).flatten)]
theorem zU (l:List (Int × List Int)):∀x∈l.map cD,x.length=2:=fun x hx=>by obtain ⟨o,_,rfl⟩:=List.mem_map.1 hx;rfl
theorem wc (K:KS) (a b c:Int):(cQ K a b c).l=lN K.l a b c:=by unfold cQ lN;split<;>rfl
theorem cG (K:KS) (a b c:Int):(cQ K a b c).p=K.p:=by unfold cQ;split<;>rfl
theorem mY (K:KS) (a b:Int) (o:Option Int):(addO K a b o).p=K.p:=by cases o with|none=>rfl|some c=>exact cG K a b c
theorem gf {K:KS} {a b:Int} {o:Option Int} (h:o.isSome=true):addO K a b o=cQ K a b (o.getD 0):=by cases o with|none=>cases h|some c=>rfl
theorem gg {K:KS} {a b:Int} {o:Option Int} (h:o.isSome=false):addO K a b o=K:=by cases o with|none=>rfl|some c=>cases h
theorem E6 {x:Int} (h:-6917529027641081856≤x∧x≤6917529027641081856):IntKind.i64.wrap (0 - -x)=x:=by
 rw[rX];omega
section
variable {f:ad} {K:KS} {t pr a9 a10:AV} {iw js jl jm jp:Nat} {M:List Int}
theorem BS {args:List AV} (I J:G) (L:List (Nat × Obj)) (hle:I.le J) (hL:bt I (iu f t pr a9 a10 iw js jl jm jp K M) L) (hf:∀y∈L,J.k y.1=some y.2):∀vs,RepL I (.po iw 0::args) vs→RepL J (v7 f K t pr::args) vs:=by
 refine bL ?_ (ol hle args)
 unfold v7 vt
 refine lx hL hf .head ?_
 unfold lm wT
 refine bL (dH hle _) <| bL (dH hle _) <| bL (dH hle _) <| bL (dH hle _) <| bL (dH hle _) <| bL (dH hle _) <| bL ?_ <| bL (dH hle _) <| bL ?_ <| bL (om _) <| bL (om _) oh
 ·refine lx hL hf .t1 ?_
  refine bL (dH hle _) <| bL ?_ <| bL (om _) oh
  exact kP hle hL hf .t2 (qX _) (by decide) (qr ..)
 ·exact kP hle hL hf .t4 (zU _) (by decide) (qr ..)
theorem k5 {fn:FuncId} {x:AV} {args:List AV} (hx:∀(I J:G) v,bq J x v→bq I x v)
  (h:aK prog E fn (v7 f K t pr::args) x):aR prog E fn (.po iw 0::args) (iu f t pr a9 a10 iw js jl jm jp K M) (fun y O=>y=x∧O=iu f t pr a9 a10 iw js jl jm jp K M):=
 aR.lendAll BS hx h
theorem gx (jl:Nat) (K:KS) (hK:KB f K) {a b:Int} (ha:aJ f a) (hb:aJ f b) (c:Int) :
  aR prog E 66 [.po js 0,.int .i64 a,.int .i64 b,.int .i64 c] [(js,.cells 136 [.int .i64 ((f.vars.length+1:Nat):Int),.own jl K.l.length,.own jm M.length]),(jl,.grow 3 180 (K.l.map bf).flatten),(jm,.grow 1 3 (cI M))]
   (fun y O=>∃g:Nat × Bool,y=.bool g.2∧O=[(js,.cells 136 [.int .i64 ((f.vars.length+1:Nat):Int),.own g.1 (cQ K a b c).l.length,.own jm M.length]),(g.1,.grow 3 180 ((cQ K a b c).l.map bf).flatten),(jm,.grow 1 3 (cI M))]∧True):=by
 have:=mX (E:=E) js jl jm (f.vars.length+1) K.l M (ed ha) (ed hb) c hK.len
 rw[wc]
 exact this
variable (hv:f.vars.length≤1000)
include hv
theorem Gk (hK:KB f K) {v:Int} (h:aJ f v):aR prog E 117 [.po iw 0,.int .i64 v] (iu f t pr a9 a10 iw js jl jm jp K M) (fun y O=>y=.tup [.int .i64 ((bO f K v (bQ f)).getD 0),.bool (bO f K v (bQ f)).isSome]∧O=iu f t pr a9 a10 iw js jl jm jp K M):=
 k5 (fun _ _ _ h=>og h) (tD (fW hv hK) (ed h) (ed d5))
theorem E7 (hK:KB f K) {v:Int} (h:aJ f v):aR prog E 152 [.po iw 0,.int .i64 v] (iu f t pr a9 a10 iw js jl jm jp K M) (fun y O=>y=.tup [.int .i64 (-(bO f K (bQ f) v).getD 0),.bool (bO f K (bQ f) v).isSome]∧O=iu f t pr a9 a10 iw js jl jm jp K M):=
 k5 (fun _ _ _ h=>og h) (ly (fW hv hK) (ed h) (ed d5))
theorem En (hK:KB f K) {v:Int} (h:aJ f v):aR prog E 116 [.po iw 0,.int .i64 v] (iu f t pr a9 a10 iw js jl jm jp K M) (fun y O=>y=.bool (eg f K v)∧O=iu f t pr a9 a10 iw js jl jm jp K M):=
 k5 (fun _ _ _ h=>fp h) (yC (fW hv hK) (ed h) (ed d5))
theorem Gl (hK:KB f K) (hP:uB K.p) (op:Int) (l:List Int):aR prog E 112 [.po iw 0,.int .i64 op,.fro 1 (l.map cW)] (iu f t pr a9 a10 iw js jl jm jp K M) (fun y O=>y=.bool (mo K op l)∧O=iu f t pr a9 a10 iw js jl jm jp K M):=
 k5 (fun _ _ _ h=>fp h) (rF hv hK hP op l)
theorem BT (hK:KB f K) (x:aF) (hx:1<x.args.length) (h0:aJ f (bc x)) (h1:aJ f (bC x)) (k:Nat) (hk:k≤2) (hop:x.op=2+(k:Int)):aR prog E 115 [.po iw 0,.agg (aP x)] (iu f t pr a9 a10 iw js jl jm jp K M) (fun y O=>y=.bool (lh f K k (bc x) (bC x))∧O=iu f t pr a9 a10 iw js jl jm jp K M):=
 k5 (fun _ _ _ h=>fp h) (mq hv hK x hx h0 h1 k hk (.inl hop))
omit hv in
theorem E8 (hv:f.vars.length≤1000) (hK:KB f K) (a b:Int):IntKind.i64.wrap (0 - -(bO f K a b).getD 0)=(bO f K a b).getD 0:=E6 (l7 (fW hv hK))
set_option maxHeartbeats 4000000 in
theorem zV (hK:KB f K) (hP:uB K.p) (x:aF) (hF:dg f x) (hop:x.op=2∨x.op=3) :
  aR prog E 110 [.po iw 0,.agg (aP x)] (iu f t pr a9 a10 iw js jl jm jp K M) (fun y O=>∃g:Nat,y=.tup []∧O=iu f t pr a9 a10 iw js g jm jp (jD f K x) M∧True):=by
 refine yu (γ:=Nat) (x:=fun g=>.tup []) (M:=fun g=>iu f t pr a9 a10 iw js g jm jp (jD f K x) M) (p:=fun _=>True) ?_
 have h1:1<x.args.length:=by rcases hop with e|e<;>(rw[hF.cnt e];decide)
 have hd:aJ f x.dst:=by rcases hop with e|e<;>exact bv (hF.d e rfl)
 have n0:aJ f (bc x):=bv (hF.a0 (by omega))
 have n1:aJ f (bC x):=bv (hF.a1 h1)
 have nn:aJ f (bQ f):=d5
 obtain ⟨kk,hkk,hke⟩:∃k:Nat,k≤2∧x.op=2+(k:Int):=⟨(x.op - 2).toNat,by omega,by omega⟩
 have hke2:(x.op - 2).toNat=kk:=by omega
 have hwas:=Gl (E:=E) (t:=t) (pr:=pr) (a9:=a9) (a10:=a10) (iw:=iw) (js:=js) (jl:=jl) (jm:=jm) (jp:=jp) (M:=M) hv hK hP (21+x.op - 2) x.args
 have hwi:=BT (E:=E) (t:=t) (pr:=pr) (a9:=a9) (a10:=a10) (iw:=iw) (js:=js) (jl:=jl) (jm:=jm) (jp:=jp) (M:=M) hv hK x h1 n0 n1 kk hkk hke
 have hup:=fun v (h:aJ f v)=>Gk (E:=E) (t:=t) (pr:=pr) (a9:=a9) (a10:=a10) (iw:=iw) (js:=js) (jl:=jl) (jm:=jm) (jp:=jp) (M:=M) hv hK h
 have hdn:=fun v (h:aJ f v)=>E7 (E:=E) (t:=t) (pr:=pr) (a9:=a9) (a10:=a10) (iw:=iw) (js:=js) (jl:=jl) (jm:=jm) (jp:=jp) (M:=M) hv hK h
 have rk:=fun a b=>E8 hv hK a b
 have hsS:¬(mo K (x.op+19) x.args=false∧lh f K kk (bc x) (bC x)=false)→jD f K x=if x.op=3 then addO (addO K x.dst (bc x) (bO f K (bQ f) (bC x))) (bc x) x.dst (bO f K (bC x) (bQ f))
     else addO (addO (addO (addO K x.dst (bc x) (bO f K (bC x) (bQ f))) (bc x) x.dst (bO f K (bQ f) (bC x))) x.dst (bC x) (bO f K (bc x) (bQ f))) (bC x) x.dst (bO f K (bQ f) (bc x)):=fun h=>by
  unfold jD
  rw[hke2,if_neg h]
 have hsN:(mo K (x.op+19) x.args=false∧lh f K kk (bc x) (bC x)=false)→jD f K x=K:=fun h=>by
  unfold jD
  rw[hke2,if_pos h]
 have hup0:=hup _ n0
 have hup1:=hup _ n1
 have hdn0:=hdn _ n0
 have hdn1:=hdn _ n1
 have rk0:=rk (bQ f) (bc x)
 have rk1:=rk (bQ f) (bC x)
 generalize bO f K (bQ f) (bc x)=o0 at *
 generalize bO f K (bQ f) (bC x)=o1 at *
 generalize bO f K (bc x) (bQ f)=q0 at *
 generalize bO f K (bC x) (bQ f)=q1 at *
 generalize jD f K x=KZ at *
 clear hup hdn rk
 have add:=fun jl K hK a b (ha:aJ f a) (hb:aJ f b) c=>gx (E:=E) (js:=js) (jm:=jm) (M:=M) jl K hK ha hb c
 rw[show 21+x.op - 2=x.op+19 by omega] at hwas
 have hne:21+x.op - 2=x.op+19:=by omega
 unfold iu at *
 refine zq func110 U (by decide) U<|ae<|y9 (cs:=_) U U U<|z6 ?_
 rw[←hne] at hwas
 refine zd<|zd<|ya (γ:=Bool) [0,3] (fun u=>[(29,.bool u)]) (fun u=>[(iw,.cells 75 (lm f t pr js jp K.p.length a9 a10)),(js,.cells 136 [.int .i64 ((f.vars.length+1:Nat):Int),.own jl K.l.length,.own jm M.length]),(jl,.grow 3 180 (K.l.map bf).flatten),(jm,.grow 1 3 (cI M)),(jp,.grow 2 187 (K.p.map cD).flatten)]) (fun u=>u=(!mo K (x.op+19) x.args&&!lh f K kk (bc x) (bC x))) ?_ (fun _ _ h=>h) ?_
 ·refine aO<|aE U<|ao j5 U jy U U<|ay Z2 U<|aC U U<|za (Gv.sub U U (by unfold lj;omega))<|ao j5 U j8 U U<|aI j9 U<|zr U (zh (.l (.l (.l (.l (.l (.rest _))))))) (hwas) ?_
  rintro r22 O22 ⟨rfl,rfl⟩
  refine aB U<|aj U<|zo (s:=24) U (fun c1=>?_) (fun c1=>?_)
  ·refine z8 U U c1<|aE U<|z8 U U c1<|ac Zk jv U U<|z8 U U c1<|zr U (zh (.l (.l (.l (.l (.l (.rest _))))))) (hwi) ?_
   rintro r27 O27 ⟨rfl,rfl⟩
   refine z8 U U c1<|aB U<|aq U c1 U<|z6 ?_
   exact ⟨_,(by repeat (first|with_reducible exact zp _ _|refine db.up rfl ?_)),aH,aD,by simp_all⟩
  ·refine z7 U U c1<|z7 U U c1<|z7 U U c1<|z7 U U c1<|au U c1 U<|z6 ?_
   exact ⟨_,(by repeat (first|with_reducible exact zp _ _|refine db.up rfl ?_)),aH,aD,by simp_all⟩
 ·rintro u hu
  refine zy U (fun cu=>?_) (fun cu=>?_)
  ·have hS:KZ=K:=hsN (by rw[hu] at cu;simpa using cu)
   refine zi<|yh ?_
   exact ⟨jl,rfl,⟨_,.refl _,by rw[hS]⟩,trivial⟩
  ·have hS:=hsS (by rw[hu] at cu;simpa using cu)
   refine zg<|zd<|zw (fun j=>false) (by kernel_rfl) U (zh (.rest _))<|ak 0 U (bx j5 U j6 U U)<|ak 1 U (b7 j7 U)<|ak 2 U (bx j5 U j8 U U)<|ak 3 U (dx j9 U)<|ak 4 U (bh 0 wz j6 U U U (bn (by omega)))<|ak 5 U (b7 j7 U)<|ak 6 U (bx j5 U j8 U U)<|ak 7 U (dx j9 U)<|ak 8 U (bh 1 wz j6 U U U (bw h1))<|ak 9 U (b7 j7 U)<|ak 10 U (mA U)<|ak 11 U (mA U)<|ak 12 U (mA U)<|bY<|ae<|aE U<|aa U<|zr U (zh (.l (.l (.l (.l (.l (.rest _))))))) (hup1) ?_
   rintro r43 O43 ⟨rfl,rfl⟩
   refine bR U<|bJ U U<|bZ U U<|ap U<|ab U<|z6<|ae<|aE U<|aa U<|zr U (zh (.l (.l (.l (.l (.l (.rest _))))))) (hdn1) ?_
   rintro r49 O49 ⟨rfl,rfl⟩
   refine bR U<|bJ U U<|bZ U U<|ap U<|ab U<|z6<|zd<|ae<|ao j5 U jy U U<|ay Z2 U<|ai U U<|z6<|zu U (fun c3=>?_) (fun c3=>?_)
   ·rw[if_pos (show x.op=3 from c3)] at hS
    rw[hS]
    refine zd<|ae<|aj U<|z6<|ya (γ:=Nat) [0,4,5,7,8] (fun g=>[]) (fun g=>[(iw,.cells 75 (lm f t pr js jp K.p.length a9 a10)),(js,.cells 136 [.int .i64 ((f.vars.length+1:Nat):Int),.own g (addO K x.dst (bc x) o1).l.length,.own jm M.length]),(g,.grow 3 180 ((addO K x.dst (bc x) o1).l.map bf).flatten),(jm,.grow 1 3 (cI M)),(jp,.grow 2 187 (K.p.map cD).flatten)]) (fun g=>True) ?_ (fun _ _ h=>h) ?_
    ·refine zy U (fun c=>?_) (fun c=>?_)
     ·refine aO<|aE U<|aw U<|za (zn je U Z8 (by decide) U U)<|za (zt (c:=.po _ _) Zg U ⟨_,.head⟩ U)<|aa U<|aa U<|aa U<|za (Gv.neg U)<|zr U (zh (.r (.l (.l (.l (.r (.rest _))))))) (add jl K hK _ _ hd n0 (IntKind.i64.wrap (0 - -o1.getD 0))) ?_
      rintro r64 O64 ⟨⟨j1,u1⟩,rfl,rfl,_⟩
      refine zf (zb (zc .t4))<|zf (zb (zc .t3))<|zf (zb (zc .t3))<|zf (zb (zc .t3))<|zf (zb (zc .t4))<|z6 ?_
      exact ⟨j1,(by repeat (first|with_reducible exact zp _ _|refine db.up rfl ?_)),trivial,⟨_,(.refl _),by rw[gf c,rk1]⟩,trivial⟩
     ·refine zg ?_
      exact ⟨jl,(by repeat (first|with_reducible exact zp _ _|refine db.up rfl ?_)),trivial,⟨_,(.refl _),by simp only[gg c,qw]⟩,trivial⟩
    ·rintro jq _
     have hK1:KB f (addO K x.dst (bc x) o1):=hK.addO hd n0
     refine zd<|ae<|aj U<|z6<|zy U (fun c=>?_) (fun c=>?_)
     ·refine aO<|aE U<|aw U<|za (zn je U Z8 (by decide) U U)<|za (zt (c:=.po _ _) Zg U ⟨_,.head⟩ U)<|aa U<|aa U<|aa U<|zr U (zh (.r (.l (.l (.l (.r (.rest _))))))) (add jq _ hK1 _ _ n0 hd (q1.getD 0)) ?_
      rintro r73 O73 ⟨⟨j1,u1⟩,rfl,rfl,_⟩
      refine z6<|y3 (zb (zc .t4))<|y3 (zb (zc .t3))<|y3 (zb (zc .t3))<|y3 (zb (zc .t3))<|y3 (zb (zc .t4))<|zi<|yh ?_
      exact ⟨j1,rfl,⟨_,.refl _,by rw[gf c,cG,mY]⟩,trivial⟩
     ·refine zg<|zi<|yh ?_
      exact ⟨jq,rfl,⟨_,.refl _,by rw[gg c,mY]⟩,trivial⟩
   ·rw[if_neg (show ¬x.op=3 from c3)] at hS
    rw[hS]
    refine zg<|ae<|aE U<|aa U<|zr U (zh (.l (.l (.l (.l (.l (.rest _))))))) (hup0) ?_
    rintro r77 O77 ⟨rfl,rfl⟩
    refine bR U<|bJ U U<|bZ U U<|ap U<|ab U<|z6<|zd<|ya (γ:=Unit) [0,4,5,6,7,8,9,10,11,12] (fun u2=>[(13,.int .i64 (-o0.getD 0)),(14,.bool o0.isSome)]) (fun u2=>[(iw,.cells 75 (lm f t pr js jp K.p.length a9 a10)),(js,.cells 136 [.int .i64 ((f.vars.length+1:Nat):Int),.own jl K.l.length,.own jm M.length]),(jl,.grow 3 180 (K.l.map bf).flatten),(jm,.grow 1 3 (cI M)),(jp,.grow 2 187 (K.p.map cD).flatten)]) (fun u2=>True) ?_ (fun _ _ h=>h) ?_
    ·refine aO<|aE U<|aa U<|zr U (zh (.l (.l (.l (.l (.l (.rest _))))))) (hdn0) ?_
     rintro r83 O83 ⟨rfl,rfl⟩
     refine bR U<|bJ U U<|bZ U U<|ap U<|ab U<|z6 ?_
     exact ⟨(),(by repeat (first|with_reducible exact zp _ _|refine db.up rfl ?_)),cV,⟨_,(.refl _),by simp only[qw]⟩,trivial⟩
    ·rintro u2 _
     refine zd<|ae<|aj U<|z6<|ya (γ:=Nat) [0,4,5,6,9,10,11,12,13,14] (fun g=>[]) (fun g=>[(iw,.cells 75 (lm f t pr js jp K.p.length a9 a10)),(js,.cells 136 [.int .i64 ((f.vars.length+1:Nat):Int),.own g (addO K x.dst (bc x) q1).l.length,.own jm M.length]),(g,.grow 3 180 ((addO K x.dst (bc x) q1).l.map bf).flatten),(jm,.grow 1 3 (cI M)),(jp,.grow 2 187 (K.p.map cD).flatten)]) (fun g=>True) ?_ (fun _ _ h=>h) ?_
     ·refine zy U (fun c=>?_) (fun c=>?_)
      ·refine aO<|aE U<|aw U<|za (zn je U Z8 (by decide) U U)<|za (zt (c:=.po _ _) Zg U ⟨_,.head⟩ U)<|aa U<|aa U<|aa U<|zr U (zh (.r (.l (.l (.l (.r (.rest _))))))) (add jl K hK _ _ hd n0 (q1.getD 0)) ?_
       rintro r94 O94 ⟨⟨j1,u1⟩,rfl,rfl,_⟩
       refine zf (zb (zc .t4))<|zf (zb (zc .t3))<|zf (zb (zc .t3))<|zf (zb (zc .t3))<|zf (zb (zc .t4))<|z6 ?_
       exact ⟨j1,(by repeat (first|with_reducible exact zp _ _|refine db.up rfl ?_)),trivial,⟨_,(.refl _),by rw[gf c]⟩,trivial⟩
      ·refine zg ?_
       exact ⟨jl,(by repeat (first|with_reducible exact zp _ _|refine db.up rfl ?_)),trivial,⟨_,(.refl _),by simp only[gg c,qw]⟩,trivial⟩
     ·rintro jq _
      have hK1:KB f (addO K x.dst (bc x) q1):=hK.addO hd n0
      obtain ⟨K1,hk1⟩:∃K1,addO K x.dst (bc x) q1=K1:=⟨_,rfl⟩
      have hp1:K1.p=K.p:=by rw[←hk1,mY]
      rw[hk1] at hK1
      rw[hk1]
      refine zd<|ae<|aj U<|z6<|ya (γ:=Nat) [0,4,6,11,12,13,14] (fun g=>[]) (fun g=>[(iw,.cells 75 (lm f t pr js jp K.p.length a9 a10)),(js,.cells 136 [.int .i64 ((f.vars.length+1:Nat):Int),.own g (addO K1 (bc x) x.dst o1).l.length,.own jm M.length]),(g,.grow 3 180 ((addO K1 (bc x) x.dst o1).l.map bf).flatten),(jm,.grow 1 3 (cI M)),(jp,.grow 2 187 (K.p.map cD).flatten)]) (fun g=>True) ?_ (fun _ _ h=>h) ?_
      ·refine zy U (fun c=>?_) (fun c=>?_)
       ·refine aO<|aE U<|aw U<|za (zn je U Z8 (by decide) U U)<|za (zt (c:=.po _ _) Zg U ⟨_,.head⟩ U)<|aa U<|aa U<|aa U<|za (Gv.neg U)<|zr U (zh (.r (.l (.l (.l (.r (.rest _))))))) (add jq K1 hK1 _ _ n0 hd (IntKind.i64.wrap (0 - -o1.getD 0))) ?_
        rintro r104 O104 ⟨⟨j1,u1⟩,rfl,rfl,_⟩
        refine zf (zb (zc .t4))<|zf (zb (zc .t3))<|zf (zb (zc .t3))<|zf (zb (zc .t3))<|zf (zb (zc .t4))<|z6 ?_
        exact ⟨j1,(by repeat (first|with_reducible exact zp _ _|refine db.up rfl ?_)),trivial,⟨_,(.refl _),by rw[gf c,rk1]⟩,trivial⟩
       ·refine zg ?_
        exact ⟨jq,(by repeat (first|with_reducible exact zp _ _|refine db.up rfl ?_)),trivial,⟨_,(.refl _),by simp only[gg c,qw]⟩,trivial⟩
      ·rintro jr _
       have hK2:=hK1.addO n0 hd (o:=o1)
       obtain ⟨K2,hk2⟩:∃K2,addO K1 (bc x) x.dst o1=K2:=⟨_,rfl⟩
       have hp2:K2.p=K.p:=by rw[←hk2,mY,hp1]
       rw[hk2] at hK2
       rw[hk2]
       refine zd<|ae<|aj U<|z6<|ya (γ:=Nat) [0,4,6,13,14] (fun g=>[]) (fun g=>[(iw,.cells 75 (lm f t pr js jp K.p.length a9 a10)),(js,.cells 136 [.int .i64 ((f.vars.length+1:Nat):Int),.own g (addO K2 x.dst (bC x) q0).l.length,.own jm M.length]),(g,.grow 3 180 ((addO K2 x.dst (bC x) q0).l.map bf).flatten),(jm,.grow 1 3 (cI M)),(jp,.grow 2 187 (K.p.map cD).flatten)]) (fun g=>True) ?_ (fun _ _ h=>h) ?_
       ·refine zy U (fun c=>?_) (fun c=>?_)
        ·refine aO<|aE U<|aw U<|za (zn je U Z8 (by decide) U U)<|za (zt (c:=.po _ _) Zg U ⟨_,.head⟩ U)<|aa U<|aa U<|aa U<|zr U (zh (.r (.l (.l (.l (.r (.rest _))))))) (add jr K2 hK2 _ _ hd n1 (q0.getD 0)) ?_
         rintro r113 O113 ⟨⟨j1,u1⟩,rfl,rfl,_⟩
         refine zf (zb (zc .t4))<|zf (zb (zc .t3))<|zf (zb (zc .t3))<|zf (zb (zc .t3))<|zf (zb (zc .t4))<|z6 ?_
         exact ⟨j1,(by repeat (first|with_reducible exact zp _ _|refine db.up rfl ?_)),trivial,⟨_,(.refl _),by rw[gf c]⟩,trivial⟩
        ·refine zg ?_
         exact ⟨jr,(by repeat (first|with_reducible exact zp _ _|refine db.up rfl ?_)),trivial,⟨_,(.refl _),by simp only[gg c,qw]⟩,trivial⟩
       ·rintro js2 _
        have hK3:=hK2.addO hd n1 (o:=q0)
        obtain ⟨K3,hk3⟩:∃K3,addO K2 x.dst (bC x) q0=K3:=⟨_,rfl⟩
        have hp3:K3.p=K.p:=by rw[←hk3,mY,hp2]
        rw[hk3] at hK3
        rw[hk3]
        refine ae<|aj U<|z6<|zy U (fun c=>?_) (fun c=>?_)
        ·refine aO<|aE U<|aw U<|za (zn je U Z8 (by decide) U U)<|za (zt (c:=.po _ _) Zg U ⟨_,.head⟩ U)<|aa U<|aa U<|aa U<|za (Gv.neg U)<|zr U (zh (.r (.l (.l (.l (.r (.rest _))))))) (add js2 K3 hK3 _ _ n1 hd (IntKind.i64.wrap (0 - -o0.getD 0))) ?_
         rintro r123 O123 ⟨⟨j1,u1⟩,rfl,rfl,_⟩
         refine z6<|ye (zb (zc .t4))<|ye (zb (zc .t3))<|ye (zb (zc .t3))<|ye (zb (zc .t3))<|ye (zb (zc .t4))<|yh ?_
         exact ⟨j1,rfl,⟨_,.refl _,by rw[gf c,cG,rk0,hp3]⟩,trivial⟩
        ·refine zg<|yh ?_
         exact ⟨js2,rfl,⟨_,.refl _,by rw[gg c,hp3]⟩,trivial⟩
end
set_option linter.defProp false
def zz:=@db.up
end Go.Proofs.YtdilpodccjlkgaaGreatDoor
