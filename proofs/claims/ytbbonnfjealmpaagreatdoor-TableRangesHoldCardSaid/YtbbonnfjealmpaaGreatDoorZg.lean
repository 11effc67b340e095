/- The document's own functions: names, the table, digits, what is the same, what has a text. No conditions but bounds. -/
import Derived.Test.YtbbonnfjealmpaaGreatDoorZf
import Derived.Test.YtbbonnfjealmpaaGreatDoorZc
set_option linter.unusedVariables false
set_option linter.unusedSimpArgs false
set_option linter.unusedSectionVars false
namespace Go.Proofs.YtbbonnfjealmpaaGreatDoor
open Go.Proofs.Tryz
open Go.Proofs Go.Lib Go.Shelf Go.RowKit
theorem et:em prog 169 #[(0,1),(1,1),(2,1)] [.e,.e,.e]:=⟨_,_,Y7,Xg,fun w=>by kernel_rfl,rfl⟩
theorem Fa:dn prog 170 169 27 3 [.e,.e,.e,.e,.e,.e,.e,.e,.e,.e,.e,.e,.e,.e,.e,.e,.e,.e,.e,.e,.e,.e,.e,.e,.e,.e,.e,.e,.e,.e,.e,.e,.e,.e,.e,.e,.e,.e,.e,.e,.e,.e,.e,.e,.e,.e,.e,.e,.e,.e,.e,.e,.e,.e,.e,.e,.e,.e,.e,.e,.e,.e,.e,.e,.e,.e,.e,.e,.e,.e,.e,.e,.e,.e,.e,.e,.e,.e,.e,.e,.e]:=⟨_,Xc,Yz,Xg,by decide,by decide,by kernel_rfl⟩
set_option maxRecDepth 20000
variable {E:World}
def bx (E:World):Prop:=Lib.TabIs prog E "unicode.properties" .u8 Lib.propertiesTab∧RVar 1 letterT E
theorem pp (c:Int) (h1:-2147483648≤c) (h2:c≤2147483647) (hL:bx E):aP prog E 207 [.int .i32 c] (.bool (isLetterU c)):=
 aP.ofBelow (vs:=[.int .i32 c]) (r:=.bool (isLetterU c)) func207 rfl (by decide) rfl fun w hw=>Tryz.unicode_IsLetter_all c w h1 h2 (TabIs_below (g:=0) (by kernel_rfl) hL.1 hw) (RVar_below hL.2 hw)
theorem eT (s:ByteArray) (p:Nat):1≤(Utf8.decode s p).2∧(Utf8.decode s p).1≤2097151:=by
 have h256:∀k,(s.get! k).toNat<256:=fun k=>(s.get! k).toNat_lt
 unfold Utf8.decode
 dsimp only
 constructor
 ·repeat' split
  all_goals simp
 ·have h0:=h256 (p+0)
  have h1:=h256 (p+1)
  have h2:=h256 (p+2)
  have h3:=h256 (p+3)
  repeat' split
  all_goals (simp only[Utf8.runeError];omega)
def dZ (c:Int) (n:Nat):Bool:=(isLetterU c&&!decide (c=65533))||(!decide ((n:Int)=0)&&((decide (48≤c)&&decide (c≤57))||decide (c=46)||decide (c=95)))
def fk (s:ByteArray) (p n:Nat):Bool:=
 if h:p<s.size then (if dZ (Utf8.decode s p).1 n then fk s (p+(Utf8.decode s p).2) (n+1) else false) else decide ((1:Int)≤n)&&decide ((n:Int)≤16)
termination_by s.size - p
decreasing_by have:=(eT s p).1;omega
def nT (s:ByteArray):Bool:=fk s 0 0
theorem uw (s:ByteArray) (hs:s.size≤140737488355328) (hL:bx E):aP prog E 175 [.str s] (.bool (nT s)):=by
 refine zp func175 U (by decide) U<|ae<|ad U<|z2<|ae<|am U<|z2<|zb<|ae<|z8 (yt (v:=.str _) U)<|ay.rangeT Zy U<|fun i8=>z2<|zi<|y5 (γ:=Nat × Nat) [8] (fun g=>[(3,.i g.2)]) (fun g=>[(i8,.iter s g.1)]) (fun g=>fk s g.1 g.2=nT s∧g.2≤g.1∧g.2≤s.size) (fun g=>s.size - g.1) (0,0) aL aE (⟨U,Nat.le_refl _,w2 _⟩) ?_
 rintro ⟨p,n⟩ ⟨hp,hn,hn2⟩
 try dsimp only at *
 by_cases hlt:p<s.size
 ·obtain ⟨hd1,hd2⟩:=eT s p
  have hstep:=hp
  rw[fk,dif_pos hlt] at hstep
  refine ae<|ay.nextT U .head hlt<|z8 (wz U U)<|z2<|zb<|yr U U<|zf<|zi<|ae<|z8 (nC U U)<|am U<|z2<|ae<|aa U<|ze (pp _ (by omega) (by omega) hL) U<|aq U<|zt (s:=14) U (fun c1=>?_) (fun c1=>?_)
  ·refine z7 U U c1<|aa U<|z7 U U c1<|aO U U<|au U c1 U<|ad U<|z2<|zb<|ae<|aq U<|aJ U<|aq U<|zt (s:=20) U (fun c2=>?_) (fun c2=>?_)
   ·refine z7 U U c2<|aa U<|z7 U U c2<|ao U U<|z7 U U c2<|aq U<|zt (s:=23) U (fun c3=>?_) (fun c3=>?_)
    ·refine z6 U U c3<|z6 U U c3<|z6 U U c3<|zk U U<|zk U U<|z6 U U c3<|z6 U U c3<|z6 U U c3<|zk U U<|zk U U<|z6 U U c3<|z6 U U c3<|zk U U<|zk U U<|z6 U U c3<|z7 U U c2<|au U c3 U<|au U c2 U<|z2<|yr U U<|ae<|ad U<|z2<|zg<|zm (x:=.bool _) U ?_
     rw[if_neg (by simp_all[dZ]<;>omega)] at hstep;exact jb hstep
    ·refine z7 U U c3<|aa U<|z7 U U c3<|z8 (q9 U U)<|z7 U U c3<|aq U<|zt (s:=26) U (fun c4=>?_) (fun c4=>?_)
     ·refine z7 U U c4<|aa U<|z7 U U c4<|z8 (Gv.leq U U)<|z7 U U c3<|au U c4 U<|z7 U U c3<|aJ U<|z7 U U c3<|aq U<|zt (s:=31) U (fun c5=>?_) (fun c5=>?_)
      ·refine z7 U U c5<|aa U<|z7 U U c5<|aO U U<|z7 U U c3<|au U c5 U<|z7 U U c3<|aq U<|zt (s:=35) U (fun c6=>?_) (fun c6=>?_)
       ·refine z7 U U c6<|aa U<|z7 U U c6<|aO U U<|z7 U U c3<|au U c6 U<|z7 U U c2<|aw U c3 U<|au U c2 U<|z2<|zw U (fun c7=>?_) (fun c7=>?_)
        ·refine ae<|ad U<|z2<|zg<|zm (x:=.bool _) U ?_
         rw[if_neg (by simp_all[dZ]<;>omega)] at hstep;exact jb hstep
        ·refine zf<|aW<|aa U<|aC U U<|am U<|z2 ?_
         exact ⟨(p+(Utf8.decode s p).2,n+1),aL,aL,aE,⟨by rw[if_pos (by simp_all[dZ]<;>omega)] at hstep;exact hstep,by dsimp only;omega,by dsimp only;omega⟩,by dsimp only;omega⟩
       ·refine z6 U U c6<|z6 U U c6<|z7 U U c3<|aw U c6 U<|z7 U U c2<|aw U c3 U<|au U c2 U<|z2<|yq U U<|zf<|aW<|aa U<|aC U U<|am U<|z2 ?_
        exact ⟨(p+(Utf8.decode s p).2,n+1),aL,aL,aE,⟨by rw[if_pos (by simp_all[dZ]<;>omega)] at hstep;exact hstep,by dsimp only;omega,by dsimp only;omega⟩,by dsimp only;omega⟩
      ·refine z6 U U c5<|z6 U U c5<|z7 U U c3<|aw U c5 U<|z7 U U c3<|aq U<|z6 U U U<|z6 U U U<|z7 U U c3<|aw U U U<|z7 U U c2<|aw U c3 U<|au U c2 U<|z2<|yq U U<|zf<|aW<|aa U<|aC U U<|am U<|z2 ?_
       exact ⟨(p+(Utf8.decode s p).2,n+1),aL,aL,aE,⟨by rw[if_pos (by simp_all[dZ]<;>omega)] at hstep;exact hstep,by dsimp only;omega,by dsimp only;omega⟩,by dsimp only;omega⟩
     ·refine z6 U U c4<|z6 U U c4<|z7 U U c3<|aw U c4 U<|z7 U U c3<|aJ U<|z7 U U c3<|aq U<|z7 U U U<|aa U<|z7 U U U<|aO U U<|z7 U U c3<|au U U U<|z7 U U c3<|aq U<|zt (s:=35) U (fun c8=>?_) (fun c8=>?_)
      ·refine z7 U U c8<|aa U<|z7 U U c8<|aO U U<|z7 U U c3<|au U c8 U<|z7 U U c2<|aw U c3 U<|au U c2 U<|z2<|zw U (fun c9=>?_) (fun c9=>?_)
       ·refine ae<|ad U<|z2<|zg<|zm (x:=.bool _) U ?_
        rw[if_neg (by simp_all[dZ]<;>omega)] at hstep;exact jb hstep
       ·refine zf<|aW<|aa U<|aC U U<|am U<|z2 ?_
        exact ⟨(p+(Utf8.decode s p).2,n+1),aL,aL,aE,⟨by rw[if_pos (by simp_all[dZ]<;>omega)] at hstep;exact hstep,by dsimp only;omega,by dsimp only;omega⟩,by dsimp only;omega⟩
      ·refine z6 U U c8<|z6 U U c8<|z7 U U c3<|aw U c8 U<|z7 U U c2<|aw U c3 U<|au U c2 U<|z2<|yq U U<|zf<|aW<|aa U<|aC U U<|am U<|z2 ?_
       exact ⟨(p+(Utf8.decode s p).2,n+1),aL,aL,aE,⟨by rw[if_pos (by simp_all[dZ]<;>omega)] at hstep;exact hstep,by dsimp only;omega,by dsimp only;omega⟩,by dsimp only;omega⟩
   ·refine z6 U U c2<|z6 U U c2<|z6 U U c2<|zk U U<|zk U U<|zk U U<|zk U U<|zk U U<|zk U U<|zk U U<|zk U U<|zk U U<|zk U U<|zk U U<|zk U U<|zk U U<|zk U U<|zk U U<|z6 U U c2<|aw U c2 U<|z2<|yq U U<|zf<|aW<|aa U<|aC U U<|am U<|z2 ?_
    exact ⟨(p+(Utf8.decode s p).2,n+1),aL,aL,aE,⟨by rw[if_pos (by simp_all[dZ]<;>omega)] at hstep;exact hstep,by dsimp only;omega,by dsimp only;omega⟩,by dsimp only;omega⟩
  ·refine z6 U U c1<|z6 U U c1<|aw U c1 U<|ad U<|z2<|zb<|ae<|aq U<|aJ U<|aq U<|z7 U U U<|aa U<|z7 U U U<|ao U U<|z7 U U U<|aq U<|zt (s:=23) U (fun c10=>?_) (fun c10=>?_)
   ·refine z6 U U c10<|z6 U U c10<|z6 U U c10<|zk U U<|zk U U<|z6 U U c10<|z6 U U c10<|z6 U U c10<|zk U U<|zk U U<|z6 U U c10<|z6 U U c10<|zk U U<|zk U U<|z6 U U c10<|z7 U U U<|au U c10 U<|au U U U<|z2<|yr U U<|ae<|ad U<|z2<|zg<|zm (x:=.bool _) U ?_
    rw[if_neg (by simp_all[dZ]<;>omega)] at hstep;exact jb hstep
   ·refine z7 U U c10<|aa U<|z7 U U c10<|z8 (q9 U U)<|z7 U U c10<|aq U<|zt (s:=26) U (fun c11=>?_) (fun c11=>?_)
    ·refine z7 U U c11<|aa U<|z7 U U c11<|z8 (Gv.leq U U)<|z7 U U c10<|au U c11 U<|z7 U U c10<|aJ U<|z7 U U c10<|aq U<|zt (s:=31) U (fun c12=>?_) (fun c12=>?_)
     ·refine z7 U U c12<|aa U<|z7 U U c12<|aO U U<|z7 U U c10<|au U c12 U<|z7 U U c10<|aq U<|zt (s:=35) U (fun c13=>?_) (fun c13=>?_)
      ·refine z7 U U c13<|aa U<|z7 U U c13<|aO U U<|z7 U U c10<|au U c13 U<|z7 U U U<|aw U c10 U<|au U U U<|z2<|zw U (fun c14=>?_) (fun c14=>?_)
       ·refine ae<|ad U<|z2<|zg<|zm (x:=.bool _) U ?_
        rw[if_neg (by simp_all[dZ]<;>omega)] at hstep;exact jb hstep
       ·refine zf<|aW<|aa U<|aC U U<|am U<|z2 ?_
        exact ⟨(p+(Utf8.decode s p).2,n+1),aL,aL,aE,⟨by rw[if_pos (by simp_all[dZ]<;>omega)] at hstep;exact hstep,by dsimp only;omega,by dsimp only;omega⟩,by dsimp only;omega⟩
      ·refine z6 U U c13<|z6 U U c13<|z7 U U c10<|aw U c13 U<|z7 U U U<|aw U c10 U<|au U U U<|z2<|yq U U<|zf<|aW<|aa U<|aC U U<|am U<|z2 ?_
       exact ⟨(p+(Utf8.decode s p).2,n+1),aL,aL,aE,⟨by rw[if_pos (by simp_all[dZ]<;>omega)] at hstep;exact hstep,by dsimp only;omega,by dsimp only;omega⟩,by dsimp only;omega⟩
     ·refine z6 U U c12<|z6 U U c12<|z7 U U c10<|aw U c12 U<|z7 U U c10<|aq U<|z6 U U U<|z6 U U U<|z7 U U c10<|aw U U U<|z7 U U U<|aw U c10 U<|au U U U<|z2<|yq U U<|zf<|aW<|aa U<|aC U U<|am U<|z2 ?_
      exact ⟨(p+(Utf8.decode s p).2,n+1),aL,aL,aE,⟨by rw[if_pos (by simp_all[dZ]<;>omega)] at hstep;exact hstep,by dsimp only;omega,by dsimp only;omega⟩,by dsimp only;omega⟩
    ·refine z6 U U c11<|z6 U U c11<|z7 U U c10<|aw U c11 U<|z7 U U c10<|aJ U<|z7 U U c10<|aq U<|z7 U U U<|aa U<|z7 U U U<|aO U U<|z7 U U c10<|au U U U<|z7 U U c10<|aq U<|zt (s:=35) U (fun c15=>?_) (fun c15=>?_)
     ·refine z7 U U c15<|aa U<|z7 U U c15<|aO U U<|z7 U U c10<|au U c15 U<|z7 U U U<|aw U c10 U<|au U U U<|z2<|zw U (fun c16=>?_) (fun c16=>?_)
      ·refine ae<|ad U<|z2<|zg<|zm (x:=.bool _) U ?_
       rw[if_neg (by simp_all[dZ]<;>omega)] at hstep;exact jb hstep
      ·refine zf<|aW<|aa U<|aC U U<|am U<|z2 ?_
       exact ⟨(p+(Utf8.decode s p).2,n+1),aL,aL,aE,⟨by rw[if_pos (by simp_all[dZ]<;>omega)] at hstep;exact hstep,by dsimp only;omega,by dsimp only;omega⟩,by dsimp only;omega⟩
     ·refine z6 U U c15<|z6 U U c15<|z7 U U c10<|aw U c15 U<|z7 U U U<|aw U c10 U<|au U U U<|z2<|yq U U<|zf<|aW<|aa U<|aC U U<|am U<|z2 ?_
      exact ⟨(p+(Utf8.decode s p).2,n+1),aL,aL,aE,⟨by rw[if_pos (by simp_all[dZ]<;>omega)] at hstep;exact hstep,by dsimp only;omega,by dsimp only;omega⟩,by dsimp only;omega⟩
 ·rw[fk,dif_neg hlt] at hp
  refine ae<|ay.nextTover U .head hlt<|z8 (wz U U)<|z2<|zb<|yq U U<|y4<|ae<|aa U<|z8 (q9 U U)<|aq U<|zt (s:=45) U (fun c17=>?_) (fun c17=>?_)
  ·refine z7 U U c17<|aa U<|z7 U U c17<|z8 (Gv.leq U U)<|au U c17 U<|ad U<|z2<|zg<|zm (x:=.bool _) U ?_
   rw[←hp];exact jb (by simp_all<;>(intros;omega))
  ·refine z6 U U c17<|z6 U U c17<|aw U c17 U<|ad U<|z2<|zg<|zm (x:=.bool _) U ?_
   rw[←hp];exact jb (by simp_all<;>(intros;omega))
theorem kn:aP prog E 93 [] (.fro 3 (gS.map tx)):=by
 refine zp func93 U (by decide) U<|ae<|cE U<|z2<|ae<|z8 (zz (cps:=[(0,[_]),(1,[_]),(2,[_])]) (rs:=[_,_,_]) et U U U)<|z8 (zz (cps:=[(0,[_]),(1,[_]),(2,[_])]) (rs:=[_,_,_]) et U U U)<|z8 (zz (cps:=[(0,[_]),(1,[_]),(2,[_])]) (rs:=[_,_,_]) et U U U)<|z8 (zz (cps:=[(0,[_]),(1,[_]),(2,[_])]) (rs:=[_,_,_]) et U U U)<|z8 (zz (cps:=[(0,[_]),(1,[_]),(2,[_])]) (rs:=[_,_,_]) et U U U)<|z8 (zz (cps:=[(0,[_]),(1,[_]),(2,[_])]) (rs:=[_,_,_]) et U U U)<|z8 (zz (cps:=[(0,[_]),(1,[_]),(2,[_])]) (rs:=[_,_,_]) et U U U)<|z8 (zz (cps:=[(0,[_]),(1,[_]),(2,[_])]) (rs:=[_,_,_]) et U U U)<|z8 (zz (cps:=[(0,[_]),(1,[_]),(2,[_])]) (rs:=[_,_,_]) et U U U)<|z8 (zz (cps:=[(0,[_]),(1,[_]),(2,[_])]) (rs:=[_,_,_]) et U U U)<|z8 (zz (cps:=[(0,[_]),(1,[_]),(2,[_])]) (rs:=[_,_,_]) et U U U)<|z8 (zz (cps:=[(0,[_]),(1,[_]),(2,[_])]) (rs:=[_,_,_]) et U U U)<|z8 (zz (cps:=[(0,[_]),(1,[_]),(2,[_])]) (rs:=[_,_,_]) et U U U)<|z8 (zz (cps:=[(0,[_]),(1,[_]),(2,[_])]) (rs:=[_,_,_]) et U U U)<|z8 (zz (cps:=[(0,[_]),(1,[_]),(2,[_])]) (rs:=[_,_,_]) et U U U)<|z8 (zz (cps:=[(0,[_]),(1,[_]),(2,[_])]) (rs:=[_,_,_]) et U U U)<|z8 (zz (cps:=[(0,[_]),(1,[_]),(2,[_])]) (rs:=[_,_,_]) et U U U)<|z8 (zz (cps:=[(0,[_]),(1,[_]),(2,[_])]) (rs:=[_,_,_]) et U U U)<|z8 (zz (cps:=[(0,[_]),(1,[_]),(2,[_])]) (rs:=[_,_,_]) et U U U)<|z8 (zz (cps:=[(0,[_]),(1,[_]),(2,[_])]) (rs:=[_,_,_]) et U U U)<|z8 (zz (cps:=[(0,[_]),(1,[_]),(2,[_])]) (rs:=[_,_,_]) et U U U)<|z8 (zz (cps:=[(0,[_]),(1,[_]),(2,[_])]) (rs:=[_,_,_]) et U U U)<|z8 (zz (cps:=[(0,[_]),(1,[_]),(2,[_])]) (rs:=[_,_,_]) et U U U)<|z8 (zz (cps:=[(0,[_]),(1,[_]),(2,[_])]) (rs:=[_,_,_]) et U U U)<|z8 (zz (cps:=[(0,[_]),(1,[_]),(2,[_])]) (rs:=[_,_,_]) et U U U)<|z8 (zz (cps:=[(0,[_]),(1,[_]),(2,[_])]) (rs:=[_,_,_]) et U U U)<|z8 (zz (cps:=[(0,[_]),(1,[_]),(2,[_])]) (rs:=[_,_,_]) et U U U)<|zx (rows:=[[_,_,_],[_,_,_],[_,_,_],[_,_,_],[_,_,_],[_,_,_],[_,_,_],[_,_,_],[_,_,_],[_,_,_],[_,_,_],[_,_,_],[_,_,_],[_,_,_],[_,_,_],[_,_,_],[_,_,_],[_,_,_],[_,_,_],[_,_,_],[_,_,_],[_,_,_],[_,_,_],[_,_,_],[_,_,_],[_,_,_],[_,_,_]]) Fa U U U U U<|z8 (oA U)<|z2<|zg<|zm (x:=.fro _ _) U ?_
 rfl
theorem gQ (k n:Int):aP prog E 176 [.int .i64 k,.int .i64 n] (.bool (decide (0≤k)&&decide (k<n))):=by
 refine zp func176 U (by decide) U<|ae<|ad U<|z2<|ae<|aa U<|z8 (q9 U U)<|aq U<|zt (s:=7) U (fun c18=>?_) (fun c18=>?_)
 ·refine z7 U U c18<|aa U<|z7 U U c18<|aa U<|z7 U U c18<|ap U U<|au U c18 U<|ad U<|z2<|zg<|zm (x:=.bool _) U ?_
  exact jb (by simp_all<;>omega)
 ·refine z6 U U c18<|z6 U U c18<|z6 U U c18<|aw U c18 U<|ad U<|z2<|zg<|zm (x:=.bool _) U ?_
  exact jb (by simp_all<;>omega)
def oI (l:List UInt8):ByteArray:=⟨l.toArray⟩
theorem xn (a b:List UInt8):oI a++oI b=oI (a++b):=by
 apply ByteArray.ext
 simp[oI,ByteArray.data_append]
theorem oJ (a:List UInt8):(oI a).size=a.length:=by show (List.toArray a).size=_;simp
def I6 (y:Nat) (acc:List UInt8):List UInt8:=if y=0 then acc else decDigits y++acc
theorem xo {y:Nat} (acc:List UInt8) (h:0<y):I6 (y / 10) (UInt8.ofNat (48+y % 10)::acc)=I6 y acc:=by
 unfold I6
 rw[if_neg (by omega:¬y=0)]
 split
 ·rename_i h0
  rw[decDigits,dif_pos (by omega),Nat.mod_eq_of_lt (by omega)];rfl
 ·rename_i h0
  rw[decDigits.eq_1 y,dif_neg (by omega)];simp
theorem Db (x:Nat):I6 (x / 10) [UInt8.ofNat (48+x % 10)]=decDigits x:=by
 by_cases h:x=0
 ·subst h;rw[decDigits,dif_pos (by omega)];rfl
 ·rw[xo [] (by omega)];unfold I6;rw[if_neg h];simp
theorem xp (x:Nat) (h:x<18446744073709551616):(decDigits x).length≤40:=by
 have:∀(k y:Nat),y<10 ^ (k+1)→(decDigits y).length≤k+1:=by
  intro k
  induction k with
  |zero=>intro y hy;rw[decDigits,dif_pos (by simpa using hy)];simp
  |succ k ih=>
   intro y hy
   rw[decDigits]
   split
   ·simp
   ·rw[w5]
    have:=ih (y / 10) (by rw[Nat.pow_succ] at hy;omega)
    simp;omega
 exact this 39 x (by omega)
end Go.Proofs.YtbbonnfjealmpaaGreatDoor
