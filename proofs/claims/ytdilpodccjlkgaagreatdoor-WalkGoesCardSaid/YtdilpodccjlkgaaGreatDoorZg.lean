/- The document's own functions: names, the table, digits, what is the same, what has a text. No conditions but bounds. -/
import Derived.Test.YtdilpodccjlkgaaGreatDoorZf
import Derived.Test.YtdilpodccjlkgaaGreatDoorZb
set_option linter.unusedVariables false
set_option linter.unusedSimpArgs false
set_option linter.unusedSectionVars false
namespace Go.Proofs.YtdilpodccjlkgaaGreatDoor
open Go.Proofs.Tryz
open Go.Proofs Go.Lib Go.Shelf Go.RowKit
theorem d4:dB prog 154 #[(0,1),(1,1),(2,1)] [.str ⟨#[]⟩,.str ⟨#[]⟩,.str ⟨#[]⟩]:=⟨_,_,Y3,Xi,fun w=>by kernel_rfl,rfl⟩
theorem CP:da prog 155 154 27 3 [.str ⟨#[]⟩,.str ⟨#[]⟩,.str ⟨#[]⟩,.str ⟨#[]⟩,.str ⟨#[]⟩,.str ⟨#[]⟩,.str ⟨#[]⟩,.str ⟨#[]⟩,.str ⟨#[]⟩,.str ⟨#[]⟩,.str ⟨#[]⟩,.str ⟨#[]⟩,.str ⟨#[]⟩,.str ⟨#[]⟩,.str ⟨#[]⟩,.str ⟨#[]⟩,.str ⟨#[]⟩,.str ⟨#[]⟩,.str ⟨#[]⟩,.str ⟨#[]⟩,.str ⟨#[]⟩,.str ⟨#[]⟩,.str ⟨#[]⟩,.str ⟨#[]⟩,.str ⟨#[]⟩,.str ⟨#[]⟩,.str ⟨#[]⟩,.str ⟨#[]⟩,.str ⟨#[]⟩,.str ⟨#[]⟩,.str ⟨#[]⟩,.str ⟨#[]⟩,.str ⟨#[]⟩,.str ⟨#[]⟩,.str ⟨#[]⟩,.str ⟨#[]⟩,.str ⟨#[]⟩,.str ⟨#[]⟩,.str ⟨#[]⟩,.str ⟨#[]⟩,.str ⟨#[]⟩,.str ⟨#[]⟩,.str ⟨#[]⟩,.str ⟨#[]⟩,.str ⟨#[]⟩,.str ⟨#[]⟩,.str ⟨#[]⟩,.str ⟨#[]⟩,.str ⟨#[]⟩,.str ⟨#[]⟩,.str ⟨#[]⟩,.str ⟨#[]⟩,.str ⟨#[]⟩,.str ⟨#[]⟩,.str ⟨#[]⟩,.str ⟨#[]⟩,.str ⟨#[]⟩,.str ⟨#[]⟩,.str ⟨#[]⟩,.str ⟨#[]⟩,.str ⟨#[]⟩,.str ⟨#[]⟩,.str ⟨#[]⟩,.str ⟨#[]⟩,.str ⟨#[]⟩,.str ⟨#[]⟩,.str ⟨#[]⟩,.str ⟨#[]⟩,.str ⟨#[]⟩,.str ⟨#[]⟩,.str ⟨#[]⟩,.str ⟨#[]⟩,.str ⟨#[]⟩,.str ⟨#[]⟩,.str ⟨#[]⟩,.str ⟨#[]⟩,.str ⟨#[]⟩,.str ⟨#[]⟩,.str ⟨#[]⟩,.str ⟨#[]⟩,.str ⟨#[]⟩]:=⟨_,Xd,Ys,Xi,by decide,by decide,by kernel_rfl⟩
set_option maxRecDepth 20000
variable {E:World}
def bz (E:World):Prop:=Lib.TabIs prog E "unicode.properties" .u8 Lib.propertiesTab∧RVar 1 letterT E
theorem nN (c:Int) (h1:-2147483648≤c) (h2:c≤2147483647) (hL:bz E):aM prog E 191 [.int .i32 c] (.bool (isLetterU c)):=
 aM.ofBelow (vs:=[.int .i32 c]) (r:=.bool (isLetterU c)) func191 rfl (by decide) rfl fun w hw=>Tryz.unicode_IsLetter_all c w h1 h2 (TabIs_below (g:=0) (by kernel_rfl) hL.1 hw) (RVar_below hL.2 hw)
theorem ep (s:ByteArray) (p:Nat):1≤(Utf8.decode s p).2∧(Utf8.decode s p).1≤2097151:=by
 have h256:∀k,(s.get! k).toNat<256:=fun k=>(s.get! k).toNat_lt
 unfold Utf8.decode
 dsimp only
 constructor
 ·repeat' split
  all_goals simp
 ·have h0:=h256 (p+0)
  have h1:=h256 (p+1)
  have h2:=h256 (p+2)
  have h3:=h256 (p+3)
  repeat' split
  all_goals (simp only[Utf8.runeError];omega)
def dM (c:Int) (n:Nat):Bool:=(isLetterU c&&!decide (c=65533))||(!decide ((n:Int)=0)&&((decide (48≤c)&&decide (c≤57))||decide (c=46)||decide (c=95)))
def eO (s:ByteArray) (p n:Nat):Bool:=
 if h:p<s.size then (if dM (Utf8.decode s p).1 n then eO s (p+(Utf8.decode s p).2) (n+1) else false) else decide ((1:Int)≤n)&&decide ((n:Int)≤16)
termination_by s.size - p
decreasing_by have:=(ep s p).1;omega
def mC (s:ByteArray):Bool:=eO s 0 0
theorem sq (s:ByteArray) (hs:s.size≤140737488355328) (hL:bz E):aM prog E 159 [.str s] (.bool (mC s)):=by
 refine zp func159 Z (by decide) Z<|ai<|ab Z<|z6<|ai<|ao Z<|z6<|zd<|ai<|za (yv (v:=.str _) Z)<|az.rangeT Zr Z<|fun i8=>z6<|zm<|y8 (γ:=Nat × Nat) [8] (fun g=>[(3,.int .i64 g.2)]) (fun g=>[(i8,.iter s g.1)]) (fun g=>eO s g.1 g.2=mC s∧g.2≤g.1∧g.2≤s.size) (fun g=>s.size - g.1) (0,0) aK aH (⟨Z,Nat.le_refl _,qw _⟩) ?_
 rintro ⟨p,n⟩ ⟨hp,hn,hn2⟩
 try dsimp only at *
 by_cases hlt:p<s.size
 ·obtain ⟨hd1,hd2⟩:=ep s p
  have hstep:=hp
  rw[eO,dif_pos hlt] at hstep
  refine ai<|az.nextT Z .head hlt<|za (jJ Z Z)<|z6<|zd<|yt Z Z<|zi<|zm<|ai<|za (iN Z Z)<|ao Z<|z6<|ai<|aa Z<|zh (nN _ (by omega) (by omega) hL) Z<|aj Z<|zq (s:=14) Z (fun c1=>?_) (fun c1=>?_)
  ·refine z8 Z Z c1<|aa Z<|z8 Z Z c1<|aO Z Z<|aw Z c1 Z<|ab Z<|z6<|zd<|ai<|aj Z<|aC Z<|aj Z<|zq (s:=20) Z (fun c2=>?_) (fun c2=>?_)
   ·refine z8 Z Z c2<|aa Z<|z8 Z Z c2<|ak Z Z<|z8 Z Z c2<|aj Z<|zq (s:=23) Z (fun c3=>?_) (fun c3=>?_)
    ·refine z7 Z Z c3<|z7 Z Z c3<|z7 Z Z c3<|zk Z Z<|zk Z Z<|z7 Z Z c3<|z7 Z Z c3<|z7 Z Z c3<|zk Z Z<|zk Z Z<|z7 Z Z c3<|z7 Z Z c3<|zk Z Z<|zk Z Z<|z7 Z Z c3<|z8 Z Z c2<|aw Z c3 Z<|aw Z c2 Z<|z6<|yt Z Z<|ai<|ab Z<|z6<|zg<|zn (x:=.bool _) Z ?_
     rw[if_neg (by simp_all[dM]<;>omega)] at hstep;exact jb hstep
    ·refine z8 Z Z c3<|aa Z<|z8 Z Z c3<|za (q5 Z Z)<|z8 Z Z c3<|aj Z<|zq (s:=26) Z (fun c4=>?_) (fun c4=>?_)
     ·refine z8 Z Z c4<|aa Z<|z8 Z Z c4<|za (Gv.leq Z Z)<|z8 Z Z c3<|aw Z c4 Z<|z8 Z Z c3<|aC Z<|z8 Z Z c3<|aj Z<|zq (s:=31) Z (fun c5=>?_) (fun c5=>?_)
      ·refine z8 Z Z c5<|aa Z<|z8 Z Z c5<|aO Z Z<|z8 Z Z c3<|aw Z c5 Z<|z8 Z Z c3<|aj Z<|zq (s:=35) Z (fun c6=>?_) (fun c6=>?_)
       ·refine z8 Z Z c6<|aa Z<|z8 Z Z c6<|aO Z Z<|z8 Z Z c3<|aw Z c6 Z<|z8 Z Z c2<|ax Z c3 Z<|aw Z c2 Z<|z6<|zy Z (fun c7=>?_) (fun c7=>?_)
        ·refine ai<|ab Z<|z6<|zg<|zn (x:=.bool _) Z ?_
         rw[if_neg (by simp_all[dM]<;>omega)] at hstep;exact jb hstep
        ·refine zi<|aW<|aa Z<|aE Z Z<|ao Z<|z6 ?_
         exact ⟨(p+(Utf8.decode s p).2,n+1),aK,aK,aH,⟨by rw[if_pos (by simp_all[dM]<;>omega)] at hstep;exact hstep,by dsimp only;omega,by dsimp only;omega⟩,by dsimp only;omega⟩
       ·refine z7 Z Z c6<|z7 Z Z c6<|z8 Z Z c3<|ax Z c6 Z<|z8 Z Z c2<|ax Z c3 Z<|aw Z c2 Z<|z6<|yg Z Z<|zi<|aW<|aa Z<|aE Z Z<|ao Z<|z6 ?_
        exact ⟨(p+(Utf8.decode s p).2,n+1),aK,aK,aH,⟨by rw[if_pos (by simp_all[dM]<;>omega)] at hstep;exact hstep,by dsimp only;omega,by dsimp only;omega⟩,by dsimp only;omega⟩
      ·refine z7 Z Z c5<|z7 Z Z c5<|z8 Z Z c3<|ax Z c5 Z<|z8 Z Z c3<|aj Z<|z7 Z Z Z<|z7 Z Z Z<|z8 Z Z c3<|ax Z Z Z<|z8 Z Z c2<|ax Z c3 Z<|aw Z c2 Z<|z6<|yg Z Z<|zi<|aW<|aa Z<|aE Z Z<|ao Z<|z6 ?_
       exact ⟨(p+(Utf8.decode s p).2,n+1),aK,aK,aH,⟨by rw[if_pos (by simp_all[dM]<;>omega)] at hstep;exact hstep,by dsimp only;omega,by dsimp only;omega⟩,by dsimp only;omega⟩
     ·refine z7 Z Z c4<|z7 Z Z c4<|z8 Z Z c3<|ax Z c4 Z<|z8 Z Z c3<|aC Z<|z8 Z Z c3<|aj Z<|z8 Z Z Z<|aa Z<|z8 Z Z Z<|aO Z Z<|z8 Z Z c3<|aw Z Z Z<|z8 Z Z c3<|aj Z<|zq (s:=35) Z (fun c8=>?_) (fun c8=>?_)
      ·refine z8 Z Z c8<|aa Z<|z8 Z Z c8<|aO Z Z<|z8 Z Z c3<|aw Z c8 Z<|z8 Z Z c2<|ax Z c3 Z<|aw Z c2 Z<|z6<|zy Z (fun c9=>?_) (fun c9=>?_)
       ·refine ai<|ab Z<|z6<|zg<|zn (x:=.bool _) Z ?_
        rw[if_neg (by simp_all[dM]<;>omega)] at hstep;exact jb hstep
       ·refine zi<|aW<|aa Z<|aE Z Z<|ao Z<|z6 ?_
        exact ⟨(p+(Utf8.decode s p).2,n+1),aK,aK,aH,⟨by rw[if_pos (by simp_all[dM]<;>omega)] at hstep;exact hstep,by dsimp only;omega,by dsimp only;omega⟩,by dsimp only;omega⟩
      ·refine z7 Z Z c8<|z7 Z Z c8<|z8 Z Z c3<|ax Z c8 Z<|z8 Z Z c2<|ax Z c3 Z<|aw Z c2 Z<|z6<|yg Z Z<|zi<|aW<|aa Z<|aE Z Z<|ao Z<|z6 ?_
       exact ⟨(p+(Utf8.decode s p).2,n+1),aK,aK,aH,⟨by rw[if_pos (by simp_all[dM]<;>omega)] at hstep;exact hstep,by dsimp only;omega,by dsimp only;omega⟩,by dsimp only;omega⟩
   ·refine z7 Z Z c2<|z7 Z Z c2<|z7 Z Z c2<|zk Z Z<|zk Z Z<|zk Z Z<|zk Z Z<|zk Z Z<|zk Z Z<|zk Z Z<|zk Z Z<|zk Z Z<|zk Z Z<|zk Z Z<|zk Z Z<|zk Z Z<|zk Z Z<|zk Z Z<|z7 Z Z c2<|ax Z c2 Z<|z6<|yg Z Z<|zi<|aW<|aa Z<|aE Z Z<|ao Z<|z6 ?_
    exact ⟨(p+(Utf8.decode s p).2,n+1),aK,aK,aH,⟨by rw[if_pos (by simp_all[dM]<;>omega)] at hstep;exact hstep,by dsimp only;omega,by dsimp only;omega⟩,by dsimp only;omega⟩
  ·refine z7 Z Z c1<|z7 Z Z c1<|ax Z c1 Z<|ab Z<|z6<|zd<|ai<|aj Z<|aC Z<|aj Z<|z8 Z Z Z<|aa Z<|z8 Z Z Z<|ak Z Z<|z8 Z Z Z<|aj Z<|zq (s:=23) Z (fun c10=>?_) (fun c10=>?_)
   ·refine z7 Z Z c10<|z7 Z Z c10<|z7 Z Z c10<|zk Z Z<|zk Z Z<|z7 Z Z c10<|z7 Z Z c10<|z7 Z Z c10<|zk Z Z<|zk Z Z<|z7 Z Z c10<|z7 Z Z c10<|zk Z Z<|zk Z Z<|z7 Z Z c10<|z8 Z Z Z<|aw Z c10 Z<|aw Z Z Z<|z6<|yt Z Z<|ai<|ab Z<|z6<|zg<|zn (x:=.bool _) Z ?_
    rw[if_neg (by simp_all[dM]<;>omega)] at hstep;exact jb hstep
   ·refine z8 Z Z c10<|aa Z<|z8 Z Z c10<|za (q5 Z Z)<|z8 Z Z c10<|aj Z<|zq (s:=26) Z (fun c11=>?_) (fun c11=>?_)
    ·refine z8 Z Z c11<|aa Z<|z8 Z Z c11<|za (Gv.leq Z Z)<|z8 Z Z c10<|aw Z c11 Z<|z8 Z Z c10<|aC Z<|z8 Z Z c10<|aj Z<|zq (s:=31) Z (fun c12=>?_) (fun c12=>?_)
     ·refine z8 Z Z c12<|aa Z<|z8 Z Z c12<|aO Z Z<|z8 Z Z c10<|aw Z c12 Z<|z8 Z Z c10<|aj Z<|zq (s:=35) Z (fun c13=>?_) (fun c13=>?_)
      ·refine z8 Z Z c13<|aa Z<|z8 Z Z c13<|aO Z Z<|z8 Z Z c10<|aw Z c13 Z<|z8 Z Z Z<|ax Z c10 Z<|aw Z Z Z<|z6<|zy Z (fun c14=>?_) (fun c14=>?_)
       ·refine ai<|ab Z<|z6<|zg<|zn (x:=.bool _) Z ?_
        rw[if_neg (by simp_all[dM]<;>omega)] at hstep;exact jb hstep
       ·refine zi<|aW<|aa Z<|aE Z Z<|ao Z<|z6 ?_
        exact ⟨(p+(Utf8.decode s p).2,n+1),aK,aK,aH,⟨by rw[if_pos (by simp_all[dM]<;>omega)] at hstep;exact hstep,by dsimp only;omega,by dsimp only;omega⟩,by dsimp only;omega⟩
      ·refine z7 Z Z c13<|z7 Z Z c13<|z8 Z Z c10<|ax Z c13 Z<|z8 Z Z Z<|ax Z c10 Z<|aw Z Z Z<|z6<|yg Z Z<|zi<|aW<|aa Z<|aE Z Z<|ao Z<|z6 ?_
       exact ⟨(p+(Utf8.decode s p).2,n+1),aK,aK,aH,⟨by rw[if_pos (by simp_all[dM]<;>omega)] at hstep;exact hstep,by dsimp only;omega,by dsimp only;omega⟩,by dsimp only;omega⟩
     ·refine z7 Z Z c12<|z7 Z Z c12<|z8 Z Z c10<|ax Z c12 Z<|z8 Z Z c10<|aj Z<|z7 Z Z Z<|z7 Z Z Z<|z8 Z Z c10<|ax Z Z Z<|z8 Z Z Z<|ax Z c10 Z<|aw Z Z Z<|z6<|yg Z Z<|zi<|aW<|aa Z<|aE Z Z<|ao Z<|z6 ?_
      exact ⟨(p+(Utf8.decode s p).2,n+1),aK,aK,aH,⟨by rw[if_pos (by simp_all[dM]<;>omega)] at hstep;exact hstep,by dsimp only;omega,by dsimp only;omega⟩,by dsimp only;omega⟩
    ·refine z7 Z Z c11<|z7 Z Z c11<|z8 Z Z c10<|ax Z c11 Z<|z8 Z Z c10<|aC Z<|z8 Z Z c10<|aj Z<|z8 Z Z Z<|aa Z<|z8 Z Z Z<|aO Z Z<|z8 Z Z c10<|aw Z Z Z<|z8 Z Z c10<|aj Z<|zq (s:=35) Z (fun c15=>?_) (fun c15=>?_)
     ·refine z8 Z Z c15<|aa Z<|z8 Z Z c15<|aO Z Z<|z8 Z Z c10<|aw Z c15 Z<|z8 Z Z Z<|ax Z c10 Z<|aw Z Z Z<|z6<|zy Z (fun c16=>?_) (fun c16=>?_)
      ·refine ai<|ab Z<|z6<|zg<|zn (x:=.bool _) Z ?_
       rw[if_neg (by simp_all[dM]<;>omega)] at hstep;exact jb hstep
      ·refine zi<|aW<|aa Z<|aE Z Z<|ao Z<|z6 ?_
       exact ⟨(p+(Utf8.decode s p).2,n+1),aK,aK,aH,⟨by rw[if_pos (by simp_all[dM]<;>omega)] at hstep;exact hstep,by dsimp only;omega,by dsimp only;omega⟩,by dsimp only;omega⟩
     ·refine z7 Z Z c15<|z7 Z Z c15<|z8 Z Z c10<|ax Z c15 Z<|z8 Z Z Z<|ax Z c10 Z<|aw Z Z Z<|z6<|yg Z Z<|zi<|aW<|aa Z<|aE Z Z<|ao Z<|z6 ?_
      exact ⟨(p+(Utf8.decode s p).2,n+1),aK,aK,aH,⟨by rw[if_pos (by simp_all[dM]<;>omega)] at hstep;exact hstep,by dsimp only;omega,by dsimp only;omega⟩,by dsimp only;omega⟩
 ·rw[eO,dif_neg hlt] at hp
  refine ai<|az.nextTover Z .head hlt<|za (jJ Z Z)<|z6<|zd<|yg Z Z<|y6<|ai<|aa Z<|za (q5 Z Z)<|aj Z<|zq (s:=45) Z (fun c17=>?_) (fun c17=>?_)
  ·refine z8 Z Z c17<|aa Z<|z8 Z Z c17<|za (Gv.leq Z Z)<|aw Z c17 Z<|ab Z<|z6<|zg<|zn (x:=.bool _) Z ?_
   rw[←hp];exact jb (by simp_all<;>(intros;omega))
  ·refine z7 Z Z c17<|z7 Z Z c17<|ax Z c17 Z<|ab Z<|z6<|zg<|zn (x:=.bool _) Z ?_
   rw[←hp];exact jb (by simp_all<;>(intros;omega))
theorem iR:aM prog E 87 [] (.fro 3 (gI.map rD)):=by
 refine zp func87 Z (by decide) Z<|ai<|za (jI Z)<|z6<|ai<|za (y3 (cps:=[(0,[_]),(1,[_]),(2,[_])]) (rs:=[_,_,_]) d4 Z Z Z)<|za (y3 (cps:=[(0,[_]),(1,[_]),(2,[_])]) (rs:=[_,_,_]) d4 Z Z Z)<|za (y3 (cps:=[(0,[_]),(1,[_]),(2,[_])]) (rs:=[_,_,_]) d4 Z Z Z)<|za (y3 (cps:=[(0,[_]),(1,[_]),(2,[_])]) (rs:=[_,_,_]) d4 Z Z Z)<|za (y3 (cps:=[(0,[_]),(1,[_]),(2,[_])]) (rs:=[_,_,_]) d4 Z Z Z)<|za (y3 (cps:=[(0,[_]),(1,[_]),(2,[_])]) (rs:=[_,_,_]) d4 Z Z Z)<|za (y3 (cps:=[(0,[_]),(1,[_]),(2,[_])]) (rs:=[_,_,_]) d4 Z Z Z)<|za (y3 (cps:=[(0,[_]),(1,[_]),(2,[_])]) (rs:=[_,_,_]) d4 Z Z Z)<|za (y3 (cps:=[(0,[_]),(1,[_]),(2,[_])]) (rs:=[_,_,_]) d4 Z Z Z)<|za (y3 (cps:=[(0,[_]),(1,[_]),(2,[_])]) (rs:=[_,_,_]) d4 Z Z Z)<|za (y3 (cps:=[(0,[_]),(1,[_]),(2,[_])]) (rs:=[_,_,_]) d4 Z Z Z)<|za (y3 (cps:=[(0,[_]),(1,[_]),(2,[_])]) (rs:=[_,_,_]) d4 Z Z Z)<|za (y3 (cps:=[(0,[_]),(1,[_]),(2,[_])]) (rs:=[_,_,_]) d4 Z Z Z)<|za (y3 (cps:=[(0,[_]),(1,[_]),(2,[_])]) (rs:=[_,_,_]) d4 Z Z Z)<|za (y3 (cps:=[(0,[_]),(1,[_]),(2,[_])]) (rs:=[_,_,_]) d4 Z Z Z)<|za (y3 (cps:=[(0,[_]),(1,[_]),(2,[_])]) (rs:=[_,_,_]) d4 Z Z Z)<|za (y3 (cps:=[(0,[_]),(1,[_]),(2,[_])]) (rs:=[_,_,_]) d4 Z Z Z)<|za (y3 (cps:=[(0,[_]),(1,[_]),(2,[_])]) (rs:=[_,_,_]) d4 Z Z Z)<|za (y3 (cps:=[(0,[_]),(1,[_]),(2,[_])]) (rs:=[_,_,_]) d4 Z Z Z)<|za (y3 (cps:=[(0,[_]),(1,[_]),(2,[_])]) (rs:=[_,_,_]) d4 Z Z Z)<|za (y3 (cps:=[(0,[_]),(1,[_]),(2,[_])]) (rs:=[_,_,_]) d4 Z Z Z)<|za (y3 (cps:=[(0,[_]),(1,[_]),(2,[_])]) (rs:=[_,_,_]) d4 Z Z Z)<|za (y3 (cps:=[(0,[_]),(1,[_]),(2,[_])]) (rs:=[_,_,_]) d4 Z Z Z)<|za (y3 (cps:=[(0,[_]),(1,[_]),(2,[_])]) (rs:=[_,_,_]) d4 Z Z Z)<|za (y3 (cps:=[(0,[_]),(1,[_]),(2,[_])]) (rs:=[_,_,_]) d4 Z Z Z)<|za (y3 (cps:=[(0,[_]),(1,[_]),(2,[_])]) (rs:=[_,_,_]) d4 Z Z Z)<|za (y3 (cps:=[(0,[_]),(1,[_]),(2,[_])]) (rs:=[_,_,_]) d4 Z Z Z)<|y4 (rows:=[[_,_,_],[_,_,_],[_,_,_],[_,_,_],[_,_,_],[_,_,_],[_,_,_],[_,_,_],[_,_,_],[_,_,_],[_,_,_],[_,_,_],[_,_,_],[_,_,_],[_,_,_],[_,_,_],[_,_,_],[_,_,_],[_,_,_],[_,_,_],[_,_,_],[_,_,_],[_,_,_],[_,_,_],[_,_,_],[_,_,_],[_,_,_]]) CP Z Z Z Z Z<|za (nI Z)<|z6<|zg<|zn (x:=.fro _ _) Z ?_
 rfl
theorem gl (k n:Int):aM prog E 160 [.int .i64 k,.int .i64 n] (.bool (decide (0≤k)&&decide (k<n))):=by
 refine zp func160 Z (by decide) Z<|ai<|ab Z<|z6<|ai<|aa Z<|za (q5 Z Z)<|aj Z<|zq (s:=7) Z (fun c18=>?_) (fun c18=>?_)
 ·refine z8 Z Z c18<|aa Z<|z8 Z Z c18<|aa Z<|z8 Z Z c18<|ay Z Z<|aw Z c18 Z<|ab Z<|z6<|zg<|zn (x:=.bool _) Z ?_
  exact jb (by simp_all<;>omega)
 ·refine z7 Z Z c18<|z7 Z Z c18<|z7 Z Z c18<|ax Z c18 Z<|ab Z<|z6<|zg<|zn (x:=.bool _) Z ?_
  exact jb (by simp_all<;>omega)
def HD (l:List UInt8):ByteArray:=⟨l.toArray⟩
end Go.Proofs.YtdilpodccjlkgaaGreatDoor
