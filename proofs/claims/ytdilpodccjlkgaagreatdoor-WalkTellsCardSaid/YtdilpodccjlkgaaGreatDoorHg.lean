/- The document's own functions: names, the table, digits, what is the same, what has a text. No conditions but bounds. -/
import Derived.Test.YtdilpodccjlkgaaGreatDoorHf
import Derived.Test.YtdilpodccjlkgaaGreatDoorHb
set_option linter.unusedVariables false
set_option linter.unusedSimpArgs false
set_option linter.unusedSectionVars false
namespace Go.Proofs.YtdilpodccjlkgaaGreatDoor
open Go.Proofs.Tryz
open Go.Proofs Go.Lib Go.Shelf Go.RowKit
theorem dW:cX prog 154 #[(0,1),(1,1),(2,1)] [.str ⟨#[]⟩,.str ⟨#[]⟩,.str ⟨#[]⟩]:=⟨_,_,Y2,X9,fun w=>by kernel_rfl,rfl⟩
theorem Bk:cU prog 155 154 27 3 [.str ⟨#[]⟩,.str ⟨#[]⟩,.str ⟨#[]⟩,.str ⟨#[]⟩,.str ⟨#[]⟩,.str ⟨#[]⟩,.str ⟨#[]⟩,.str ⟨#[]⟩,.str ⟨#[]⟩,.str ⟨#[]⟩,.str ⟨#[]⟩,.str ⟨#[]⟩,.str ⟨#[]⟩,.str ⟨#[]⟩,.str ⟨#[]⟩,.str ⟨#[]⟩,.str ⟨#[]⟩,.str ⟨#[]⟩,.str ⟨#[]⟩,.str ⟨#[]⟩,.str ⟨#[]⟩,.str ⟨#[]⟩,.str ⟨#[]⟩,.str ⟨#[]⟩,.str ⟨#[]⟩,.str ⟨#[]⟩,.str ⟨#[]⟩,.str ⟨#[]⟩,.str ⟨#[]⟩,.str ⟨#[]⟩,.str ⟨#[]⟩,.str ⟨#[]⟩,.str ⟨#[]⟩,.str ⟨#[]⟩,.str ⟨#[]⟩,.str ⟨#[]⟩,.str ⟨#[]⟩,.str ⟨#[]⟩,.str ⟨#[]⟩,.str ⟨#[]⟩,.str ⟨#[]⟩,.str ⟨#[]⟩,.str ⟨#[]⟩,.str ⟨#[]⟩,.str ⟨#[]⟩,.str ⟨#[]⟩,.str ⟨#[]⟩,.str ⟨#[]⟩,.str ⟨#[]⟩,.str ⟨#[]⟩,.str ⟨#[]⟩,.str ⟨#[]⟩,.str ⟨#[]⟩,.str ⟨#[]⟩,.str ⟨#[]⟩,.str ⟨#[]⟩,.str ⟨#[]⟩,.str ⟨#[]⟩,.str ⟨#[]⟩,.str ⟨#[]⟩,.str ⟨#[]⟩,.str ⟨#[]⟩,.str ⟨#[]⟩,.str ⟨#[]⟩,.str ⟨#[]⟩,.str ⟨#[]⟩,.str ⟨#[]⟩,.str ⟨#[]⟩,.str ⟨#[]⟩,.str ⟨#[]⟩,.str ⟨#[]⟩,.str ⟨#[]⟩,.str ⟨#[]⟩,.str ⟨#[]⟩,.str ⟨#[]⟩,.str ⟨#[]⟩,.str ⟨#[]⟩,.str ⟨#[]⟩,.str ⟨#[]⟩,.str ⟨#[]⟩,.str ⟨#[]⟩]:=⟨_,underlying155,Yj,X9,by decide,by decide,by kernel_rfl⟩
set_option maxRecDepth 20000
variable {E:World}
def bB (E:World):Prop:=Lib.TabIs prog E "unicode.properties" .u8 Lib.propertiesTab∧RVar 1 letterT E
theorem nb (c:Int) (h1:-2147483648≤c) (h2:c≤2147483647) (hL:bB E):aK prog E 191 [.int .i32 c] (.bool (isLetterU c)):=
 aK.ofBelow (vs:=[.int .i32 c]) (r:=.bool (isLetterU c)) func191 rfl (by decide) rfl fun w hw=>Tryz.unicode_IsLetter_all c w h1 h2 (TabIs_below (g:=0) (by kernel_rfl) hL.1 hw) (RVar_below hL.2 hw)
theorem eh (s:ByteArray) (p:Nat):1≤(Utf8.decode s p).2∧(Utf8.decode s p).1≤2097151:=by
 have h256:∀k,(s.get! k).toNat<256:=fun k=>(s.get! k).toNat_lt
 unfold Utf8.decode
 dsimp only
 constructor
 ·repeat' split
  all_goals simp
 ·have h0:=h256 (p+0)
  have h1:=h256 (p+1)
  have h2:=h256 (p+2)
  have h3:=h256 (p+3)
  repeat' split
  all_goals (simp only[Utf8.runeError];omega)
def dG (c:Int) (n:Nat):Bool:=(isLetterU c&&!decide (c=65533))||(!decide ((n:Int)=0)&&((decide (48≤c)&&decide (c≤57))||decide (c=46)||decide (c=95)))
def eC (s:ByteArray) (p n:Nat):Bool:=
 if h:p<s.size then (if dG (Utf8.decode s p).1 n then eC s (p+(Utf8.decode s p).2) (n+1) else false) else decide ((1:Int)≤n)&&decide ((n:Int)≤16)
termination_by s.size - p
decreasing_by have:=(eh s p).1;omega
def me (s:ByteArray):Bool:=eC s 0 0
theorem rr (s:ByteArray) (hs:s.size≤140737488355328) (hL:bB E):aK prog E 159 [.str s] (.bool (me s)):=by
 refine zq func159 U (by decide) U<|ae<|ab U<|z6<|ae<|ap U<|z6<|zd<|ae<|za (yt (v:=.str _) U)<|az.rangeT Zr U<|fun i8=>z6<|zj<|y8 (γ:=Nat × Nat) [8] (fun g=>[(3,.int .i64 g.2)]) (fun g=>[(i8,.iter s g.1)]) (fun g=>eC s g.1 g.2=me s∧g.2≤g.1∧g.2≤s.size) (fun g=>s.size - g.1) (0,0) aH aD (⟨U,Nat.le_refl _,qn _⟩) ?_
 rintro ⟨p,n⟩ ⟨hp,hn,hn2⟩
 try dsimp only at *
 by_cases hlt:p<s.size
 ·obtain ⟨hd1,hd2⟩:=eh s p
  have hstep:=hp
  rw[eC,dif_pos hlt] at hstep
  refine ae<|az.nextT U .head hlt<|bZ U U<|z6<|zd<|yl U U<|zg<|zj<|ae<|bJ U U<|ap U<|z6<|ae<|aa U<|ze (nb _ (by omega) (by omega) hL) U<|aj U<|zo (s:=14) U (fun c1=>?_) (fun c1=>?_)
  ·refine z8 U U c1<|aa U<|z8 U U c1<|aM U U<|aq U c1 U<|ab U<|z6<|zd<|ae<|aj U<|aB U<|aj U<|zo (s:=20) U (fun c2=>?_) (fun c2=>?_)
   ·refine z8 U U c2<|aa U<|z8 U U c2<|ai U U<|z8 U U c2<|aj U<|zo (s:=23) U (fun c3=>?_) (fun c3=>?_)
    ·refine z7 U U c3<|z7 U U c3<|z7 U U c3<|zk U U<|zk U U<|z7 U U c3<|z7 U U c3<|z7 U U c3<|zk U U<|zk U U<|z7 U U c3<|z7 U U c3<|zk U U<|zk U U<|z7 U U c3<|z8 U U c2<|aq U c3 U<|aq U c2 U<|z6<|yl U U<|ae<|ab U<|z6<|zi<|zm (x:=.bool _) U ?_
     rw[if_neg (by simp_all[dG]<;>omega)] at hstep;exact jb hstep
    ·refine z8 U U c3<|aa U<|z8 U U c3<|za (yy U U)<|z8 U U c3<|aj U<|zo (s:=26) U (fun c4=>?_) (fun c4=>?_)
     ·refine z8 U U c4<|aa U<|z8 U U c4<|za (qb U U)<|z8 U U c3<|aq U c4 U<|z8 U U c3<|aB U<|z8 U U c3<|aj U<|zo (s:=31) U (fun c5=>?_) (fun c5=>?_)
      ·refine z8 U U c5<|aa U<|z8 U U c5<|aM U U<|z8 U U c3<|aq U c5 U<|z8 U U c3<|aj U<|zo (s:=35) U (fun c6=>?_) (fun c6=>?_)
       ·refine z8 U U c6<|aa U<|z8 U U c6<|aM U U<|z8 U U c3<|aq U c6 U<|z8 U U c2<|au U c3 U<|aq U c2 U<|z6<|zy U (fun c7=>?_) (fun c7=>?_)
        ·refine ae<|ab U<|z6<|zi<|zm (x:=.bool _) U ?_
         rw[if_neg (by simp_all[dG]<;>omega)] at hstep;exact jb hstep
        ·refine zg<|aO<|aa U<|aC U U<|ap U<|z6 ?_
         exact ⟨(p+(Utf8.decode s p).2,n+1),aH,aH,aD,⟨by rw[if_pos (by simp_all[dG]<;>omega)] at hstep;exact hstep,by dsimp only;omega,by dsimp only;omega⟩,by dsimp only;omega⟩
       ·refine z7 U U c6<|z7 U U c6<|z8 U U c3<|au U c6 U<|z8 U U c2<|au U c3 U<|aq U c2 U<|z6<|yg U U<|zg<|aO<|aa U<|aC U U<|ap U<|z6 ?_
        exact ⟨(p+(Utf8.decode s p).2,n+1),aH,aH,aD,⟨by rw[if_pos (by simp_all[dG]<;>omega)] at hstep;exact hstep,by dsimp only;omega,by dsimp only;omega⟩,by dsimp only;omega⟩
      ·refine z7 U U c5<|z7 U U c5<|z8 U U c3<|au U c5 U<|z8 U U c3<|aj U<|z7 U U U<|z7 U U U<|z8 U U c3<|au U U U<|z8 U U c2<|au U c3 U<|aq U c2 U<|z6<|yg U U<|zg<|aO<|aa U<|aC U U<|ap U<|z6 ?_
       exact ⟨(p+(Utf8.decode s p).2,n+1),aH,aH,aD,⟨by rw[if_pos (by simp_all[dG]<;>omega)] at hstep;exact hstep,by dsimp only;omega,by dsimp only;omega⟩,by dsimp only;omega⟩
     ·refine z7 U U c4<|z7 U U c4<|z8 U U c3<|au U c4 U<|z8 U U c3<|aB U<|z8 U U c3<|aj U<|z8 U U U<|aa U<|z8 U U U<|aM U U<|z8 U U c3<|aq U U U<|z8 U U c3<|aj U<|zo (s:=35) U (fun c8=>?_) (fun c8=>?_)
      ·refine z8 U U c8<|aa U<|z8 U U c8<|aM U U<|z8 U U c3<|aq U c8 U<|z8 U U c2<|au U c3 U<|aq U c2 U<|z6<|zy U (fun c9=>?_) (fun c9=>?_)
       ·refine ae<|ab U<|z6<|zi<|zm (x:=.bool _) U ?_
        rw[if_neg (by simp_all[dG]<;>omega)] at hstep;exact jb hstep
       ·refine zg<|aO<|aa U<|aC U U<|ap U<|z6 ?_
        exact ⟨(p+(Utf8.decode s p).2,n+1),aH,aH,aD,⟨by rw[if_pos (by simp_all[dG]<;>omega)] at hstep;exact hstep,by dsimp only;omega,by dsimp only;omega⟩,by dsimp only;omega⟩
      ·refine z7 U U c8<|z7 U U c8<|z8 U U c3<|au U c8 U<|z8 U U c2<|au U c3 U<|aq U c2 U<|z6<|yg U U<|zg<|aO<|aa U<|aC U U<|ap U<|z6 ?_
       exact ⟨(p+(Utf8.decode s p).2,n+1),aH,aH,aD,⟨by rw[if_pos (by simp_all[dG]<;>omega)] at hstep;exact hstep,by dsimp only;omega,by dsimp only;omega⟩,by dsimp only;omega⟩
   ·refine z7 U U c2<|z7 U U c2<|z7 U U c2<|zk U U<|zk U U<|zk U U<|zk U U<|zk U U<|zk U U<|zk U U<|zk U U<|zk U U<|zk U U<|zk U U<|zk U U<|zk U U<|zk U U<|zk U U<|z7 U U c2<|au U c2 U<|z6<|yg U U<|zg<|aO<|aa U<|aC U U<|ap U<|z6 ?_
    exact ⟨(p+(Utf8.decode s p).2,n+1),aH,aH,aD,⟨by rw[if_pos (by simp_all[dG]<;>omega)] at hstep;exact hstep,by dsimp only;omega,by dsimp only;omega⟩,by dsimp only;omega⟩
  ·refine z7 U U c1<|z7 U U c1<|au U c1 U<|ab U<|z6<|zd<|ae<|aj U<|aB U<|aj U<|z8 U U U<|aa U<|z8 U U U<|ai U U<|z8 U U U<|aj U<|zo (s:=23) U (fun c10=>?_) (fun c10=>?_)
   ·refine z7 U U c10<|z7 U U c10<|z7 U U c10<|zk U U<|zk U U<|z7 U U c10<|z7 U U c10<|z7 U U c10<|zk U U<|zk U U<|z7 U U c10<|z7 U U c10<|zk U U<|zk U U<|z7 U U c10<|z8 U U U<|aq U c10 U<|aq U U U<|z6<|yl U U<|ae<|ab U<|z6<|zi<|zm (x:=.bool _) U ?_
    rw[if_neg (by simp_all[dG]<;>omega)] at hstep;exact jb hstep
   ·refine z8 U U c10<|aa U<|z8 U U c10<|za (yy U U)<|z8 U U c10<|aj U<|zo (s:=26) U (fun c11=>?_) (fun c11=>?_)
    ·refine z8 U U c11<|aa U<|z8 U U c11<|za (qb U U)<|z8 U U c10<|aq U c11 U<|z8 U U c10<|aB U<|z8 U U c10<|aj U<|zo (s:=31) U (fun c12=>?_) (fun c12=>?_)
     ·refine z8 U U c12<|aa U<|z8 U U c12<|aM U U<|z8 U U c10<|aq U c12 U<|z8 U U c10<|aj U<|zo (s:=35) U (fun c13=>?_) (fun c13=>?_)
      ·refine z8 U U c13<|aa U<|z8 U U c13<|aM U U<|z8 U U c10<|aq U c13 U<|z8 U U U<|au U c10 U<|aq U U U<|z6<|zy U (fun c14=>?_) (fun c14=>?_)
       ·refine ae<|ab U<|z6<|zi<|zm (x:=.bool _) U ?_
        rw[if_neg (by simp_all[dG]<;>omega)] at hstep;exact jb hstep
       ·refine zg<|aO<|aa U<|aC U U<|ap U<|z6 ?_
        exact ⟨(p+(Utf8.decode s p).2,n+1),aH,aH,aD,⟨by rw[if_pos (by simp_all[dG]<;>omega)] at hstep;exact hstep,by dsimp only;omega,by dsimp only;omega⟩,by dsimp only;omega⟩
      ·refine z7 U U c13<|z7 U U c13<|z8 U U c10<|au U c13 U<|z8 U U U<|au U c10 U<|aq U U U<|z6<|yg U U<|zg<|aO<|aa U<|aC U U<|ap U<|z6 ?_
       exact ⟨(p+(Utf8.decode s p).2,n+1),aH,aH,aD,⟨by rw[if_pos (by simp_all[dG]<;>omega)] at hstep;exact hstep,by dsimp only;omega,by dsimp only;omega⟩,by dsimp only;omega⟩
     ·refine z7 U U c12<|z7 U U c12<|z8 U U c10<|au U c12 U<|z8 U U c10<|aj U<|z7 U U U<|z7 U U U<|z8 U U c10<|au U U U<|z8 U U U<|au U c10 U<|aq U U U<|z6<|yg U U<|zg<|aO<|aa U<|aC U U<|ap U<|z6 ?_
      exact ⟨(p+(Utf8.decode s p).2,n+1),aH,aH,aD,⟨by rw[if_pos (by simp_all[dG]<;>omega)] at hstep;exact hstep,by dsimp only;omega,by dsimp only;omega⟩,by dsimp only;omega⟩
    ·refine z7 U U c11<|z7 U U c11<|z8 U U c10<|au U c11 U<|z8 U U c10<|aB U<|z8 U U c10<|aj U<|z8 U U U<|aa U<|z8 U U U<|aM U U<|z8 U U c10<|aq U U U<|z8 U U c10<|aj U<|zo (s:=35) U (fun c15=>?_) (fun c15=>?_)
     ·refine z8 U U c15<|aa U<|z8 U U c15<|aM U U<|z8 U U c10<|aq U c15 U<|z8 U U U<|au U c10 U<|aq U U U<|z6<|zy U (fun c16=>?_) (fun c16=>?_)
      ·refine ae<|ab U<|z6<|zi<|zm (x:=.bool _) U ?_
       rw[if_neg (by simp_all[dG]<;>omega)] at hstep;exact jb hstep
      ·refine zg<|aO<|aa U<|aC U U<|ap U<|z6 ?_
       exact ⟨(p+(Utf8.decode s p).2,n+1),aH,aH,aD,⟨by rw[if_pos (by simp_all[dG]<;>omega)] at hstep;exact hstep,by dsimp only;omega,by dsimp only;omega⟩,by dsimp only;omega⟩
     ·refine z7 U U c15<|z7 U U c15<|z8 U U c10<|au U c15 U<|z8 U U U<|au U c10 U<|aq U U U<|z6<|yg U U<|zg<|aO<|aa U<|aC U U<|ap U<|z6 ?_
      exact ⟨(p+(Utf8.decode s p).2,n+1),aH,aH,aD,⟨by rw[if_pos (by simp_all[dG]<;>omega)] at hstep;exact hstep,by dsimp only;omega,by dsimp only;omega⟩,by dsimp only;omega⟩
 ·rw[eC,dif_neg hlt] at hp
  refine ae<|az.nextTover U .head hlt<|bZ U U<|z6<|zd<|yg U U<|y7<|ae<|aa U<|za (yy U U)<|aj U<|zo (s:=45) U (fun c17=>?_) (fun c17=>?_)
  ·refine z8 U U c17<|aa U<|z8 U U c17<|za (qb U U)<|aq U c17 U<|ab U<|z6<|zi<|zm (x:=.bool _) U ?_
   rw[←hp];exact jb (by simp_all<;>(intros;omega))
  ·refine z7 U U c17<|z7 U U c17<|au U c17 U<|ab U<|z6<|zi<|zm (x:=.bool _) U ?_
   rw[←hp];exact jb (by simp_all<;>(intros;omega))
theorem kV:aK prog E 87 [] (.fro 3 (gk.map p9)):=by
 refine zq func87 U (by decide) U<|ae<|bF U<|z6<|ae<|za (y5 (cps:=[(0,[_]),(1,[_]),(2,[_])]) (rs:=[_,_,_]) dW U U U)<|za (y5 (cps:=[(0,[_]),(1,[_]),(2,[_])]) (rs:=[_,_,_]) dW U U U)<|za (y5 (cps:=[(0,[_]),(1,[_]),(2,[_])]) (rs:=[_,_,_]) dW U U U)<|za (y5 (cps:=[(0,[_]),(1,[_]),(2,[_])]) (rs:=[_,_,_]) dW U U U)<|za (y5 (cps:=[(0,[_]),(1,[_]),(2,[_])]) (rs:=[_,_,_]) dW U U U)<|za (y5 (cps:=[(0,[_]),(1,[_]),(2,[_])]) (rs:=[_,_,_]) dW U U U)<|za (y5 (cps:=[(0,[_]),(1,[_]),(2,[_])]) (rs:=[_,_,_]) dW U U U)<|za (y5 (cps:=[(0,[_]),(1,[_]),(2,[_])]) (rs:=[_,_,_]) dW U U U)<|za (y5 (cps:=[(0,[_]),(1,[_]),(2,[_])]) (rs:=[_,_,_]) dW U U U)<|za (y5 (cps:=[(0,[_]),(1,[_]),(2,[_])]) (rs:=[_,_,_]) dW U U U)<|za (y5 (cps:=[(0,[_]),(1,[_]),(2,[_])]) (rs:=[_,_,_]) dW U U U)<|za (y5 (cps:=[(0,[_]),(1,[_]),(2,[_])]) (rs:=[_,_,_]) dW U U U)<|za (y5 (cps:=[(0,[_]),(1,[_]),(2,[_])]) (rs:=[_,_,_]) dW U U U)<|za (y5 (cps:=[(0,[_]),(1,[_]),(2,[_])]) (rs:=[_,_,_]) dW U U U)<|za (y5 (cps:=[(0,[_]),(1,[_]),(2,[_])]) (rs:=[_,_,_]) dW U U U)<|za (y5 (cps:=[(0,[_]),(1,[_]),(2,[_])]) (rs:=[_,_,_]) dW U U U)<|za (y5 (cps:=[(0,[_]),(1,[_]),(2,[_])]) (rs:=[_,_,_]) dW U U U)<|za (y5 (cps:=[(0,[_]),(1,[_]),(2,[_])]) (rs:=[_,_,_]) dW U U U)<|za (y5 (cps:=[(0,[_]),(1,[_]),(2,[_])]) (rs:=[_,_,_]) dW U U U)<|za (y5 (cps:=[(0,[_]),(1,[_]),(2,[_])]) (rs:=[_,_,_]) dW U U U)<|za (y5 (cps:=[(0,[_]),(1,[_]),(2,[_])]) (rs:=[_,_,_]) dW U U U)<|za (y5 (cps:=[(0,[_]),(1,[_]),(2,[_])]) (rs:=[_,_,_]) dW U U U)<|za (y5 (cps:=[(0,[_]),(1,[_]),(2,[_])]) (rs:=[_,_,_]) dW U U U)<|za (y5 (cps:=[(0,[_]),(1,[_]),(2,[_])]) (rs:=[_,_,_]) dW U U U)<|za (y5 (cps:=[(0,[_]),(1,[_]),(2,[_])]) (rs:=[_,_,_]) dW U U U)<|za (y5 (cps:=[(0,[_]),(1,[_]),(2,[_])]) (rs:=[_,_,_]) dW U U U)<|za (y5 (cps:=[(0,[_]),(1,[_]),(2,[_])]) (rs:=[_,_,_]) dW U U U)<|y4 (rows:=[[_,_,_],[_,_,_],[_,_,_],[_,_,_],[_,_,_],[_,_,_],[_,_,_],[_,_,_],[_,_,_],[_,_,_],[_,_,_],[_,_,_],[_,_,_],[_,_,_],[_,_,_],[_,_,_],[_,_,_],[_,_,_],[_,_,_],[_,_,_],[_,_,_],[_,_,_],[_,_,_],[_,_,_],[_,_,_],[_,_,_],[_,_,_]]) Bk U U U U U<|za (kO U)<|z6<|zi<|zm (x:=.fro _ _) U ?_
 rfl
theorem fV (k n:Int):aK prog E 160 [.int .i64 k,.int .i64 n] (.bool (decide (0≤k)&&decide (k<n))):=by
 refine zq func160 U (by decide) U<|ae<|ab U<|z6<|ae<|aa U<|za (yy U U)<|aj U<|zo (s:=7) U (fun c18=>?_) (fun c18=>?_)
 ·refine z8 U U c18<|aa U<|z8 U U c18<|aa U<|z8 U U c18<|ax U U<|aq U c18 U<|ab U<|z6<|zi<|zm (x:=.bool _) U ?_
  exact jb (by simp_all<;>omega)
 ·refine z7 U U c18<|z7 U U c18<|z7 U U c18<|au U c18 U<|ab U<|z6<|zi<|zm (x:=.bool _) U ?_
  exact jb (by simp_all<;>omega)
def F2 (l:List UInt8):ByteArray:=⟨l.toArray⟩
end Go.Proofs.YtdilpodccjlkgaaGreatDoor
