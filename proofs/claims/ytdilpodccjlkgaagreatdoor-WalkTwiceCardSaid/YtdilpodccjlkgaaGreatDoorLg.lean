/- The document's own functions: names, the table, digits, what is the same, what has a text. No conditions but bounds. -/
import Derived.Test.YtdilpodccjlkgaaGreatDoorLf
import Derived.Test.YtdilpodccjlkgaaGreatDoorLb
set_option linter.unusedVariables false
set_option linter.unusedSimpArgs false
set_option linter.unusedSectionVars false
namespace Go.Proofs.YtdilpodccjlkgaaGreatDoor
open Go.Proofs.Tryz
open Go.Proofs Go.Lib Go.Shelf Go.RowKit
theorem dA:de prog 154 #[(0,1),(1,1),(2,1)] [.str ⟨#[]⟩,.str ⟨#[]⟩,.str ⟨#[]⟩]:=⟨_,_,Zt,Yu,fun w=>by kernel_rfl,rfl⟩
theorem yW:cF prog 155 154 27 3 [.str ⟨#[]⟩,.str ⟨#[]⟩,.str ⟨#[]⟩,.str ⟨#[]⟩,.str ⟨#[]⟩,.str ⟨#[]⟩,.str ⟨#[]⟩,.str ⟨#[]⟩,.str ⟨#[]⟩,.str ⟨#[]⟩,.str ⟨#[]⟩,.str ⟨#[]⟩,.str ⟨#[]⟩,.str ⟨#[]⟩,.str ⟨#[]⟩,.str ⟨#[]⟩,.str ⟨#[]⟩,.str ⟨#[]⟩,.str ⟨#[]⟩,.str ⟨#[]⟩,.str ⟨#[]⟩,.str ⟨#[]⟩,.str ⟨#[]⟩,.str ⟨#[]⟩,.str ⟨#[]⟩,.str ⟨#[]⟩,.str ⟨#[]⟩,.str ⟨#[]⟩,.str ⟨#[]⟩,.str ⟨#[]⟩,.str ⟨#[]⟩,.str ⟨#[]⟩,.str ⟨#[]⟩,.str ⟨#[]⟩,.str ⟨#[]⟩,.str ⟨#[]⟩,.str ⟨#[]⟩,.str ⟨#[]⟩,.str ⟨#[]⟩,.str ⟨#[]⟩,.str ⟨#[]⟩,.str ⟨#[]⟩,.str ⟨#[]⟩,.str ⟨#[]⟩,.str ⟨#[]⟩,.str ⟨#[]⟩,.str ⟨#[]⟩,.str ⟨#[]⟩,.str ⟨#[]⟩,.str ⟨#[]⟩,.str ⟨#[]⟩,.str ⟨#[]⟩,.str ⟨#[]⟩,.str ⟨#[]⟩,.str ⟨#[]⟩,.str ⟨#[]⟩,.str ⟨#[]⟩,.str ⟨#[]⟩,.str ⟨#[]⟩,.str ⟨#[]⟩,.str ⟨#[]⟩,.str ⟨#[]⟩,.str ⟨#[]⟩,.str ⟨#[]⟩,.str ⟨#[]⟩,.str ⟨#[]⟩,.str ⟨#[]⟩,.str ⟨#[]⟩,.str ⟨#[]⟩,.str ⟨#[]⟩,.str ⟨#[]⟩,.str ⟨#[]⟩,.str ⟨#[]⟩,.str ⟨#[]⟩,.str ⟨#[]⟩,.str ⟨#[]⟩,.str ⟨#[]⟩,.str ⟨#[]⟩,.str ⟨#[]⟩,.str ⟨#[]⟩,.str ⟨#[]⟩]:=⟨_,underlying155,Yc,Yu,by decide,by decide,by kernel_rfl⟩
set_option maxRecDepth 20000
variable {E:World}
def bn (E:World):Prop:=Lib.TabIs prog E "unicode.properties" .u8 Lib.propertiesTab∧RVar 1 letterT E
theorem mr (c:Int) (h1:-2147483648≤c) (h2:c≤2147483647) (hL:bn E):aI prog E 191 [.int .i32 c] (.bool (isLetterU c)):=
 aI.ofBelow (vs:=[.int .i32 c]) (r:=.bool (isLetterU c)) func191 rfl (by decide) rfl fun w hw=>Tryz.unicode_IsLetter_all c w h1 h2 (TabIs_below (g:=0) (by kernel_rfl) hL.1 hw) (RVar_below hL.2 hw)
theorem dR (s:ByteArray) (p:Nat):1≤(Utf8.decode s p).2∧(Utf8.decode s p).1≤2097151:=by
 have h256:∀k,(s.get! k).toNat<256:=fun k=>(s.get! k).toNat_lt
 unfold Utf8.decode
 dsimp only
 constructor
 ·repeat' split
  all_goals simp
 ·have h0:=h256 (p+0)
  have h1:=h256 (p+1)
  have h2:=h256 (p+2)
  have h3:=h256 (p+3)
  repeat' split
  all_goals (simp only[Utf8.runeError];omega)
def dh (c:Int) (n:Nat):Bool:=(isLetterU c&&!decide (c=65533))||(!decide ((n:Int)=0)&&((decide (48≤c)&&decide (c≤57))||decide (c=46)||decide (c=95)))
def ed (s:ByteArray) (p n:Nat):Bool:=
 if h:p<s.size then (if dh (Utf8.decode s p).1 n then ed s (p+(Utf8.decode s p).2) (n+1) else false) else decide ((1:Int)≤n)&&decide ((n:Int)≤16)
termination_by s.size - p
decreasing_by have:=(dR s p).1;omega
def lu (s:ByteArray):Bool:=ed s 0 0
theorem pK (s:ByteArray) (hs:s.size≤140737488355328) (hL:bn E):aI prog E 159 [.str s] (.bool (lu s)):=by
 refine zo func159 Z (by decide) Z<|ah<|ab Z<|z6<|ah<|ao Z<|z6<|zd<|ah<|za (yr (v:=.str _) Z)<|ax.rangeT Zi Z<|fun i8=>z6<|zj<|y8 (γ:=Nat × Nat) [8] (fun g=>[(3,.int .i64 g.2)]) (fun g=>[(i8,.iter s g.1)]) (fun g=>ed s g.1 g.2=lu s∧g.2≤g.1∧g.2≤s.size) (fun g=>s.size - g.1) (0,0) aJ aE (⟨Z,Nat.le_refl _,ql _⟩) ?_
 rintro ⟨p,n⟩ ⟨hp,hn,hn2⟩
 try dsimp only at *
 by_cases hlt:p<s.size
 ·obtain ⟨hd1,hd2⟩:=dR s p
  have hstep:=hp
  rw[ed,dif_pos hlt] at hstep
  refine ah<|ax.nextT Z .head hlt<|za (ij Z Z)<|z6<|zd<|yl Z Z<|zg<|zj<|ah<|za (iJ Z Z)<|ao Z<|z6<|ah<|aa Z<|zf (mr _ (by omega) (by omega) hL) Z<|ai Z<|zp (s:=14) Z (fun c1=>?_) (fun c1=>?_)
  ·refine z8 Z Z c1<|aa Z<|z8 Z Z c1<|aL Z Z<|ar Z c1 Z<|ab Z<|z6<|zd<|ah<|ai Z<|aD Z<|ai Z<|zp (s:=20) Z (fun c2=>?_) (fun c2=>?_)
   ·refine z8 Z Z c2<|aa Z<|z8 Z Z c2<|ak Z Z<|z8 Z Z c2<|ai Z<|zp (s:=23) Z (fun c3=>?_) (fun c3=>?_)
    ·refine z7 Z Z c3<|z7 Z Z c3<|z7 Z Z c3<|zi Z Z<|zi Z Z<|z7 Z Z c3<|z7 Z Z c3<|z7 Z Z c3<|zi Z Z<|zi Z Z<|z7 Z Z c3<|z7 Z Z c3<|zi Z Z<|zi Z Z<|z7 Z Z c3<|z8 Z Z c2<|ar Z c3 Z<|ar Z c2 Z<|z6<|yl Z Z<|ah<|ab Z<|z6<|zh<|zk (x:=.bool _) Z ?_
     rw[if_neg (by simp_all[dh]<;>omega)] at hstep;exact jb hstep
    ·refine z8 Z Z c3<|aa Z<|z8 Z Z c3<|za (q3 Z Z)<|z8 Z Z c3<|ai Z<|zp (s:=26) Z (fun c4=>?_) (fun c4=>?_)
     ·refine z8 Z Z c4<|aa Z<|z8 Z Z c4<|za (Gv.leq Z Z)<|z8 Z Z c3<|ar Z c4 Z<|z8 Z Z c3<|aD Z<|z8 Z Z c3<|ai Z<|zp (s:=31) Z (fun c5=>?_) (fun c5=>?_)
      ·refine z8 Z Z c5<|aa Z<|z8 Z Z c5<|aL Z Z<|z8 Z Z c3<|ar Z c5 Z<|z8 Z Z c3<|ai Z<|zp (s:=35) Z (fun c6=>?_) (fun c6=>?_)
       ·refine z8 Z Z c6<|aa Z<|z8 Z Z c6<|aL Z Z<|z8 Z Z c3<|ar Z c6 Z<|z8 Z Z c2<|au Z c3 Z<|ar Z c2 Z<|z6<|zu Z (fun c7=>?_) (fun c7=>?_)
        ·refine ah<|ab Z<|z6<|zh<|zk (x:=.bool _) Z ?_
         rw[if_neg (by simp_all[dh]<;>omega)] at hstep;exact jb hstep
        ·refine zg<|aV<|aa Z<|aC Z Z<|ao Z<|z6 ?_
         exact ⟨(p+(Utf8.decode s p).2,n+1),aJ,aJ,aE,⟨by rw[if_pos (by simp_all[dh]<;>omega)] at hstep;exact hstep,by dsimp only;omega,by dsimp only;omega⟩,by dsimp only;omega⟩
       ·refine z7 Z Z c6<|z7 Z Z c6<|z8 Z Z c3<|au Z c6 Z<|z8 Z Z c2<|au Z c3 Z<|ar Z c2 Z<|z6<|ye Z Z<|zg<|aV<|aa Z<|aC Z Z<|ao Z<|z6 ?_
        exact ⟨(p+(Utf8.decode s p).2,n+1),aJ,aJ,aE,⟨by rw[if_pos (by simp_all[dh]<;>omega)] at hstep;exact hstep,by dsimp only;omega,by dsimp only;omega⟩,by dsimp only;omega⟩
      ·refine z7 Z Z c5<|z7 Z Z c5<|z8 Z Z c3<|au Z c5 Z<|z8 Z Z c3<|ai Z<|z7 Z Z Z<|z7 Z Z Z<|z8 Z Z c3<|au Z Z Z<|z8 Z Z c2<|au Z c3 Z<|ar Z c2 Z<|z6<|ye Z Z<|zg<|aV<|aa Z<|aC Z Z<|ao Z<|z6 ?_
       exact ⟨(p+(Utf8.decode s p).2,n+1),aJ,aJ,aE,⟨by rw[if_pos (by simp_all[dh]<;>omega)] at hstep;exact hstep,by dsimp only;omega,by dsimp only;omega⟩,by dsimp only;omega⟩
     ·refine z7 Z Z c4<|z7 Z Z c4<|z8 Z Z c3<|au Z c4 Z<|z8 Z Z c3<|aD Z<|z8 Z Z c3<|ai Z<|z8 Z Z Z<|aa Z<|z8 Z Z Z<|aL Z Z<|z8 Z Z c3<|ar Z Z Z<|z8 Z Z c3<|ai Z<|zp (s:=35) Z (fun c8=>?_) (fun c8=>?_)
      ·refine z8 Z Z c8<|aa Z<|z8 Z Z c8<|aL Z Z<|z8 Z Z c3<|ar Z c8 Z<|z8 Z Z c2<|au Z c3 Z<|ar Z c2 Z<|z6<|zu Z (fun c9=>?_) (fun c9=>?_)
       ·refine ah<|ab Z<|z6<|zh<|zk (x:=.bool _) Z ?_
        rw[if_neg (by simp_all[dh]<;>omega)] at hstep;exact jb hstep
       ·refine zg<|aV<|aa Z<|aC Z Z<|ao Z<|z6 ?_
        exact ⟨(p+(Utf8.decode s p).2,n+1),aJ,aJ,aE,⟨by rw[if_pos (by simp_all[dh]<;>omega)] at hstep;exact hstep,by dsimp only;omega,by dsimp only;omega⟩,by dsimp only;omega⟩
      ·refine z7 Z Z c8<|z7 Z Z c8<|z8 Z Z c3<|au Z c8 Z<|z8 Z Z c2<|au Z c3 Z<|ar Z c2 Z<|z6<|ye Z Z<|zg<|aV<|aa Z<|aC Z Z<|ao Z<|z6 ?_
       exact ⟨(p+(Utf8.decode s p).2,n+1),aJ,aJ,aE,⟨by rw[if_pos (by simp_all[dh]<;>omega)] at hstep;exact hstep,by dsimp only;omega,by dsimp only;omega⟩,by dsimp only;omega⟩
   ·refine z7 Z Z c2<|z7 Z Z c2<|z7 Z Z c2<|zi Z Z<|zi Z Z<|zi Z Z<|zi Z Z<|zi Z Z<|zi Z Z<|zi Z Z<|zi Z Z<|zi Z Z<|zi Z Z<|zi Z Z<|zi Z Z<|zi Z Z<|zi Z Z<|zi Z Z<|z7 Z Z c2<|au Z c2 Z<|z6<|ye Z Z<|zg<|aV<|aa Z<|aC Z Z<|ao Z<|z6 ?_
    exact ⟨(p+(Utf8.decode s p).2,n+1),aJ,aJ,aE,⟨by rw[if_pos (by simp_all[dh]<;>omega)] at hstep;exact hstep,by dsimp only;omega,by dsimp only;omega⟩,by dsimp only;omega⟩
  ·refine z7 Z Z c1<|z7 Z Z c1<|au Z c1 Z<|ab Z<|z6<|zd<|ah<|ai Z<|aD Z<|ai Z<|z8 Z Z Z<|aa Z<|z8 Z Z Z<|ak Z Z<|z8 Z Z Z<|ai Z<|zp (s:=23) Z (fun c10=>?_) (fun c10=>?_)
   ·refine z7 Z Z c10<|z7 Z Z c10<|z7 Z Z c10<|zi Z Z<|zi Z Z<|z7 Z Z c10<|z7 Z Z c10<|z7 Z Z c10<|zi Z Z<|zi Z Z<|z7 Z Z c10<|z7 Z Z c10<|zi Z Z<|zi Z Z<|z7 Z Z c10<|z8 Z Z Z<|ar Z c10 Z<|ar Z Z Z<|z6<|yl Z Z<|ah<|ab Z<|z6<|zh<|zk (x:=.bool _) Z ?_
    rw[if_neg (by simp_all[dh]<;>omega)] at hstep;exact jb hstep
   ·refine z8 Z Z c10<|aa Z<|z8 Z Z c10<|za (q3 Z Z)<|z8 Z Z c10<|ai Z<|zp (s:=26) Z (fun c11=>?_) (fun c11=>?_)
    ·refine z8 Z Z c11<|aa Z<|z8 Z Z c11<|za (Gv.leq Z Z)<|z8 Z Z c10<|ar Z c11 Z<|z8 Z Z c10<|aD Z<|z8 Z Z c10<|ai Z<|zp (s:=31) Z (fun c12=>?_) (fun c12=>?_)
     ·refine z8 Z Z c12<|aa Z<|z8 Z Z c12<|aL Z Z<|z8 Z Z c10<|ar Z c12 Z<|z8 Z Z c10<|ai Z<|zp (s:=35) Z (fun c13=>?_) (fun c13=>?_)
      ·refine z8 Z Z c13<|aa Z<|z8 Z Z c13<|aL Z Z<|z8 Z Z c10<|ar Z c13 Z<|z8 Z Z Z<|au Z c10 Z<|ar Z Z Z<|z6<|zu Z (fun c14=>?_) (fun c14=>?_)
       ·refine ah<|ab Z<|z6<|zh<|zk (x:=.bool _) Z ?_
        rw[if_neg (by simp_all[dh]<;>omega)] at hstep;exact jb hstep
       ·refine zg<|aV<|aa Z<|aC Z Z<|ao Z<|z6 ?_
        exact ⟨(p+(Utf8.decode s p).2,n+1),aJ,aJ,aE,⟨by rw[if_pos (by simp_all[dh]<;>omega)] at hstep;exact hstep,by dsimp only;omega,by dsimp only;omega⟩,by dsimp only;omega⟩
      ·refine z7 Z Z c13<|z7 Z Z c13<|z8 Z Z c10<|au Z c13 Z<|z8 Z Z Z<|au Z c10 Z<|ar Z Z Z<|z6<|ye Z Z<|zg<|aV<|aa Z<|aC Z Z<|ao Z<|z6 ?_
       exact ⟨(p+(Utf8.decode s p).2,n+1),aJ,aJ,aE,⟨by rw[if_pos (by simp_all[dh]<;>omega)] at hstep;exact hstep,by dsimp only;omega,by dsimp only;omega⟩,by dsimp only;omega⟩
     ·refine z7 Z Z c12<|z7 Z Z c12<|z8 Z Z c10<|au Z c12 Z<|z8 Z Z c10<|ai Z<|z7 Z Z Z<|z7 Z Z Z<|z8 Z Z c10<|au Z Z Z<|z8 Z Z Z<|au Z c10 Z<|ar Z Z Z<|z6<|ye Z Z<|zg<|aV<|aa Z<|aC Z Z<|ao Z<|z6 ?_
      exact ⟨(p+(Utf8.decode s p).2,n+1),aJ,aJ,aE,⟨by rw[if_pos (by simp_all[dh]<;>omega)] at hstep;exact hstep,by dsimp only;omega,by dsimp only;omega⟩,by dsimp only;omega⟩
    ·refine z7 Z Z c11<|z7 Z Z c11<|z8 Z Z c10<|au Z c11 Z<|z8 Z Z c10<|aD Z<|z8 Z Z c10<|ai Z<|z8 Z Z Z<|aa Z<|z8 Z Z Z<|aL Z Z<|z8 Z Z c10<|ar Z Z Z<|z8 Z Z c10<|ai Z<|zp (s:=35) Z (fun c15=>?_) (fun c15=>?_)
     ·refine z8 Z Z c15<|aa Z<|z8 Z Z c15<|aL Z Z<|z8 Z Z c10<|ar Z c15 Z<|z8 Z Z Z<|au Z c10 Z<|ar Z Z Z<|z6<|zu Z (fun c16=>?_) (fun c16=>?_)
      ·refine ah<|ab Z<|z6<|zh<|zk (x:=.bool _) Z ?_
       rw[if_neg (by simp_all[dh]<;>omega)] at hstep;exact jb hstep
      ·refine zg<|aV<|aa Z<|aC Z Z<|ao Z<|z6 ?_
       exact ⟨(p+(Utf8.decode s p).2,n+1),aJ,aJ,aE,⟨by rw[if_pos (by simp_all[dh]<;>omega)] at hstep;exact hstep,by dsimp only;omega,by dsimp only;omega⟩,by dsimp only;omega⟩
     ·refine z7 Z Z c15<|z7 Z Z c15<|z8 Z Z c10<|au Z c15 Z<|z8 Z Z Z<|au Z c10 Z<|ar Z Z Z<|z6<|ye Z Z<|zg<|aV<|aa Z<|aC Z Z<|ao Z<|z6 ?_
      exact ⟨(p+(Utf8.decode s p).2,n+1),aJ,aJ,aE,⟨by rw[if_pos (by simp_all[dh]<;>omega)] at hstep;exact hstep,by dsimp only;omega,by dsimp only;omega⟩,by dsimp only;omega⟩
 ·rw[ed,dif_neg hlt] at hp
  refine ah<|ax.nextTover Z .head hlt<|za (ij Z Z)<|z6<|zd<|ye Z Z<|y7<|ah<|aa Z<|za (q3 Z Z)<|ai Z<|zp (s:=45) Z (fun c17=>?_) (fun c17=>?_)
  ·refine z8 Z Z c17<|aa Z<|z8 Z Z c17<|za (Gv.leq Z Z)<|ar Z c17 Z<|ab Z<|z6<|zh<|zk (x:=.bool _) Z ?_
   rw[←hp];exact jb (by simp_all<;>(intros;omega))
  ·refine z7 Z Z c17<|z7 Z Z c17<|au Z c17 Z<|ab Z<|z6<|zh<|zk (x:=.bool _) Z ?_
   rw[←hp];exact jb (by simp_all<;>(intros;omega))
theorem kd:aI prog E 87 [] (.fro 3 (fX.map o8)):=by
 refine zo func87 Z (by decide) Z<|ah<|za (iR Z)<|z6<|ah<|za (y4 (cps:=[(0,[_]),(1,[_]),(2,[_])]) (rs:=[_,_,_]) dA Z Z Z)<|za (y4 (cps:=[(0,[_]),(1,[_]),(2,[_])]) (rs:=[_,_,_]) dA Z Z Z)<|za (y4 (cps:=[(0,[_]),(1,[_]),(2,[_])]) (rs:=[_,_,_]) dA Z Z Z)<|za (y4 (cps:=[(0,[_]),(1,[_]),(2,[_])]) (rs:=[_,_,_]) dA Z Z Z)<|za (y4 (cps:=[(0,[_]),(1,[_]),(2,[_])]) (rs:=[_,_,_]) dA Z Z Z)<|za (y4 (cps:=[(0,[_]),(1,[_]),(2,[_])]) (rs:=[_,_,_]) dA Z Z Z)<|za (y4 (cps:=[(0,[_]),(1,[_]),(2,[_])]) (rs:=[_,_,_]) dA Z Z Z)<|za (y4 (cps:=[(0,[_]),(1,[_]),(2,[_])]) (rs:=[_,_,_]) dA Z Z Z)<|za (y4 (cps:=[(0,[_]),(1,[_]),(2,[_])]) (rs:=[_,_,_]) dA Z Z Z)<|za (y4 (cps:=[(0,[_]),(1,[_]),(2,[_])]) (rs:=[_,_,_]) dA Z Z Z)<|za (y4 (cps:=[(0,[_]),(1,[_]),(2,[_])]) (rs:=[_,_,_]) dA Z Z Z)<|za (y4 (cps:=[(0,[_]),(1,[_]),(2,[_])]) (rs:=[_,_,_]) dA Z Z Z)<|za (y4 (cps:=[(0,[_]),(1,[_]),(2,[_])]) (rs:=[_,_,_]) dA Z Z Z)<|za (y4 (cps:=[(0,[_]),(1,[_]),(2,[_])]) (rs:=[_,_,_]) dA Z Z Z)<|za (y4 (cps:=[(0,[_]),(1,[_]),(2,[_])]) (rs:=[_,_,_]) dA Z Z Z)<|za (y4 (cps:=[(0,[_]),(1,[_]),(2,[_])]) (rs:=[_,_,_]) dA Z Z Z)<|za (y4 (cps:=[(0,[_]),(1,[_]),(2,[_])]) (rs:=[_,_,_]) dA Z Z Z)<|za (y4 (cps:=[(0,[_]),(1,[_]),(2,[_])]) (rs:=[_,_,_]) dA Z Z Z)<|za (y4 (cps:=[(0,[_]),(1,[_]),(2,[_])]) (rs:=[_,_,_]) dA Z Z Z)<|za (y4 (cps:=[(0,[_]),(1,[_]),(2,[_])]) (rs:=[_,_,_]) dA Z Z Z)<|za (y4 (cps:=[(0,[_]),(1,[_]),(2,[_])]) (rs:=[_,_,_]) dA Z Z Z)<|za (y4 (cps:=[(0,[_]),(1,[_]),(2,[_])]) (rs:=[_,_,_]) dA Z Z Z)<|za (y4 (cps:=[(0,[_]),(1,[_]),(2,[_])]) (rs:=[_,_,_]) dA Z Z Z)<|za (y4 (cps:=[(0,[_]),(1,[_]),(2,[_])]) (rs:=[_,_,_]) dA Z Z Z)<|za (y4 (cps:=[(0,[_]),(1,[_]),(2,[_])]) (rs:=[_,_,_]) dA Z Z Z)<|za (y4 (cps:=[(0,[_]),(1,[_]),(2,[_])]) (rs:=[_,_,_]) dA Z Z Z)<|za (y4 (cps:=[(0,[_]),(1,[_]),(2,[_])]) (rs:=[_,_,_]) dA Z Z Z)<|y3 (rows:=[[_,_,_],[_,_,_],[_,_,_],[_,_,_],[_,_,_],[_,_,_],[_,_,_],[_,_,_],[_,_,_],[_,_,_],[_,_,_],[_,_,_],[_,_,_],[_,_,_],[_,_,_],[_,_,_],[_,_,_],[_,_,_],[_,_,_],[_,_,_],[_,_,_],[_,_,_],[_,_,_],[_,_,_],[_,_,_],[_,_,_],[_,_,_]]) yW Z Z Z Z Z<|za (oP Z)<|z6<|zh<|zk (x:=.fro _ _) Z ?_
 rfl
theorem fJ (k n:Int):aI prog E 160 [.int .i64 k,.int .i64 n] (.bool (decide (0≤k)&&decide (k<n))):=by
 refine zo func160 Z (by decide) Z<|ah<|ab Z<|z6<|ah<|aa Z<|za (q3 Z Z)<|ai Z<|zp (s:=7) Z (fun c18=>?_) (fun c18=>?_)
 ·refine z8 Z Z c18<|aa Z<|z8 Z Z c18<|aa Z<|z8 Z Z c18<|aw Z Z<|ar Z c18 Z<|ab Z<|z6<|zh<|zk (x:=.bool _) Z ?_
  exact jb (by simp_all<;>omega)
 ·refine z7 Z Z c18<|z7 Z Z c18<|z7 Z Z c18<|au Z c18 Z<|ab Z<|z6<|zh<|zk (x:=.bool _) Z ?_
  exact jb (by simp_all<;>omega)
def D1 (l:List UInt8):ByteArray:=⟨l.toArray⟩
end Go.Proofs.YtdilpodccjlkgaaGreatDoor
