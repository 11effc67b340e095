/- The document's own functions: names, the table, digits, what is the same, what has a text. No conditions but bounds. -/
import Derived.Test.YtjpnhkmfhlnpcaaGreatDoorJc
import Derived.Test.YtjpnhkmfhlnpcaaGreatDoorJd
import Derived.Lib.ItoaLen
import Derived.Lib.Join
set_option linter.unusedVariables false
set_option linter.unusedSimpArgs false
set_option linter.unusedSectionVars false
namespace Go.Proofs.YtjpnhkmfhlnpcaaGreatDoor
section
open Go.Proofs.Tryz
open Go.Proofs
theorem vT:kU prog 56 1 [.int .i64 0,.int .i64 0]:=⟨_,_,_,jg,zeroValue56,j9,rfl⟩
set_option maxRecDepth 20000
variable {E:World}
def ee (f:ae) (x:bB):Bool:=decide ((bv x.op).1=⟨#[]⟩)||!decide (x.args.length=(bd x.op).length)||!x.args.all (bf f)
def ep (f:ae) (x:bB):Bool:=(cK x.op&&!bf f x.dst)||(!cK x.op&&!decide (x.dst=-1))
def b5 (f:ae) (x:bB):Bool:=!ee f x&&!ep f x&&(decide (x.num=0)||ly x.op)
def bb (f:ae) (t:b9):Bool:=if t.kind=0 then cW f t.to0&&decide (t.to1=0)&&decide (t.var=0) else if t.kind=1 then bf f t.var&&cW f t.to0&&cW f t.to1 else
 if t.kind=2 then bf f t.var&&decide (t.to0=0∧t.to1=0) else false
theorem oX (a b c d:Int) (w:World):(Op.equalIn 10000 56 (.agg [.int .i64 a,.int .i64 b].toArray) (.agg [.int .i64 c,.int .i64 d].toArray)).run prog w=.ok (decide (a=c∧b=d)) w:=xn a b c d w 9998
theorem vU (f:ae) (x:bB) (hx:lJ x.args):aT prog E 110 [.agg (bC f),.agg (aZ x)] (.bool (b5 f x)):=by
 have hl:=hx.lt
 refine zo func110 Z (by decide) Z<|ai<|y9 (cs:=_) Z Z Z<|y9 (cs:=_) Z Z Z<|ad Z<|z7<|ai<|ap jd Z Zd Z Z<|aF Zj Z<|ze (lD _) Z<|za (DW Z)<|za (xi Z Z)<|za (w9 Z Z)<|aw Z<|ad Z<|z7<|zb<|zh<|zb<|ya (fun j=>false) (by kernel_rfl) Z (yh (.rest _))<|aN 0 Z (f9 jd Z Zd Z Z)<|aN 1 Z (mK Zj Z)<|cP 2 Z<|ze (vJ _) Z<|z7<|aN 3 Z (Gv.eqlT Z Z)<|aN 4 Z (Av Z)<|bz.case (s:=18) Z (fun c1=>?_) (fun c1=>?_)
 ·refine dR 5 Z Z Z c1<|dR 6 Z Z Z c1<|dR 7 Z Z Z c1<|dR 8 Z Z Z c1<|dR 9 Z Z Z c1<|dR 10 Z Z Z c1<|dR 11 Z Z Z c1<|dR 12 Z Z Z c1<|aN 13 Z (Aw Z c1 Z)<|aN 14 Z (Av Z)<|dR 15 Z Z Z Z<|dR 16 Z Z Z Z<|dR 17 Z Z Z Z<|dR 18 Z Z Z Z<|dR 19 Z Z Z Z<|aN 20 Z (Aw Z Z Z)<|aN 21 Z (CX Z)<|kV<|yi Z Z<|ai<|ad Z<|z7<|zg<|zi (x:=.bool _) Z ?_
  exact jb (by simp_all[b5,ee,ep,Int.ofNat_inj]<;>grind)
 ·refine fu 5 Z Z Z c1 (f9 jd Z je Z Z)<|fu 6 Z Z Z c1 (lx jm Z)<|fu 7 Z Z Z c1 (Gv.lenM j4 Z)<|fu 8 Z Z Z c1 (f9 jd Z Zd Z Z)<|fu 9 Z Z Z c1 (mK Zj Z)<|cP 10 Z<|z8 Z Z c1<|ze (lC _) Z<|z7<|fu 11 Z Z Z c1 (Gv.lenM underlying182 Z)<|fu 12 Z Z Z c1 (Gv.neqI Z Z)<|aN 13 Z (CG Z c1 Z)<|aN 14 Z (Av Z)<|bz.case (s:=28) Z (fun c2=>?_) (fun c2=>?_)
  ·refine dR 15 Z Z Z c2<|dR 16 Z Z Z c2<|dR 17 Z Z Z c2<|dR 18 Z Z Z c2<|dR 19 Z Z Z c2<|aN 20 Z (Aw Z c2 Z)<|aN 21 Z (CX Z)<|kV<|yi Z Z<|ai<|ad Z<|z7<|zg<|zi (x:=.bool _) Z ?_
   exact jb (by simp_all[b5,ee,ep,Int.ofNat_inj]<;>grind)
  ·refine fu 15 Z Z Z c2 (yo jh j8 Z Z)<|fu 16 Z Z Z c2 (f9 jd Z je Z Z)<|fu 17 Z Z Z c2 (lx jm Z)<|cP 18 Z<|z8 Z Z c2<|ze (ng _ _ (by omega)) Z<|z7<|fu 19 Z Z Z c2 (Gv.not Z)<|aN 20 Z (CG Z c2 Z)<|aN 21 Z (CX Z)<|kV<|zu Z (fun c3=>?_) (fun c3=>?_)
   ·refine ai<|ad Z<|z7<|zg<|zi (x:=.bool _) Z ?_
    exact jb (by simp_all[b5,ee,ep,Int.ofNat_inj]<;>grind)
   ·refine ai<|aj Z<|aj Z<|zk (s:=37) Z (fun c4=>?_) (fun c4=>?_)
    ·refine z8 Z Z c4<|ab jh j8 Z Z<|z8 Z Z c4<|ap jd Z j9 Z Z<|z8 Z Z c4<|aF jf Z<|z8 Z Z c4<|ze (gm _ _) Z<|z8 Z Z c4<|aH Z<|ak Z c4 Z<|aj Z<|zk (s:=44) Z (fun c5=>?_) (fun c5=>?_)
     ·refine z6 Z Z c5<|z6 Z Z c5<|z6 Z Z c5<|zc Z Z<|zc Z Z<|zc Z Z<|z6 Z Z c5<|ak Z c5 Z<|ad Z<|z7<|yi Z Z<|ai<|ad Z<|z7<|zg<|zi (x:=.bool _) Z ?_
      exact jb (by simp_all[b5,ee,ep,Int.ofNat_inj]<;>grind)
     ·refine z8 Z Z c5<|aj Z<|z8 Z Z c5<|aH Z<|z8 Z Z c5<|aj Z<|zk (s:=47) Z (fun c6=>?_) (fun c6=>?_)
      ·refine z8 Z Z c6<|ap jd Z j9 Z Z<|z8 Z Z c6<|aF jf Z<|z8 Z Z c6<|aG Z Z<|z8 Z Z c5<|ak Z c6 Z<|al Z c5 Z<|ad Z<|z7<|zu Z (fun c7=>?_) (fun c7=>?_)
       ·refine ai<|ad Z<|z7<|zg<|zi (x:=.bool _) Z ?_
        exact jb (by simp_all[b5,ee,ep,Int.ofNat_inj]<;>grind)
       ·refine zf<|ai<|ap jd Z sizeOf2 Z Z<|aF isAgg2 Z<|aq Z Z<|aj Z<|zk (s:=56) Z (fun c8=>?_) (fun c8=>?_)
        ·refine z6 Z Z c8<|z6 Z Z c8<|z6 Z Z c8<|ak Z c8 Z<|ad Z<|z7<|zg<|zi (x:=.bool _) Z ?_
         exact jb (by simp_all[b5,ee,ep,Int.ofNat_inj]<;>grind)
        ·refine z8 Z Z c8<|ap jd Z Zd Z Z<|z8 Z Z c8<|aF Zj Z<|z8 Z Z c8<|ze (d5 _) Z<|al Z c8 Z<|ad Z<|z7<|zg<|zi (x:=.bool _) Z ?_
         exact jb (by simp_all[b5,ee,ep,Int.ofNat_inj]<;>grind)
      ·refine z6 Z Z c6<|z6 Z Z c6<|z6 Z Z c6<|z8 Z Z c5<|al Z c6 Z<|al Z c5 Z<|ad Z<|z7<|yd Z Z<|zf<|ai<|ap jd Z sizeOf2 Z Z<|aF isAgg2 Z<|aq Z Z<|aj Z<|zk (s:=56) Z (fun c9=>?_) (fun c9=>?_)
       ·refine z6 Z Z c9<|z6 Z Z c9<|z6 Z Z c9<|ak Z c9 Z<|ad Z<|z7<|zg<|zi (x:=.bool _) Z ?_
        exact jb (by simp_all[b5,ee,ep,Int.ofNat_inj]<;>grind)
       ·refine z8 Z Z c9<|ap jd Z Zd Z Z<|z8 Z Z c9<|aF Zj Z<|z8 Z Z c9<|ze (d5 _) Z<|al Z c9 Z<|ad Z<|z7<|zg<|zi (x:=.bool _) Z ?_
        exact jb (by simp_all[b5,ee,ep,Int.ofNat_inj]<;>grind)
    ·refine z6 Z Z c4<|z6 Z Z c4<|z6 Z Z c4<|z6 Z Z c4<|z6 Z Z c4<|al Z c4 Z<|aj Z<|z8 Z Z Z<|aj Z<|z8 Z Z Z<|aH Z<|z8 Z Z Z<|aj Z<|zk (s:=47) Z (fun c10=>?_) (fun c10=>?_)
     ·refine z8 Z Z c10<|ap jd Z j9 Z Z<|z8 Z Z c10<|aF jf Z<|z8 Z Z c10<|aG Z Z<|z8 Z Z Z<|ak Z c10 Z<|al Z Z Z<|ad Z<|z7<|zu Z (fun c11=>?_) (fun c11=>?_)
      ·refine ai<|ad Z<|z7<|zg<|zi (x:=.bool _) Z ?_
       exact jb (by simp_all[b5,ee,ep,Int.ofNat_inj]<;>grind)
      ·refine zf<|ai<|ap jd Z sizeOf2 Z Z<|aF isAgg2 Z<|aq Z Z<|aj Z<|zk (s:=56) Z (fun c12=>?_) (fun c12=>?_)
       ·refine z6 Z Z c12<|z6 Z Z c12<|z6 Z Z c12<|ak Z c12 Z<|ad Z<|z7<|zg<|zi (x:=.bool _) Z ?_
        exact jb (by simp_all[b5,ee,ep,Int.ofNat_inj]<;>grind)
       ·refine z8 Z Z c12<|ap jd Z Zd Z Z<|z8 Z Z c12<|aF Zj Z<|z8 Z Z c12<|ze (d5 _) Z<|al Z c12 Z<|ad Z<|z7<|zg<|zi (x:=.bool _) Z ?_
        exact jb (by simp_all[b5,ee,ep,Int.ofNat_inj]<;>grind)
     ·refine z6 Z Z c10<|z6 Z Z c10<|z6 Z Z c10<|z8 Z Z Z<|al Z c10 Z<|al Z Z Z<|ad Z<|z7<|yd Z Z<|zf<|ai<|ap jd Z sizeOf2 Z Z<|aF isAgg2 Z<|aq Z Z<|aj Z<|zk (s:=56) Z (fun c13=>?_) (fun c13=>?_)
      ·refine z6 Z Z c13<|z6 Z Z c13<|z6 Z Z c13<|ak Z c13 Z<|ad Z<|z7<|zg<|zi (x:=.bool _) Z ?_
       exact jb (by simp_all[b5,ee,ep,Int.ofNat_inj]<;>grind)
      ·refine z8 Z Z c13<|ap jd Z Zd Z Z<|z8 Z Z c13<|aF Zj Z<|z8 Z Z c13<|ze (d5 _) Z<|al Z c13 Z<|ad Z<|z7<|zg<|zi (x:=.bool _) Z ?_
       exact jb (by simp_all[b5,ee,ep,Int.ofNat_inj]<;>grind)
theorem vV (f:ae) (t:b9):aT prog E 111 [.agg (bC f),.agg (kX t)] (.bool (bb f t)):=by
 refine zo func111 Z (by decide) Z<|ai<|y9 (cs:=_) Z Z Z<|y9 (cs:=_) Z Z Z<|ad Z<|z7<|zb<|ai<|ap j7 Z Z2 Z Z<|aF Z6 Z<|z7<|zh<|ai<|aq Z Z<|ad Z<|z7<|zu Z (fun c14=>?_) (fun c14=>?_)
 ·refine ai<|ab jh j8 Z Z<|ap j7 Z jr Z Z<|za (yl (j:=0) jg j9 Z Z Z (by decide) Z)<|aF jf Z<|ze (kY _ _) Z<|aj Z<|zk (s:=14) Z (fun c15=>?_) (fun c15=>?_)
  ·refine z8 Z Z c15<|ap j7 Z jr Z Z<|z8 Z Z c15<|za (yl (j:=1) jg j9 Z Z Z (by decide) Z)<|z8 Z Z c15<|aF jf Z<|z8 Z Z c15<|aq Z Z<|ak Z c15 Z<|aj Z<|zk (s:=20) Z (fun c16=>?_) (fun c16=>?_)
   ·refine z8 Z Z c16<|ap j7 Z j9 Z Z<|z8 Z Z c16<|aF jf Z<|z8 Z Z c16<|aq Z Z<|ak Z c16 Z<|ad Z<|z7<|zg<|zi (x:=.bool _) Z ?_
    exact jb (by simp_all[bb]<;>grind)
   ·refine z6 Z Z c16<|z6 Z Z c16<|z6 Z Z c16<|al Z c16 Z<|ad Z<|z7<|zg<|zi (x:=.bool _) Z ?_
    exact jb (by simp_all[bb]<;>grind)
  ·refine z6 Z Z c15<|z6 Z Z c15<|z6 Z Z c15<|z6 Z Z c15<|al Z c15 Z<|aj Z<|z6 Z Z Z<|z6 Z Z Z<|z6 Z Z Z<|al Z Z Z<|ad Z<|z7<|zg<|zi (x:=.bool _) Z ?_
   exact jb (by simp_all[bb]<;>grind)
 ·refine ai<|aq Z Z<|ad Z<|z7<|zu Z (fun c17=>?_) (fun c17=>?_)
  ·refine ai<|ab jh j8 Z Z<|ap j7 Z j9 Z Z<|aF jf Z<|ze (gm _ _) Z<|aj Z<|zk (s:=31) Z (fun c18=>?_) (fun c18=>?_)
   ·refine z8 Z Z c18<|ab jh j8 Z Z<|z8 Z Z c18<|ap j7 Z jr Z Z<|z8 Z Z c18<|za (yl (j:=0) jg j9 Z Z Z (by decide) Z)<|z8 Z Z c18<|aF jf Z<|z8 Z Z c18<|ze (kY _ _) Z<|ak Z c18 Z<|aj Z<|zk (s:=38) Z (fun c19=>?_) (fun c19=>?_)
    ·refine z8 Z Z c19<|ab jh j8 Z Z<|z8 Z Z c19<|ap j7 Z jr Z Z<|z8 Z Z c19<|za (yl (j:=1) jg j9 Z Z Z (by decide) Z)<|z8 Z Z c19<|aF jf Z<|z8 Z Z c19<|ze (kY _ _) Z<|ak Z c19 Z<|ad Z<|z7<|zg<|zi (x:=.bool _) Z ?_
     exact jb (by simp_all[bb]<;>grind)
    ·refine z6 Z Z c19<|z6 Z Z c19<|z6 Z Z c19<|z6 Z Z c19<|z6 Z Z c19<|al Z c19 Z<|ad Z<|z7<|zg<|zi (x:=.bool _) Z ?_
     exact jb (by simp_all[bb]<;>grind)
   ·refine z6 Z Z c18<|z6 Z Z c18<|z6 Z Z c18<|z6 Z Z c18<|z6 Z Z c18<|al Z c18 Z<|aj Z<|z6 Z Z Z<|z6 Z Z Z<|z6 Z Z Z<|z6 Z Z Z<|z6 Z Z Z<|al Z Z Z<|ad Z<|z7<|zg<|zi (x:=.bool _) Z ?_
    exact jb (by simp_all[bb]<;>grind)
  ·refine ai<|aq Z Z<|ad Z<|z7<|zu Z (fun c20=>?_) (fun c20=>?_)
   ·refine ai<|ab jh j8 Z Z<|ap j7 Z j9 Z Z<|aF jf Z<|ze (gm _ _) Z<|aj Z<|zk (s:=51) Z (fun c21=>?_) (fun c21=>?_)
    ·refine z8 Z Z c21<|ap j7 Z jr Z Z<|z8 Z Z c21<|ab isAgg56 jr Z Z<|z8 Z Z c21<|za (Gv.buildA (cps:=[]) (rs:=[.int .i64 0,.int .i64 0]) vT Z Z Z)<|z8 Z Z c21<|za (Gv.eqlP (xs:=[.int _ _,.int _ _]) (ys:=[.int _ _,.int _ _]) (by kernel_rfl) Z Z (fun w=>oX _ _ _ _ w))<|ak Z c21 Z<|ad Z<|z7<|zg<|zi (x:=.bool _) Z ?_
     exact jb (by simp_all[bb]<;>grind)
    ·refine z6 Z Z c21<|z6 Z Z c21<|z6 Z Z c21<|z6 Z Z c21<|al Z c21 Z<|ad Z<|z7<|zg<|zi (x:=.bool _) Z ?_
     exact jb (by simp_all[bb]<;>grind)
   ·refine zf<|ai<|ad Z<|z7<|zg<|zi (x:=.bool _) Z ?_
    exact jb (by simp_all[bb]<;>grind)
def mT (s:ByteArray):List AV:=[.str s]
end
section
open Go.Proofs.Tryz
open Go.Proofs Go.Lib Go.Shelf Go.RowKit
theorem dV:gj prog 97 #[(0,1),(1,1),(2,1)] [.str ⟨#[]⟩,.str ⟨#[]⟩,.str ⟨#[]⟩]:=⟨_,_,Z5,zeroValue97,fun w=>by kernel_rfl,rfl⟩
theorem AL:di prog 98 97 27 3 [.str ⟨#[]⟩,.str ⟨#[]⟩,.str ⟨#[]⟩,.str ⟨#[]⟩,.str ⟨#[]⟩,.str ⟨#[]⟩,.str ⟨#[]⟩,.str ⟨#[]⟩,.str ⟨#[]⟩,.str ⟨#[]⟩,.str ⟨#[]⟩,.str ⟨#[]⟩,.str ⟨#[]⟩,.str ⟨#[]⟩,.str ⟨#[]⟩,.str ⟨#[]⟩,.str ⟨#[]⟩,.str ⟨#[]⟩,.str ⟨#[]⟩,.str ⟨#[]⟩,.str ⟨#[]⟩,.str ⟨#[]⟩,.str ⟨#[]⟩,.str ⟨#[]⟩,.str ⟨#[]⟩,.str ⟨#[]⟩,.str ⟨#[]⟩,.str ⟨#[]⟩,.str ⟨#[]⟩,.str ⟨#[]⟩,.str ⟨#[]⟩,.str ⟨#[]⟩,.str ⟨#[]⟩,.str ⟨#[]⟩,.str ⟨#[]⟩,.str ⟨#[]⟩,.str ⟨#[]⟩,.str ⟨#[]⟩,.str ⟨#[]⟩,.str ⟨#[]⟩,.str ⟨#[]⟩,.str ⟨#[]⟩,.str ⟨#[]⟩,.str ⟨#[]⟩,.str ⟨#[]⟩,.str ⟨#[]⟩,.str ⟨#[]⟩,.str ⟨#[]⟩,.str ⟨#[]⟩,.str ⟨#[]⟩,.str ⟨#[]⟩,.str ⟨#[]⟩,.str ⟨#[]⟩,.str ⟨#[]⟩,.str ⟨#[]⟩,.str ⟨#[]⟩,.str ⟨#[]⟩,.str ⟨#[]⟩,.str ⟨#[]⟩,.str ⟨#[]⟩,.str ⟨#[]⟩,.str ⟨#[]⟩,.str ⟨#[]⟩,.str ⟨#[]⟩,.str ⟨#[]⟩,.str ⟨#[]⟩,.str ⟨#[]⟩,.str ⟨#[]⟩,.str ⟨#[]⟩,.str ⟨#[]⟩,.str ⟨#[]⟩,.str ⟨#[]⟩,.str ⟨#[]⟩,.str ⟨#[]⟩,.str ⟨#[]⟩,.str ⟨#[]⟩,.str ⟨#[]⟩,.str ⟨#[]⟩,.str ⟨#[]⟩,.str ⟨#[]⟩,.str ⟨#[]⟩]:=⟨_,underlying98,Zk,zeroValue97,by decide,by decide,by kernel_rfl⟩
set_option maxRecDepth 20000
variable {E:World}
def ah (E:World):Prop:=Lib.TabIs prog E "unicode.properties" .u8 Lib.propertiesTab∧RVar 1 letterT E
theorem gr (c:Int) (h1:-2147483648≤c) (h2:c≤2147483647) (hL:ah E):aT prog E 91 [.int .i32 c] (.bool (isLetterU c)):=
 aT.ofBelow (vs:=[.int .i32 c]) (r:=.bool (isLetterU c)) func91 rfl (by decide) rfl fun w hw=>Tryz.unicode_IsLetter_all c w h1 h2 (TabIs_below (g:=0) (by kernel_rfl) hL.1 hw) (RVar_below hL.2 hw)
theorem cU (s:ByteArray) (p:Nat):1≤(Utf8.decode s p).2∧(Utf8.decode s p).1≤2097151:=by
 have h256:∀k,(s.get! k).toNat<256:=fun k=>(s.get! k).toNat_lt
 unfold Utf8.decode
 dsimp only
 constructor
 ·repeat' split
  all_goals simp
 ·have h0:=h256 (p+0)
  have h1:=h256 (p+1)
  have h2:=h256 (p+2)
  have h3:=h256 (p+3)
  repeat' split
  all_goals (simp only[Utf8.runeError];omega)
def b7 (c:Int) (n:Nat):Bool:=(isLetterU c&&!decide (c=65533))||(!decide ((n:Int)=0)&&((decide (48≤c)&&decide (c≤57))||decide (c=46)||decide (c=95)))
def cZ (s:ByteArray) (p n:Nat):Bool:=
 if h:p<s.size then (if b7 (Utf8.decode s p).1 n then cZ s (p+(Utf8.decode s p).2) (n+1) else false) else decide ((1:Int)≤n)&&decide ((n:Int)≤16)
termination_by s.size - p
decreasing_by have:=(cU s p).1;omega
def iX (s:ByteArray):Bool:=cZ s 0 0
theorem nj (s:ByteArray) (hs:s.size≤140737488355328) (hL:ah E):aT prog E 70 [.str s] (.bool (iX s)):=by
 refine zo func70 Z (by decide) Z<|ai<|ad Z<|z7<|ai<|aw Z<|z7<|zb<|ai<|za (yx (v:=.str _) Z)<|ao.rangeT jv Z<|fun i8=>z7<|zh<|y7 (γ:=Nat × Nat) [8] (fun g=>[(3,.int .i64 g.2)]) (fun g=>[(i8,.iter s g.1)]) (fun g=>cZ s g.1 g.2=iX s∧g.2≤g.1∧g.2≤s.size) (fun g=>s.size - g.1) (0,0) aV aU (⟨Z,Nat.le_refl _,q5 _⟩) ?_
 rintro ⟨p,n⟩ ⟨hp,hn,hn2⟩
 try dsimp only at *
 by_cases hlt:p<s.size
 ·obtain ⟨hd1,hd2⟩:=cU s p
  have hstep:=hp
  rw[cZ,dif_pos hlt] at hstep
  refine ai<|ao.nextT Z .head hlt<|za (w9 Z Z)<|z7<|zb<|yi Z Z<|zf<|zh<|ai<|za (xi Z Z)<|aw Z<|z7<|ai<|aa Z<|ze (gr _ (by omega) (by omega) hL) Z<|aj Z<|zk (s:=14) Z (fun c1=>?_) (fun c1=>?_)
  ·refine z8 Z Z c1<|aa Z<|z8 Z Z c1<|aG Z Z<|ak Z c1 Z<|ad Z<|z7<|zb<|ai<|aj Z<|aH Z<|aj Z<|zk (s:=20) Z (fun c2=>?_) (fun c2=>?_)
   ·refine z8 Z Z c2<|aa Z<|z8 Z Z c2<|aq Z Z<|z8 Z Z c2<|aj Z<|zk (s:=23) Z (fun c3=>?_) (fun c3=>?_)
    ·refine z6 Z Z c3<|z6 Z Z c3<|z6 Z Z c3<|zc Z Z<|zc Z Z<|z6 Z Z c3<|z6 Z Z c3<|z6 Z Z c3<|zc Z Z<|zc Z Z<|z6 Z Z c3<|z6 Z Z c3<|zc Z Z<|zc Z Z<|z6 Z Z c3<|z8 Z Z c2<|ak Z c3 Z<|ak Z c2 Z<|z7<|yi Z Z<|ai<|ad Z<|z7<|zg<|zi (x:=.bool _) Z ?_
     rw[if_neg (by simp_all[b7]<;>omega)] at hstep;exact jb hstep
    ·refine z8 Z Z c3<|aa Z<|z8 Z Z c3<|za (Gv.geq Z Z)<|z8 Z Z c3<|aj Z<|zk (s:=26) Z (fun c4=>?_) (fun c4=>?_)
     ·refine z8 Z Z c4<|aa Z<|z8 Z Z c4<|za (Gv.leq Z Z)<|z8 Z Z c3<|ak Z c4 Z<|z8 Z Z c3<|aH Z<|z8 Z Z c3<|aj Z<|zk (s:=31) Z (fun c5=>?_) (fun c5=>?_)
      ·refine z8 Z Z c5<|aa Z<|z8 Z Z c5<|aG Z Z<|z8 Z Z c3<|ak Z c5 Z<|z8 Z Z c3<|aj Z<|zk (s:=35) Z (fun c6=>?_) (fun c6=>?_)
       ·refine z8 Z Z c6<|aa Z<|z8 Z Z c6<|aG Z Z<|z8 Z Z c3<|ak Z c6 Z<|z8 Z Z c2<|al Z c3 Z<|ak Z c2 Z<|z7<|zu Z (fun c7=>?_) (fun c7=>?_)
        ·refine ai<|ad Z<|z7<|zg<|zi (x:=.bool _) Z ?_
         rw[if_neg (by simp_all[b7]<;>omega)] at hstep;exact jb hstep
        ·refine zf<|bg<|aa Z<|aB Z Z<|aw Z<|z7 ?_
         exact ⟨(p+(Utf8.decode s p).2,n+1),aV,aV,aU,⟨by rw[if_pos (by simp_all[b7]<;>omega)] at hstep;exact hstep,by dsimp only;omega,by dsimp only;omega⟩,by dsimp only;omega⟩
       ·refine z6 Z Z c6<|z6 Z Z c6<|z8 Z Z c3<|al Z c6 Z<|z8 Z Z c2<|al Z c3 Z<|ak Z c2 Z<|z7<|yd Z Z<|zf<|bg<|aa Z<|aB Z Z<|aw Z<|z7 ?_
        exact ⟨(p+(Utf8.decode s p).2,n+1),aV,aV,aU,⟨by rw[if_pos (by simp_all[b7]<;>omega)] at hstep;exact hstep,by dsimp only;omega,by dsimp only;omega⟩,by dsimp only;omega⟩
      ·refine z6 Z Z c5<|z6 Z Z c5<|z8 Z Z c3<|al Z c5 Z<|z8 Z Z c3<|aj Z<|z6 Z Z Z<|z6 Z Z Z<|z8 Z Z c3<|al Z Z Z<|z8 Z Z c2<|al Z c3 Z<|ak Z c2 Z<|z7<|yd Z Z<|zf<|bg<|aa Z<|aB Z Z<|aw Z<|z7 ?_
       exact ⟨(p+(Utf8.decode s p).2,n+1),aV,aV,aU,⟨by rw[if_pos (by simp_all[b7]<;>omega)] at hstep;exact hstep,by dsimp only;omega,by dsimp only;omega⟩,by dsimp only;omega⟩
     ·refine z6 Z Z c4<|z6 Z Z c4<|z8 Z Z c3<|al Z c4 Z<|z8 Z Z c3<|aH Z<|z8 Z Z c3<|aj Z<|z8 Z Z Z<|aa Z<|z8 Z Z Z<|aG Z Z<|z8 Z Z c3<|ak Z Z Z<|z8 Z Z c3<|aj Z<|zk (s:=35) Z (fun c8=>?_) (fun c8=>?_)
      ·refine z8 Z Z c8<|aa Z<|z8 Z Z c8<|aG Z Z<|z8 Z Z c3<|ak Z c8 Z<|z8 Z Z c2<|al Z c3 Z<|ak Z c2 Z<|z7<|zu Z (fun c9=>?_) (fun c9=>?_)
       ·refine ai<|ad Z<|z7<|zg<|zi (x:=.bool _) Z ?_
        rw[if_neg (by simp_all[b7]<;>omega)] at hstep;exact jb hstep
       ·refine zf<|bg<|aa Z<|aB Z Z<|aw Z<|z7 ?_
        exact ⟨(p+(Utf8.decode s p).2,n+1),aV,aV,aU,⟨by rw[if_pos (by simp_all[b7]<;>omega)] at hstep;exact hstep,by dsimp only;omega,by dsimp only;omega⟩,by dsimp only;omega⟩
      ·refine z6 Z Z c8<|z6 Z Z c8<|z8 Z Z c3<|al Z c8 Z<|z8 Z Z c2<|al Z c3 Z<|ak Z c2 Z<|z7<|yd Z Z<|zf<|bg<|aa Z<|aB Z Z<|aw Z<|z7 ?_
       exact ⟨(p+(Utf8.decode s p).2,n+1),aV,aV,aU,⟨by rw[if_pos (by simp_all[b7]<;>omega)] at hstep;exact hstep,by dsimp only;omega,by dsimp only;omega⟩,by dsimp only;omega⟩
   ·refine z6 Z Z c2<|z6 Z Z c2<|z6 Z Z c2<|zc Z Z<|zc Z Z<|zc Z Z<|zc Z Z<|zc Z Z<|zc Z Z<|zc Z Z<|zc Z Z<|zc Z Z<|zc Z Z<|zc Z Z<|zc Z Z<|zc Z Z<|zc Z Z<|zc Z Z<|z6 Z Z c2<|al Z c2 Z<|z7<|yd Z Z<|zf<|bg<|aa Z<|aB Z Z<|aw Z<|z7 ?_
    exact ⟨(p+(Utf8.decode s p).2,n+1),aV,aV,aU,⟨by rw[if_pos (by simp_all[b7]<;>omega)] at hstep;exact hstep,by dsimp only;omega,by dsimp only;omega⟩,by dsimp only;omega⟩
  ·refine z6 Z Z c1<|z6 Z Z c1<|al Z c1 Z<|ad Z<|z7<|zb<|ai<|aj Z<|aH Z<|aj Z<|z8 Z Z Z<|aa Z<|z8 Z Z Z<|aq Z Z<|z8 Z Z Z<|aj Z<|zk (s:=23) Z (fun c10=>?_) (fun c10=>?_)
   ·refine z6 Z Z c10<|z6 Z Z c10<|z6 Z Z c10<|zc Z Z<|zc Z Z<|z6 Z Z c10<|z6 Z Z c10<|z6 Z Z c10<|zc Z Z<|zc Z Z<|z6 Z Z c10<|z6 Z Z c10<|zc Z Z<|zc Z Z<|z6 Z Z c10<|z8 Z Z Z<|ak Z c10 Z<|ak Z Z Z<|z7<|yi Z Z<|ai<|ad Z<|z7<|zg<|zi (x:=.bool _) Z ?_
    rw[if_neg (by simp_all[b7]<;>omega)] at hstep;exact jb hstep
   ·refine z8 Z Z c10<|aa Z<|z8 Z Z c10<|za (Gv.geq Z Z)<|z8 Z Z c10<|aj Z<|zk (s:=26) Z (fun c11=>?_) (fun c11=>?_)
    ·refine z8 Z Z c11<|aa Z<|z8 Z Z c11<|za (Gv.leq Z Z)<|z8 Z Z c10<|ak Z c11 Z<|z8 Z Z c10<|aH Z<|z8 Z Z c10<|aj Z<|zk (s:=31) Z (fun c12=>?_) (fun c12=>?_)
     ·refine z8 Z Z c12<|aa Z<|z8 Z Z c12<|aG Z Z<|z8 Z Z c10<|ak Z c12 Z<|z8 Z Z c10<|aj Z<|zk (s:=35) Z (fun c13=>?_) (fun c13=>?_)
      ·refine z8 Z Z c13<|aa Z<|z8 Z Z c13<|aG Z Z<|z8 Z Z c10<|ak Z c13 Z<|z8 Z Z Z<|al Z c10 Z<|ak Z Z Z<|z7<|zu Z (fun c14=>?_) (fun c14=>?_)
       ·refine ai<|ad Z<|z7<|zg<|zi (x:=.bool _) Z ?_
        rw[if_neg (by simp_all[b7]<;>omega)] at hstep;exact jb hstep
       ·refine zf<|bg<|aa Z<|aB Z Z<|aw Z<|z7 ?_
        exact ⟨(p+(Utf8.decode s p).2,n+1),aV,aV,aU,⟨by rw[if_pos (by simp_all[b7]<;>omega)] at hstep;exact hstep,by dsimp only;omega,by dsimp only;omega⟩,by dsimp only;omega⟩
      ·refine z6 Z Z c13<|z6 Z Z c13<|z8 Z Z c10<|al Z c13 Z<|z8 Z Z Z<|al Z c10 Z<|ak Z Z Z<|z7<|yd Z Z<|zf<|bg<|aa Z<|aB Z Z<|aw Z<|z7 ?_
       exact ⟨(p+(Utf8.decode s p).2,n+1),aV,aV,aU,⟨by rw[if_pos (by simp_all[b7]<;>omega)] at hstep;exact hstep,by dsimp only;omega,by dsimp only;omega⟩,by dsimp only;omega⟩
     ·refine z6 Z Z c12<|z6 Z Z c12<|z8 Z Z c10<|al Z c12 Z<|z8 Z Z c10<|aj Z<|z6 Z Z Z<|z6 Z Z Z<|z8 Z Z c10<|al Z Z Z<|z8 Z Z Z<|al Z c10 Z<|ak Z Z Z<|z7<|yd Z Z<|zf<|bg<|aa Z<|aB Z Z<|aw Z<|z7 ?_
      exact ⟨(p+(Utf8.decode s p).2,n+1),aV,aV,aU,⟨by rw[if_pos (by simp_all[b7]<;>omega)] at hstep;exact hstep,by dsimp only;omega,by dsimp only;omega⟩,by dsimp only;omega⟩
    ·refine z6 Z Z c11<|z6 Z Z c11<|z8 Z Z c10<|al Z c11 Z<|z8 Z Z c10<|aH Z<|z8 Z Z c10<|aj Z<|z8 Z Z Z<|aa Z<|z8 Z Z Z<|aG Z Z<|z8 Z Z c10<|ak Z Z Z<|z8 Z Z c10<|aj Z<|zk (s:=35) Z (fun c15=>?_) (fun c15=>?_)
     ·refine z8 Z Z c15<|aa Z<|z8 Z Z c15<|aG Z Z<|z8 Z Z c10<|ak Z c15 Z<|z8 Z Z Z<|al Z c10 Z<|ak Z Z Z<|z7<|zu Z (fun c16=>?_) (fun c16=>?_)
      ·refine ai<|ad Z<|z7<|zg<|zi (x:=.bool _) Z ?_
       rw[if_neg (by simp_all[b7]<;>omega)] at hstep;exact jb hstep
      ·refine zf<|bg<|aa Z<|aB Z Z<|aw Z<|z7 ?_
       exact ⟨(p+(Utf8.decode s p).2,n+1),aV,aV,aU,⟨by rw[if_pos (by simp_all[b7]<;>omega)] at hstep;exact hstep,by dsimp only;omega,by dsimp only;omega⟩,by dsimp only;omega⟩
     ·refine z6 Z Z c15<|z6 Z Z c15<|z8 Z Z c10<|al Z c15 Z<|z8 Z Z Z<|al Z c10 Z<|ak Z Z Z<|z7<|yd Z Z<|zf<|bg<|aa Z<|aB Z Z<|aw Z<|z7 ?_
      exact ⟨(p+(Utf8.decode s p).2,n+1),aV,aV,aU,⟨by rw[if_pos (by simp_all[b7]<;>omega)] at hstep;exact hstep,by dsimp only;omega,by dsimp only;omega⟩,by dsimp only;omega⟩
 ·rw[cZ,dif_neg hlt] at hp
  refine ai<|ao.nextTover Z .head hlt<|za (w9 Z Z)<|z7<|zb<|yd Z Z<|zy<|ai<|aa Z<|za (Gv.geq Z Z)<|aj Z<|zk (s:=45) Z (fun c17=>?_) (fun c17=>?_)
  ·refine z8 Z Z c17<|aa Z<|z8 Z Z c17<|za (Gv.leq Z Z)<|ak Z c17 Z<|ad Z<|z7<|zg<|zi (x:=.bool _) Z ?_
   rw[←hp];exact jb (by simp_all<;>(intros;omega))
  ·refine z6 Z Z c17<|z6 Z Z c17<|al Z c17 Z<|ad Z<|z7<|zg<|zi (x:=.bool _) Z ?_
   rw[←hp];exact jb (by simp_all<;>(intros;omega))
theorem gN:aT prog E 48 [] (.fro 3 (em.map mS)):=by
 refine zo func48 Z (by decide) Z<|ai<|za (nc Z)<|z7<|ai<|za (zw (cps:=[(0,[_]),(1,[_]),(2,[_])]) (rs:=[_,_,_]) dV Z Z Z)<|za (zw (cps:=[(0,[_]),(1,[_]),(2,[_])]) (rs:=[_,_,_]) dV Z Z Z)<|za (zw (cps:=[(0,[_]),(1,[_]),(2,[_])]) (rs:=[_,_,_]) dV Z Z Z)<|za (zw (cps:=[(0,[_]),(1,[_]),(2,[_])]) (rs:=[_,_,_]) dV Z Z Z)<|za (zw (cps:=[(0,[_]),(1,[_]),(2,[_])]) (rs:=[_,_,_]) dV Z Z Z)<|za (zw (cps:=[(0,[_]),(1,[_]),(2,[_])]) (rs:=[_,_,_]) dV Z Z Z)<|za (zw (cps:=[(0,[_]),(1,[_]),(2,[_])]) (rs:=[_,_,_]) dV Z Z Z)<|za (zw (cps:=[(0,[_]),(1,[_]),(2,[_])]) (rs:=[_,_,_]) dV Z Z Z)<|za (zw (cps:=[(0,[_]),(1,[_]),(2,[_])]) (rs:=[_,_,_]) dV Z Z Z)<|za (zw (cps:=[(0,[_]),(1,[_]),(2,[_])]) (rs:=[_,_,_]) dV Z Z Z)<|za (zw (cps:=[(0,[_]),(1,[_]),(2,[_])]) (rs:=[_,_,_]) dV Z Z Z)<|za (zw (cps:=[(0,[_]),(1,[_]),(2,[_])]) (rs:=[_,_,_]) dV Z Z Z)<|za (zw (cps:=[(0,[_]),(1,[_]),(2,[_])]) (rs:=[_,_,_]) dV Z Z Z)<|za (zw (cps:=[(0,[_]),(1,[_]),(2,[_])]) (rs:=[_,_,_]) dV Z Z Z)<|za (zw (cps:=[(0,[_]),(1,[_]),(2,[_])]) (rs:=[_,_,_]) dV Z Z Z)<|za (zw (cps:=[(0,[_]),(1,[_]),(2,[_])]) (rs:=[_,_,_]) dV Z Z Z)<|za (zw (cps:=[(0,[_]),(1,[_]),(2,[_])]) (rs:=[_,_,_]) dV Z Z Z)<|za (zw (cps:=[(0,[_]),(1,[_]),(2,[_])]) (rs:=[_,_,_]) dV Z Z Z)<|za (zw (cps:=[(0,[_]),(1,[_]),(2,[_])]) (rs:=[_,_,_]) dV Z Z Z)<|za (zw (cps:=[(0,[_]),(1,[_]),(2,[_])]) (rs:=[_,_,_]) dV Z Z Z)<|za (zw (cps:=[(0,[_]),(1,[_]),(2,[_])]) (rs:=[_,_,_]) dV Z Z Z)<|za (zw (cps:=[(0,[_]),(1,[_]),(2,[_])]) (rs:=[_,_,_]) dV Z Z Z)<|za (zw (cps:=[(0,[_]),(1,[_]),(2,[_])]) (rs:=[_,_,_]) dV Z Z Z)<|za (zw (cps:=[(0,[_]),(1,[_]),(2,[_])]) (rs:=[_,_,_]) dV Z Z Z)<|za (zw (cps:=[(0,[_]),(1,[_]),(2,[_])]) (rs:=[_,_,_]) dV Z Z Z)<|za (zw (cps:=[(0,[_]),(1,[_]),(2,[_])]) (rs:=[_,_,_]) dV Z Z Z)<|za (zw (cps:=[(0,[_]),(1,[_]),(2,[_])]) (rs:=[_,_,_]) dV Z Z Z)<|y8 (rows:=[[_,_,_],[_,_,_],[_,_,_],[_,_,_],[_,_,_],[_,_,_],[_,_,_],[_,_,_],[_,_,_],[_,_,_],[_,_,_],[_,_,_],[_,_,_],[_,_,_],[_,_,_],[_,_,_],[_,_,_],[_,_,_],[_,_,_],[_,_,_],[_,_,_],[_,_,_],[_,_,_],[_,_,_],[_,_,_],[_,_,_],[_,_,_]]) AL Z Z Z Z Z<|za (w8 Z)<|z7<|zg<|zi (x:=.fro _ _) Z ?_
 rfl
theorem d7 (k n:Int):aT prog E 71 [.int .i64 k,.int .i64 n] (.bool (decide (0≤k)&&decide (k<n))):=by
 refine zo func71 Z (by decide) Z<|ai<|ad Z<|z7<|ai<|aa Z<|za (Gv.geq Z Z)<|aj Z<|zk (s:=7) Z (fun c18=>?_) (fun c18=>?_)
 ·refine z8 Z Z c18<|aa Z<|z8 Z Z c18<|aa Z<|z8 Z Z c18<|ay Z Z<|ak Z c18 Z<|ad Z<|z7<|zg<|zi (x:=.bool _) Z ?_
  exact jb (by simp_all<;>omega)
 ·refine z6 Z Z c18<|z6 Z Z c18<|z6 Z Z c18<|al Z c18 Z<|ad Z<|z7<|zg<|zi (x:=.bool _) Z ?_
  exact jb (by simp_all<;>omega)
def DZ (l:List UInt8):ByteArray:=⟨l.toArray⟩
end
end Go.Proofs.YtjpnhkmfhlnpcaaGreatDoor
