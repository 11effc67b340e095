/- The document's own functions: names, the table, digits, what is the same, what has a text. No conditions but bounds. -/
import Derived.Test.YtbanfokidalbaaaGreatDoorJe
import Derived.Test.YtbanfokidalbaaaGreatDoorJf
import Derived.Lib.ItoaLen
import Derived.Lib.Join
import Derived.Test.YtbanfokidalbaaaGreatDoorJd
set_option linter.unusedVariables false
set_option linter.unusedSimpArgs false
set_option linter.unusedSectionVars false
namespace Go.Proofs.YtbanfokidalbaaaGreatDoor
section
open Go.Proofs.Tryz
open Go.Proofs
theorem LY:mY prog 47 1 [.int .i64 0,.int .i64 0]:=⟨_,_,_,Z4,zeroValue47,ja,rfl⟩
set_option maxRecDepth 20000
variable {E:World}
def gH (f:ad) (x:aN):Bool:=decide ((b9 x.op).1=⟨#[]⟩)||!decide (x.args.length=(bq x.op).length)||!x.args.all (bz f)
def gO (f:ad) (x:aN):Bool:=(eK x.op&&!bz f x.dst)||(!eK x.op&&!decide (x.dst=-1))
def dJ (f:ad) (x:aN):Bool:=!gH f x&&!gO f x&&(decide (x.num=0)||pT x.op)
def cC (f:ad) (t:gA):Bool:=if t.kind=0 then eZ f t.to0&&decide (t.to1=0)&&decide (t.var=0) else if t.kind=1 then bz f t.var&&eZ f t.to0&&eZ f t.to1 else
 if t.kind=2 then bz f t.var&&decide (t.to0=0∧t.to1=0) else false
theorem wn (a b c d:Int) (w:World):(Op.equalIn 10000 47 (.agg [.int .i64 a,.int .i64 b].toArray) (.agg [.int .i64 c,.int .i64 d].toArray)).run prog w=.ok (decide (a=c∧b=d)) w:=Ks a b c d w 9998
theorem DA (f:ad) (x:aN) (hx:sv x.args):aJ prog E 164 [.agg (bL f),.agg (cK x)] (.bool (dJ f x)):=by
 have hl:=hx.lt
 refine zo func164 Z (by decide) Z<|ah<|yb (cs:=_) Z Z Z<|yb (cs:=_) Z Z Z<|ac Z<|z6<|ah<|ae j8 Z Zq Z Z<|ax Zz Z<|ze (pX _) Z<|za (m6 Z)<|za (mq Z Z)<|za (sH Z Z)<|ay Z<|ac Z<|z6<|zc<|zh<|zc<|y7 (fun j=>false) (by kernel_rfl) Z (zn (.rest _))<|au 0 Z (cA j8 Z Zq Z Z)<|au 1 Z (du Zz Z)<|aV 2 Z<|ze (Dd _) Z<|z6<|au 3 Z (Gv.eqlT Z Z)<|au 4 Z (l5 Z)<|q4 (s:=18) Z (fun c1=>?_) (fun c1=>?_)
 ·refine bi 5 Z Z Z c1<|bi 6 Z Z Z c1<|bi 7 Z Z Z c1<|bi 8 Z Z Z c1<|bi 9 Z Z Z c1<|bi 10 Z Z Z c1<|bi 11 Z Z Z c1<|bi 12 Z Z Z c1<|au 13 Z (oB Z c1 Z)<|au 14 Z (l5 Z)<|bi 15 Z Z Z Z<|bi 16 Z Z Z Z<|bi 17 Z Z Z Z<|bi 18 Z Z Z Z<|bi 19 Z Z Z Z<|au 20 Z (oB Z Z Z)<|au 21 Z (HM Z)<|bY<|yt Z Z<|ah<|ac Z<|z6<|zg<|zk (x:=.bool _) Z ?_
  exact jb (by simp_all[dJ,gH,gO,Int.ofNat_inj]<;>grind)
 ·refine bB 5 Z Z Z c1 (cA j8 Z jg Z Z)<|bB 6 Z Z Z c1 (iS jn Z)<|bB 7 Z Z Z c1 (Gv.lenM j9 Z)<|bB 8 Z Z Z c1 (cA j8 Z Zq Z Z)<|bB 9 Z Z Z c1 (du Zz Z)<|aV 10 Z<|z8 Z Z c1<|ze (pW _) Z<|z6<|bB 11 Z Z Z c1 (Gv.lenM underlying136 Z)<|bB 12 Z Z Z c1 (qn Z Z)<|au 13 Z (kY Z c1 Z)<|au 14 Z (l5 Z)<|q4 (s:=28) Z (fun c2=>?_) (fun c2=>?_)
  ·refine bi 15 Z Z Z c2<|bi 16 Z Z Z c2<|bi 17 Z Z Z c2<|bi 18 Z Z Z c2<|bi 19 Z Z Z c2<|au 20 Z (oB Z c2 Z)<|au 21 Z (HM Z)<|bY<|yt Z Z<|ah<|ac Z<|z6<|zg<|zk (x:=.bool _) Z ?_
   exact jb (by simp_all[dJ,gH,gO,Int.ofNat_inj]<;>grind)
  ·refine bB 15 Z Z Z c2 (yk jm jh Z Z)<|bB 16 Z Z Z c2 (cA j8 Z jg Z Z)<|bB 17 Z Z Z c2 (iS jn Z)<|aV 18 Z<|z8 Z Z c2<|ze (tj _ _ (by omega)) Z<|z6<|bB 19 Z Z Z c2 (Gv.not Z)<|au 20 Z (kY Z c2 Z)<|au 21 Z (HM Z)<|bY<|zt Z (fun c3=>?_) (fun c3=>?_)
   ·refine ah<|ac Z<|z6<|zg<|zk (x:=.bool _) Z ?_
    exact jb (by simp_all[dJ,gH,gO,Int.ofNat_inj]<;>grind)
   ·refine ah<|ai Z<|ai Z<|zm (s:=37) Z (fun c4=>?_) (fun c4=>?_)
    ·refine z8 Z Z c4<|ab jm jh Z Z<|z8 Z Z c4<|ae j8 Z ja Z Z<|z8 Z Z c4<|ax jc Z<|z8 Z Z c4<|ze (k8 _ _) Z<|z8 Z Z c4<|aF Z<|ap Z c4 Z<|ai Z<|zm (s:=44) Z (fun c5=>?_) (fun c5=>?_)
     ·refine z7 Z Z c5<|z7 Z Z c5<|z7 Z Z c5<|zb Z Z<|zb Z Z<|zb Z Z<|z7 Z Z c5<|ap Z c5 Z<|ac Z<|z6<|yt Z Z<|ah<|ac Z<|z6<|zg<|zk (x:=.bool _) Z ?_
      exact jb (by simp_all[dJ,gH,gO,Int.ofNat_inj]<;>grind)
     ·refine z8 Z Z c5<|ai Z<|z8 Z Z c5<|aF Z<|z8 Z Z c5<|ai Z<|zm (s:=47) Z (fun c6=>?_) (fun c6=>?_)
      ·refine z8 Z Z c6<|ae j8 Z ja Z Z<|z8 Z Z c6<|ax jc Z<|z8 Z Z c6<|aH Z Z<|z8 Z Z c5<|ap Z c6 Z<|aq Z c5 Z<|ac Z<|z6<|zt Z (fun c7=>?_) (fun c7=>?_)
       ·refine ah<|ac Z<|z6<|zg<|zk (x:=.bool _) Z ?_
        exact jb (by simp_all[dJ,gH,gO,Int.ofNat_inj]<;>grind)
       ·refine zd<|ah<|ae j8 Z ji Z Z<|ax jp Z<|aj Z Z<|ai Z<|zm (s:=56) Z (fun c8=>?_) (fun c8=>?_)
        ·refine z7 Z Z c8<|z7 Z Z c8<|z7 Z Z c8<|ap Z c8 Z<|ac Z<|z6<|zg<|zk (x:=.bool _) Z ?_
         exact jb (by simp_all[dJ,gH,gO,Int.ofNat_inj]<;>grind)
        ·refine z8 Z Z c8<|ae j8 Z Zq Z Z<|z8 Z Z c8<|ax Zz Z<|z8 Z Z c8<|ze (gv _) Z<|aq Z c8 Z<|ac Z<|z6<|zg<|zk (x:=.bool _) Z ?_
         exact jb (by simp_all[dJ,gH,gO,Int.ofNat_inj]<;>grind)
      ·refine z7 Z Z c6<|z7 Z Z c6<|z7 Z Z c6<|z8 Z Z c5<|aq Z c6 Z<|aq Z c5 Z<|ac Z<|z6<|yj Z Z<|zd<|ah<|ae j8 Z ji Z Z<|ax jp Z<|aj Z Z<|ai Z<|zm (s:=56) Z (fun c9=>?_) (fun c9=>?_)
       ·refine z7 Z Z c9<|z7 Z Z c9<|z7 Z Z c9<|ap Z c9 Z<|ac Z<|z6<|zg<|zk (x:=.bool _) Z ?_
        exact jb (by simp_all[dJ,gH,gO,Int.ofNat_inj]<;>grind)
       ·refine z8 Z Z c9<|ae j8 Z Zq Z Z<|z8 Z Z c9<|ax Zz Z<|z8 Z Z c9<|ze (gv _) Z<|aq Z c9 Z<|ac Z<|z6<|zg<|zk (x:=.bool _) Z ?_
        exact jb (by simp_all[dJ,gH,gO,Int.ofNat_inj]<;>grind)
    ·refine z7 Z Z c4<|z7 Z Z c4<|z7 Z Z c4<|z7 Z Z c4<|z7 Z Z c4<|aq Z c4 Z<|ai Z<|z8 Z Z Z<|ai Z<|z8 Z Z Z<|aF Z<|z8 Z Z Z<|ai Z<|zm (s:=47) Z (fun c10=>?_) (fun c10=>?_)
     ·refine z8 Z Z c10<|ae j8 Z ja Z Z<|z8 Z Z c10<|ax jc Z<|z8 Z Z c10<|aH Z Z<|z8 Z Z Z<|ap Z c10 Z<|aq Z Z Z<|ac Z<|z6<|zt Z (fun c11=>?_) (fun c11=>?_)
      ·refine ah<|ac Z<|z6<|zg<|zk (x:=.bool _) Z ?_
       exact jb (by simp_all[dJ,gH,gO,Int.ofNat_inj]<;>grind)
      ·refine zd<|ah<|ae j8 Z ji Z Z<|ax jp Z<|aj Z Z<|ai Z<|zm (s:=56) Z (fun c12=>?_) (fun c12=>?_)
       ·refine z7 Z Z c12<|z7 Z Z c12<|z7 Z Z c12<|ap Z c12 Z<|ac Z<|z6<|zg<|zk (x:=.bool _) Z ?_
        exact jb (by simp_all[dJ,gH,gO,Int.ofNat_inj]<;>grind)
       ·refine z8 Z Z c12<|ae j8 Z Zq Z Z<|z8 Z Z c12<|ax Zz Z<|z8 Z Z c12<|ze (gv _) Z<|aq Z c12 Z<|ac Z<|z6<|zg<|zk (x:=.bool _) Z ?_
        exact jb (by simp_all[dJ,gH,gO,Int.ofNat_inj]<;>grind)
     ·refine z7 Z Z c10<|z7 Z Z c10<|z7 Z Z c10<|z8 Z Z Z<|aq Z c10 Z<|aq Z Z Z<|ac Z<|z6<|yj Z Z<|zd<|ah<|ae j8 Z ji Z Z<|ax jp Z<|aj Z Z<|ai Z<|zm (s:=56) Z (fun c13=>?_) (fun c13=>?_)
      ·refine z7 Z Z c13<|z7 Z Z c13<|z7 Z Z c13<|ap Z c13 Z<|ac Z<|z6<|zg<|zk (x:=.bool _) Z ?_
       exact jb (by simp_all[dJ,gH,gO,Int.ofNat_inj]<;>grind)
      ·refine z8 Z Z c13<|ae j8 Z Zq Z Z<|z8 Z Z c13<|ax Zz Z<|z8 Z Z c13<|ze (gv _) Z<|aq Z c13 Z<|ac Z<|z6<|zg<|zk (x:=.bool _) Z ?_
       exact jb (by simp_all[dJ,gH,gO,Int.ofNat_inj]<;>grind)
theorem DB (f:ad) (t:gA):aJ prog E 165 [.agg (bL f),.agg (pp t)] (.bool (cC f t)):=by
 refine zo func165 Z (by decide) Z<|ah<|yb (cs:=_) Z Z Z<|yb (cs:=_) Z Z Z<|ac Z<|z6<|zc<|ah<|ae jj Z Yg Z Z<|ax Ys Z<|z6<|zh<|ah<|aj Z Z<|ac Z<|z6<|zt Z (fun c14=>?_) (fun c14=>?_)
 ·refine ah<|ab jm jh Z Z<|ae jj Z Zk Z Z<|za (yp (j:=0) Z4 ja Z Z Z (by decide) Z)<|ax jc Z<|ze (pq _ _) Z<|ai Z<|zm (s:=14) Z (fun c15=>?_) (fun c15=>?_)
  ·refine z8 Z Z c15<|ae jj Z Zk Z Z<|z8 Z Z c15<|za (yp (j:=1) Z4 ja Z Z Z (by decide) Z)<|z8 Z Z c15<|ax jc Z<|z8 Z Z c15<|aj Z Z<|ap Z c15 Z<|ai Z<|zm (s:=20) Z (fun c16=>?_) (fun c16=>?_)
   ·refine z8 Z Z c16<|ae jj Z ja Z Z<|z8 Z Z c16<|ax jc Z<|z8 Z Z c16<|aj Z Z<|ap Z c16 Z<|ac Z<|z6<|zg<|zk (x:=.bool _) Z ?_
    exact jb (by simp_all[cC]<;>grind)
   ·refine z7 Z Z c16<|z7 Z Z c16<|z7 Z Z c16<|aq Z c16 Z<|ac Z<|z6<|zg<|zk (x:=.bool _) Z ?_
    exact jb (by simp_all[cC]<;>grind)
  ·refine z7 Z Z c15<|z7 Z Z c15<|z7 Z Z c15<|z7 Z Z c15<|aq Z c15 Z<|ai Z<|z7 Z Z Z<|z7 Z Z Z<|z7 Z Z Z<|aq Z Z Z<|ac Z<|z6<|zg<|zk (x:=.bool _) Z ?_
   exact jb (by simp_all[cC]<;>grind)
 ·refine ah<|aj Z Z<|ac Z<|z6<|zt Z (fun c17=>?_) (fun c17=>?_)
  ·refine ah<|ab jm jh Z Z<|ae jj Z ja Z Z<|ax jc Z<|ze (k8 _ _) Z<|ai Z<|zm (s:=31) Z (fun c18=>?_) (fun c18=>?_)
   ·refine z8 Z Z c18<|ab jm jh Z Z<|z8 Z Z c18<|ae jj Z Zk Z Z<|z8 Z Z c18<|za (yp (j:=0) Z4 ja Z Z Z (by decide) Z)<|z8 Z Z c18<|ax jc Z<|z8 Z Z c18<|ze (pq _ _) Z<|ap Z c18 Z<|ai Z<|zm (s:=38) Z (fun c19=>?_) (fun c19=>?_)
    ·refine z8 Z Z c19<|ab jm jh Z Z<|z8 Z Z c19<|ae jj Z Zk Z Z<|z8 Z Z c19<|za (yp (j:=1) Z4 ja Z Z Z (by decide) Z)<|z8 Z Z c19<|ax jc Z<|z8 Z Z c19<|ze (pq _ _) Z<|ap Z c19 Z<|ac Z<|z6<|zg<|zk (x:=.bool _) Z ?_
     exact jb (by simp_all[cC]<;>grind)
    ·refine z7 Z Z c19<|z7 Z Z c19<|z7 Z Z c19<|z7 Z Z c19<|z7 Z Z c19<|aq Z c19 Z<|ac Z<|z6<|zg<|zk (x:=.bool _) Z ?_
     exact jb (by simp_all[cC]<;>grind)
   ·refine z7 Z Z c18<|z7 Z Z c18<|z7 Z Z c18<|z7 Z Z c18<|z7 Z Z c18<|aq Z c18 Z<|ai Z<|z7 Z Z Z<|z7 Z Z Z<|z7 Z Z Z<|z7 Z Z Z<|z7 Z Z Z<|aq Z Z Z<|ac Z<|z6<|zg<|zk (x:=.bool _) Z ?_
    exact jb (by simp_all[cC]<;>grind)
  ·refine ah<|aj Z Z<|ac Z<|z6<|zt Z (fun c20=>?_) (fun c20=>?_)
   ·refine ah<|ab jm jh Z Z<|ae jj Z ja Z Z<|ax jc Z<|ze (k8 _ _) Z<|ai Z<|zm (s:=51) Z (fun c21=>?_) (fun c21=>?_)
    ·refine z8 Z Z c21<|ae jj Z Zk Z Z<|z8 Z Z c21<|ab isAgg47 Zk Z Z<|z8 Z Z c21<|za (Gv.buildA (cps:=[]) (rs:=[.int .i64 0,.int .i64 0]) LY Z Z Z)<|z8 Z Z c21<|za (Gv.eqlP (xs:=[.int _ _,.int _ _]) (ys:=[.int _ _,.int _ _]) (by kernel_rfl) Z Z (fun w=>wn _ _ _ _ w))<|ap Z c21 Z<|ac Z<|z6<|zg<|zk (x:=.bool _) Z ?_
     exact jb (by simp_all[cC]<;>grind)
    ·refine z7 Z Z c21<|z7 Z Z c21<|z7 Z Z c21<|z7 Z Z c21<|aq Z c21 Z<|ac Z<|z6<|zg<|zk (x:=.bool _) Z ?_
     exact jb (by simp_all[cC]<;>grind)
   ·refine zd<|ah<|ac Z<|z6<|zg<|zk (x:=.bool _) Z ?_
    exact jb (by simp_all[cC]<;>grind)
def sN (s:ByteArray):List AV:=[.str s]
def b8 (E:World):Prop:=Lib.TabIs prog E "internal/strconv.uint64pow10" .u64 Lib.pow10Tab
theorem KF {P:Program} {name:String} {k:IntKind} {zs:List Int} {I:aT} {O:List (Nat × Obj)} {w:World} (h:Lib.TabIs P E name k zs) (hS:SL I O E w):Lib.TabIs P w name k zs:=by
 unfold Lib.TabIs World.var? at *
 cases hg:P.globalNamed name with
 |none=>rw[hg] at h;cases h
 |some g=>
  rw[hg] at h
  simp only[Option.bind_some] at h ⊢
  cases hh:E.heap[g]? with
  |none=>rw[hh] at h;cases h
  |some o=>rw[hh] at h;rw[hS.pers _ _ (hS.base _ _ hh)];exact h
end
section
open Go.Proofs.Tryz
open Go.Proofs Go.Lib Go.Shelf Go.RowKit
theorem dX:el prog 214 #[(0,1),(1,1),(2,1)] [.str ⟨#[]⟩,.str ⟨#[]⟩,.str ⟨#[]⟩]:=⟨_,_,Y7,Xa,fun w=>by kernel_rfl,rfl⟩
theorem F0:dM prog 215 214 27 3 [.str ⟨#[]⟩,.str ⟨#[]⟩,.str ⟨#[]⟩,.str ⟨#[]⟩,.str ⟨#[]⟩,.str ⟨#[]⟩,.str ⟨#[]⟩,.str ⟨#[]⟩,.str ⟨#[]⟩,.str ⟨#[]⟩,.str ⟨#[]⟩,.str ⟨#[]⟩,.str ⟨#[]⟩,.str ⟨#[]⟩,.str ⟨#[]⟩,.str ⟨#[]⟩,.str ⟨#[]⟩,.str ⟨#[]⟩,.str ⟨#[]⟩,.str ⟨#[]⟩,.str ⟨#[]⟩,.str ⟨#[]⟩,.str ⟨#[]⟩,.str ⟨#[]⟩,.str ⟨#[]⟩,.str ⟨#[]⟩,.str ⟨#[]⟩,.str ⟨#[]⟩,.str ⟨#[]⟩,.str ⟨#[]⟩,.str ⟨#[]⟩,.str ⟨#[]⟩,.str ⟨#[]⟩,.str ⟨#[]⟩,.str ⟨#[]⟩,.str ⟨#[]⟩,.str ⟨#[]⟩,.str ⟨#[]⟩,.str ⟨#[]⟩,.str ⟨#[]⟩,.str ⟨#[]⟩,.str ⟨#[]⟩,.str ⟨#[]⟩,.str ⟨#[]⟩,.str ⟨#[]⟩,.str ⟨#[]⟩,.str ⟨#[]⟩,.str ⟨#[]⟩,.str ⟨#[]⟩,.str ⟨#[]⟩,.str ⟨#[]⟩,.str ⟨#[]⟩,.str ⟨#[]⟩,.str ⟨#[]⟩,.str ⟨#[]⟩,.str ⟨#[]⟩,.str ⟨#[]⟩,.str ⟨#[]⟩,.str ⟨#[]⟩,.str ⟨#[]⟩,.str ⟨#[]⟩,.str ⟨#[]⟩,.str ⟨#[]⟩,.str ⟨#[]⟩,.str ⟨#[]⟩,.str ⟨#[]⟩,.str ⟨#[]⟩,.str ⟨#[]⟩,.str ⟨#[]⟩,.str ⟨#[]⟩,.str ⟨#[]⟩,.str ⟨#[]⟩,.str ⟨#[]⟩,.str ⟨#[]⟩,.str ⟨#[]⟩,.str ⟨#[]⟩,.str ⟨#[]⟩,.str ⟨#[]⟩,.str ⟨#[]⟩,.str ⟨#[]⟩,.str ⟨#[]⟩]:=⟨_,underlying215,Yu,Xa,by decide,by decide,by kernel_rfl⟩
set_option maxRecDepth 20000
variable {E:World}
def aE (E:World):Prop:=Lib.TabIs prog E "unicode.properties" .u8 Lib.propertiesTab∧RVar 1 letterT E
theorem lq (c:Int) (h1:-2147483648≤c) (h2:c≤2147483647) (hL:aE E):aJ prog E 206 [.int .i32 c] (.bool (isLetterU c)):=
 aJ.ofBelow (vs:=[.int .i32 c]) (r:=.bool (isLetterU c)) func206 rfl (by decide) rfl fun w hw=>Tryz.unicode_IsLetter_all c w h1 h2 (TabIs_below (g:=0) (by kernel_rfl) hL.1 hw) (RVar_below hL.2 hw)
theorem ei (s:ByteArray) (p:Nat):1≤(Utf8.decode s p).2∧(Utf8.decode s p).1≤2097151:=by
 have h256:∀k,(s.get! k).toNat<256:=fun k=>(s.get! k).toNat_lt
 unfold Utf8.decode
 dsimp only
 constructor
 ·repeat' split
  all_goals simp
 ·have h0:=h256 (p+0)
  have h1:=h256 (p+1)
  have h2:=h256 (p+2)
  have h3:=h256 (p+3)
  repeat' split
  all_goals (simp only[Utf8.runeError];omega)
def dK (c:Int) (n:Nat):Bool:=(isLetterU c&&!decide (c=65533))||(!decide ((n:Int)=0)&&((decide (48≤c)&&decide (c≤57))||decide (c=46)||decide (c=95)))
def eM (s:ByteArray) (p n:Nat):Bool:=
 if h:p<s.size then (if dK (Utf8.decode s p).1 n then eM s (p+(Utf8.decode s p).2) (n+1) else false) else decide ((1:Int)≤n)&&decide ((n:Int)≤16)
termination_by s.size - p
decreasing_by have:=(ei s p).1;omega
def no (s:ByteArray):Bool:=eM s 0 0
theorem tG (s:ByteArray) (hs:s.size≤140737488355328) (hL:aE E):aJ prog E 171 [.str s] (.bool (no s)):=by
 refine zo func171 Z (by decide) Z<|ah<|ac Z<|z6<|ah<|ay Z<|z6<|zc<|ah<|za (yl (v:=.str _) Z)<|az.rangeT Zw Z<|fun i8=>z6<|zh<|ya (γ:=Nat × Nat) [8] (fun g=>[(3,.int .i64 g.2)]) (fun g=>[(i8,.iter s g.1)]) (fun g=>eM s g.1 g.2=no s∧g.2≤g.1∧g.2≤s.size) (fun g=>s.size - g.1) (0,0) aG aC (⟨Z,Nat.le_refl _,qt _⟩) ?_
 rintro ⟨p,n⟩ ⟨hp,hn,hn2⟩
 try dsimp only at *
 by_cases hlt:p<s.size
 ·obtain ⟨hd1,hd2⟩:=ei s p
  have hstep:=hp
  rw[eM,dif_pos hlt] at hstep
  refine ah<|az.nextT Z .head hlt<|za (sH Z Z)<|z6<|zc<|yt Z Z<|zd<|zh<|ah<|za (mq Z Z)<|ay Z<|z6<|ah<|aa Z<|ze (lq _ (by omega) (by omega) hL) Z<|ai Z<|zm (s:=14) Z (fun c1=>?_) (fun c1=>?_)
  ·refine z8 Z Z c1<|aa Z<|z8 Z Z c1<|aH Z Z<|ap Z c1 Z<|ac Z<|z6<|zc<|ah<|ai Z<|aF Z<|ai Z<|zm (s:=20) Z (fun c2=>?_) (fun c2=>?_)
   ·refine z8 Z Z c2<|aa Z<|z8 Z Z c2<|aj Z Z<|z8 Z Z c2<|ai Z<|zm (s:=23) Z (fun c3=>?_) (fun c3=>?_)
    ·refine z7 Z Z c3<|z7 Z Z c3<|z7 Z Z c3<|zb Z Z<|zb Z Z<|z7 Z Z c3<|z7 Z Z c3<|z7 Z Z c3<|zb Z Z<|zb Z Z<|z7 Z Z c3<|z7 Z Z c3<|zb Z Z<|zb Z Z<|z7 Z Z c3<|z8 Z Z c2<|ap Z c3 Z<|ap Z c2 Z<|z6<|yt Z Z<|ah<|ac Z<|z6<|zg<|zk (x:=.bool _) Z ?_
     rw[if_neg (by simp_all[dK]<;>omega)] at hstep;exact jb hstep
    ·refine z8 Z Z c3<|aa Z<|z8 Z Z c3<|za (qa Z Z)<|z8 Z Z c3<|ai Z<|zm (s:=26) Z (fun c4=>?_) (fun c4=>?_)
     ·refine z8 Z Z c4<|aa Z<|z8 Z Z c4<|za (Gv.leq Z Z)<|z8 Z Z c3<|ap Z c4 Z<|z8 Z Z c3<|aF Z<|z8 Z Z c3<|ai Z<|zm (s:=31) Z (fun c5=>?_) (fun c5=>?_)
      ·refine z8 Z Z c5<|aa Z<|z8 Z Z c5<|aH Z Z<|z8 Z Z c3<|ap Z c5 Z<|z8 Z Z c3<|ai Z<|zm (s:=35) Z (fun c6=>?_) (fun c6=>?_)
       ·refine z8 Z Z c6<|aa Z<|z8 Z Z c6<|aH Z Z<|z8 Z Z c3<|ap Z c6 Z<|z8 Z Z c2<|aq Z c3 Z<|ap Z c2 Z<|z6<|zt Z (fun c7=>?_) (fun c7=>?_)
        ·refine ah<|ac Z<|z6<|zg<|zk (x:=.bool _) Z ?_
         rw[if_neg (by simp_all[dK]<;>omega)] at hstep;exact jb hstep
        ·refine zd<|aM<|aa Z<|aA Z Z<|ay Z<|z6 ?_
         exact ⟨(p+(Utf8.decode s p).2,n+1),aG,aG,aC,⟨by rw[if_pos (by simp_all[dK]<;>omega)] at hstep;exact hstep,by dsimp only;omega,by dsimp only;omega⟩,by dsimp only;omega⟩
       ·refine z7 Z Z c6<|z7 Z Z c6<|z8 Z Z c3<|aq Z c6 Z<|z8 Z Z c2<|aq Z c3 Z<|ap Z c2 Z<|z6<|yj Z Z<|zd<|aM<|aa Z<|aA Z Z<|ay Z<|z6 ?_
        exact ⟨(p+(Utf8.decode s p).2,n+1),aG,aG,aC,⟨by rw[if_pos (by simp_all[dK]<;>omega)] at hstep;exact hstep,by dsimp only;omega,by dsimp only;omega⟩,by dsimp only;omega⟩
      ·refine z7 Z Z c5<|z7 Z Z c5<|z8 Z Z c3<|aq Z c5 Z<|z8 Z Z c3<|ai Z<|z7 Z Z Z<|z7 Z Z Z<|z8 Z Z c3<|aq Z Z Z<|z8 Z Z c2<|aq Z c3 Z<|ap Z c2 Z<|z6<|yj Z Z<|zd<|aM<|aa Z<|aA Z Z<|ay Z<|z6 ?_
       exact ⟨(p+(Utf8.decode s p).2,n+1),aG,aG,aC,⟨by rw[if_pos (by simp_all[dK]<;>omega)] at hstep;exact hstep,by dsimp only;omega,by dsimp only;omega⟩,by dsimp only;omega⟩
     ·refine z7 Z Z c4<|z7 Z Z c4<|z8 Z Z c3<|aq Z c4 Z<|z8 Z Z c3<|aF Z<|z8 Z Z c3<|ai Z<|z8 Z Z Z<|aa Z<|z8 Z Z Z<|aH Z Z<|z8 Z Z c3<|ap Z Z Z<|z8 Z Z c3<|ai Z<|zm (s:=35) Z (fun c8=>?_) (fun c8=>?_)
      ·refine z8 Z Z c8<|aa Z<|z8 Z Z c8<|aH Z Z<|z8 Z Z c3<|ap Z c8 Z<|z8 Z Z c2<|aq Z c3 Z<|ap Z c2 Z<|z6<|zt Z (fun c9=>?_) (fun c9=>?_)
       ·refine ah<|ac Z<|z6<|zg<|zk (x:=.bool _) Z ?_
        rw[if_neg (by simp_all[dK]<;>omega)] at hstep;exact jb hstep
       ·refine zd<|aM<|aa Z<|aA Z Z<|ay Z<|z6 ?_
        exact ⟨(p+(Utf8.decode s p).2,n+1),aG,aG,aC,⟨by rw[if_pos (by simp_all[dK]<;>omega)] at hstep;exact hstep,by dsimp only;omega,by dsimp only;omega⟩,by dsimp only;omega⟩
      ·refine z7 Z Z c8<|z7 Z Z c8<|z8 Z Z c3<|aq Z c8 Z<|z8 Z Z c2<|aq Z c3 Z<|ap Z c2 Z<|z6<|yj Z Z<|zd<|aM<|aa Z<|aA Z Z<|ay Z<|z6 ?_
       exact ⟨(p+(Utf8.decode s p).2,n+1),aG,aG,aC,⟨by rw[if_pos (by simp_all[dK]<;>omega)] at hstep;exact hstep,by dsimp only;omega,by dsimp only;omega⟩,by dsimp only;omega⟩
   ·refine z7 Z Z c2<|z7 Z Z c2<|z7 Z Z c2<|zb Z Z<|zb Z Z<|zb Z Z<|zb Z Z<|zb Z Z<|zb Z Z<|zb Z Z<|zb Z Z<|zb Z Z<|zb Z Z<|zb Z Z<|zb Z Z<|zb Z Z<|zb Z Z<|zb Z Z<|z7 Z Z c2<|aq Z c2 Z<|z6<|yj Z Z<|zd<|aM<|aa Z<|aA Z Z<|ay Z<|z6 ?_
    exact ⟨(p+(Utf8.decode s p).2,n+1),aG,aG,aC,⟨by rw[if_pos (by simp_all[dK]<;>omega)] at hstep;exact hstep,by dsimp only;omega,by dsimp only;omega⟩,by dsimp only;omega⟩
  ·refine z7 Z Z c1<|z7 Z Z c1<|aq Z c1 Z<|ac Z<|z6<|zc<|ah<|ai Z<|aF Z<|ai Z<|z8 Z Z Z<|aa Z<|z8 Z Z Z<|aj Z Z<|z8 Z Z Z<|ai Z<|zm (s:=23) Z (fun c10=>?_) (fun c10=>?_)
   ·refine z7 Z Z c10<|z7 Z Z c10<|z7 Z Z c10<|zb Z Z<|zb Z Z<|z7 Z Z c10<|z7 Z Z c10<|z7 Z Z c10<|zb Z Z<|zb Z Z<|z7 Z Z c10<|z7 Z Z c10<|zb Z Z<|zb Z Z<|z7 Z Z c10<|z8 Z Z Z<|ap Z c10 Z<|ap Z Z Z<|z6<|yt Z Z<|ah<|ac Z<|z6<|zg<|zk (x:=.bool _) Z ?_
    rw[if_neg (by simp_all[dK]<;>omega)] at hstep;exact jb hstep
   ·refine z8 Z Z c10<|aa Z<|z8 Z Z c10<|za (qa Z Z)<|z8 Z Z c10<|ai Z<|zm (s:=26) Z (fun c11=>?_) (fun c11=>?_)
    ·refine z8 Z Z c11<|aa Z<|z8 Z Z c11<|za (Gv.leq Z Z)<|z8 Z Z c10<|ap Z c11 Z<|z8 Z Z c10<|aF Z<|z8 Z Z c10<|ai Z<|zm (s:=31) Z (fun c12=>?_) (fun c12=>?_)
     ·refine z8 Z Z c12<|aa Z<|z8 Z Z c12<|aH Z Z<|z8 Z Z c10<|ap Z c12 Z<|z8 Z Z c10<|ai Z<|zm (s:=35) Z (fun c13=>?_) (fun c13=>?_)
      ·refine z8 Z Z c13<|aa Z<|z8 Z Z c13<|aH Z Z<|z8 Z Z c10<|ap Z c13 Z<|z8 Z Z Z<|aq Z c10 Z<|ap Z Z Z<|z6<|zt Z (fun c14=>?_) (fun c14=>?_)
       ·refine ah<|ac Z<|z6<|zg<|zk (x:=.bool _) Z ?_
        rw[if_neg (by simp_all[dK]<;>omega)] at hstep;exact jb hstep
       ·refine zd<|aM<|aa Z<|aA Z Z<|ay Z<|z6 ?_
        exact ⟨(p+(Utf8.decode s p).2,n+1),aG,aG,aC,⟨by rw[if_pos (by simp_all[dK]<;>omega)] at hstep;exact hstep,by dsimp only;omega,by dsimp only;omega⟩,by dsimp only;omega⟩
      ·refine z7 Z Z c13<|z7 Z Z c13<|z8 Z Z c10<|aq Z c13 Z<|z8 Z Z Z<|aq Z c10 Z<|ap Z Z Z<|z6<|yj Z Z<|zd<|aM<|aa Z<|aA Z Z<|ay Z<|z6 ?_
       exact ⟨(p+(Utf8.decode s p).2,n+1),aG,aG,aC,⟨by rw[if_pos (by simp_all[dK]<;>omega)] at hstep;exact hstep,by dsimp only;omega,by dsimp only;omega⟩,by dsimp only;omega⟩
     ·refine z7 Z Z c12<|z7 Z Z c12<|z8 Z Z c10<|aq Z c12 Z<|z8 Z Z c10<|ai Z<|z7 Z Z Z<|z7 Z Z Z<|z8 Z Z c10<|aq Z Z Z<|z8 Z Z Z<|aq Z c10 Z<|ap Z Z Z<|z6<|yj Z Z<|zd<|aM<|aa Z<|aA Z Z<|ay Z<|z6 ?_
      exact ⟨(p+(Utf8.decode s p).2,n+1),aG,aG,aC,⟨by rw[if_pos (by simp_all[dK]<;>omega)] at hstep;exact hstep,by dsimp only;omega,by dsimp only;omega⟩,by dsimp only;omega⟩
    ·refine z7 Z Z c11<|z7 Z Z c11<|z8 Z Z c10<|aq Z c11 Z<|z8 Z Z c10<|aF Z<|z8 Z Z c10<|ai Z<|z8 Z Z Z<|aa Z<|z8 Z Z Z<|aH Z Z<|z8 Z Z c10<|ap Z Z Z<|z8 Z Z c10<|ai Z<|zm (s:=35) Z (fun c15=>?_) (fun c15=>?_)
     ·refine z8 Z Z c15<|aa Z<|z8 Z Z c15<|aH Z Z<|z8 Z Z c10<|ap Z c15 Z<|z8 Z Z Z<|aq Z c10 Z<|ap Z Z Z<|z6<|zt Z (fun c16=>?_) (fun c16=>?_)
      ·refine ah<|ac Z<|z6<|zg<|zk (x:=.bool _) Z ?_
       rw[if_neg (by simp_all[dK]<;>omega)] at hstep;exact jb hstep
      ·refine zd<|aM<|aa Z<|aA Z Z<|ay Z<|z6 ?_
       exact ⟨(p+(Utf8.decode s p).2,n+1),aG,aG,aC,⟨by rw[if_pos (by simp_all[dK]<;>omega)] at hstep;exact hstep,by dsimp only;omega,by dsimp only;omega⟩,by dsimp only;omega⟩
     ·refine z7 Z Z c15<|z7 Z Z c15<|z8 Z Z c10<|aq Z c15 Z<|z8 Z Z Z<|aq Z c10 Z<|ap Z Z Z<|z6<|yj Z Z<|zd<|aM<|aa Z<|aA Z Z<|ay Z<|z6 ?_
      exact ⟨(p+(Utf8.decode s p).2,n+1),aG,aG,aC,⟨by rw[if_pos (by simp_all[dK]<;>omega)] at hstep;exact hstep,by dsimp only;omega,by dsimp only;omega⟩,by dsimp only;omega⟩
 ·rw[eM,dif_neg hlt] at hp
  refine ah<|az.nextTover Z .head hlt<|za (sH Z Z)<|z6<|zc<|yj Z Z<|y9<|ah<|aa Z<|za (qa Z Z)<|ai Z<|zm (s:=45) Z (fun c17=>?_) (fun c17=>?_)
  ·refine z8 Z Z c17<|aa Z<|z8 Z Z c17<|za (Gv.leq Z Z)<|ap Z c17 Z<|ac Z<|z6<|zg<|zk (x:=.bool _) Z ?_
   rw[←hp];exact jb (by simp_all<;>(intros;omega))
  ·refine z7 Z Z c17<|z7 Z Z c17<|aq Z c17 Z<|ac Z<|z6<|zg<|zk (x:=.bool _) Z ?_
   rw[←hp];exact jb (by simp_all<;>(intros;omega))
theorem lP:aJ prog E 127 [] (.fro 3 (gz.map sF)):=by
 refine zo func127 Z (by decide) Z<|ah<|bV Z<|z6<|ah<|za (zz (cps:=[(0,[_]),(1,[_]),(2,[_])]) (rs:=[_,_,_]) dX Z Z Z)<|za (zz (cps:=[(0,[_]),(1,[_]),(2,[_])]) (rs:=[_,_,_]) dX Z Z Z)<|za (zz (cps:=[(0,[_]),(1,[_]),(2,[_])]) (rs:=[_,_,_]) dX Z Z Z)<|za (zz (cps:=[(0,[_]),(1,[_]),(2,[_])]) (rs:=[_,_,_]) dX Z Z Z)<|za (zz (cps:=[(0,[_]),(1,[_]),(2,[_])]) (rs:=[_,_,_]) dX Z Z Z)<|za (zz (cps:=[(0,[_]),(1,[_]),(2,[_])]) (rs:=[_,_,_]) dX Z Z Z)<|za (zz (cps:=[(0,[_]),(1,[_]),(2,[_])]) (rs:=[_,_,_]) dX Z Z Z)<|za (zz (cps:=[(0,[_]),(1,[_]),(2,[_])]) (rs:=[_,_,_]) dX Z Z Z)<|za (zz (cps:=[(0,[_]),(1,[_]),(2,[_])]) (rs:=[_,_,_]) dX Z Z Z)<|za (zz (cps:=[(0,[_]),(1,[_]),(2,[_])]) (rs:=[_,_,_]) dX Z Z Z)<|za (zz (cps:=[(0,[_]),(1,[_]),(2,[_])]) (rs:=[_,_,_]) dX Z Z Z)<|za (zz (cps:=[(0,[_]),(1,[_]),(2,[_])]) (rs:=[_,_,_]) dX Z Z Z)<|za (zz (cps:=[(0,[_]),(1,[_]),(2,[_])]) (rs:=[_,_,_]) dX Z Z Z)<|za (zz (cps:=[(0,[_]),(1,[_]),(2,[_])]) (rs:=[_,_,_]) dX Z Z Z)<|za (zz (cps:=[(0,[_]),(1,[_]),(2,[_])]) (rs:=[_,_,_]) dX Z Z Z)<|za (zz (cps:=[(0,[_]),(1,[_]),(2,[_])]) (rs:=[_,_,_]) dX Z Z Z)<|za (zz (cps:=[(0,[_]),(1,[_]),(2,[_])]) (rs:=[_,_,_]) dX Z Z Z)<|za (zz (cps:=[(0,[_]),(1,[_]),(2,[_])]) (rs:=[_,_,_]) dX Z Z Z)<|za (zz (cps:=[(0,[_]),(1,[_]),(2,[_])]) (rs:=[_,_,_]) dX Z Z Z)<|za (zz (cps:=[(0,[_]),(1,[_]),(2,[_])]) (rs:=[_,_,_]) dX Z Z Z)<|za (zz (cps:=[(0,[_]),(1,[_]),(2,[_])]) (rs:=[_,_,_]) dX Z Z Z)<|za (zz (cps:=[(0,[_]),(1,[_]),(2,[_])]) (rs:=[_,_,_]) dX Z Z Z)<|za (zz (cps:=[(0,[_]),(1,[_]),(2,[_])]) (rs:=[_,_,_]) dX Z Z Z)<|za (zz (cps:=[(0,[_]),(1,[_]),(2,[_])]) (rs:=[_,_,_]) dX Z Z Z)<|za (zz (cps:=[(0,[_]),(1,[_]),(2,[_])]) (rs:=[_,_,_]) dX Z Z Z)<|za (zz (cps:=[(0,[_]),(1,[_]),(2,[_])]) (rs:=[_,_,_]) dX Z Z Z)<|za (zz (cps:=[(0,[_]),(1,[_]),(2,[_])]) (rs:=[_,_,_]) dX Z Z Z)<|y8 (rows:=[[_,_,_],[_,_,_],[_,_,_],[_,_,_],[_,_,_],[_,_,_],[_,_,_],[_,_,_],[_,_,_],[_,_,_],[_,_,_],[_,_,_],[_,_,_],[_,_,_],[_,_,_],[_,_,_],[_,_,_],[_,_,_],[_,_,_],[_,_,_],[_,_,_],[_,_,_],[_,_,_],[_,_,_],[_,_,_],[_,_,_],[_,_,_]]) F0 Z Z Z Z Z<|za (iw Z)<|z6<|zg<|zk (x:=.fro _ _) Z ?_
 rfl
theorem gx (k n:Int):aJ prog E 172 [.int .i64 k,.int .i64 n] (.bool (decide (0≤k)&&decide (k<n))):=by
 refine zo func172 Z (by decide) Z<|ah<|ac Z<|z6<|ah<|aa Z<|za (qa Z Z)<|ai Z<|zm (s:=7) Z (fun c18=>?_) (fun c18=>?_)
 ·refine z8 Z Z c18<|aa Z<|z8 Z Z c18<|aa Z<|z8 Z Z c18<|aw Z Z<|ap Z c18 Z<|ac Z<|z6<|zg<|zk (x:=.bool _) Z ?_
  exact jb (by simp_all<;>omega)
 ·refine z7 Z Z c18<|z7 Z Z c18<|z7 Z Z c18<|aq Z c18 Z<|ac Z<|z6<|zg<|zk (x:=.bool _) Z ?_
  exact jb (by simp_all<;>omega)
def LZ (l:List UInt8):ByteArray:=⟨l.toArray⟩
end
end Go.Proofs.YtbanfokidalbaaaGreatDoor
