/- Typed; which blocks are reached; joined. Of programs that are little. -/
import Derived.Test.YtdilpodccjlkgaaGreatDoorLh
import Derived.Test.YtdilpodccjlkgaaGreatDoorLg
import Derived.Test.YtdilpodccjlkgaaGreatDoorLc
import Derived.Lib.MapLaws
import Derived.Test.YtdilpodccjlkgaaGreatDoorLf
set_option linter.unusedVariables false
set_option linter.unusedSimpArgs false
set_option linter.unusedSectionVars false
namespace Go.Proofs.YtdilpodccjlkgaaGreatDoor
open Go.Proofs.Tryz
open Go.Proofs Go.Lib Go.Shelf Go.RowKit
set_option maxRecDepth 20000
variable {E:World}
theorem Bu:∀r∈fX,r.1≠⟨#[]⟩:=by decide
theorem Bv {op:Int} (h:0≤op∧op≤26):(bS op).1≠⟨#[]⟩:=by
 have hm:bS op∈fX:=by
  unfold bS
  rw[if_pos h.1,qi (show _<27 by omega)]
  exact qm _
 exact Bu _ hm
theorem yZ:∀j:Nat,j<27→nA (j:Int)=(decide ((bS (j:Int)).1=⟨#[99,111,110,115,116]⟩)||decide ((bS (j:Int)).1=⟨#[112,105]⟩)):=by decide
theorem pM {x:aB} (h:0≤x.op∧x.op≤26):iO x=nA x.op:=by
 have:=yZ x.op.toNat (by omega)
 rw[Int.toNat_of_nonneg h.1] at this
 unfold iO;exact this.symm
theorem lX (op:Int):(bo op).length=(bS op).2.1.size:=by unfold bo;rw[qp];exact Array.length_toList
theorem wK (b:ByteArray):b.data.toList.isEmpty=decide (b=⟨#[]⟩):=by
 obtain ⟨⟨l⟩⟩:=b
 cases l<;>simp
theorem ke (op:Int):dU op=!decide ((bS op).2.2=⟨#[]⟩):=by unfold dU;rw[wK]
theorem wM {op:Int} (h:¬(0≤op∧op≤26)):bS op=(⟨#[]⟩,⟨#[]⟩,⟨#[]⟩):=sd (by unfold o7;simp;omega)
theorem nV (f:ad) (x:aB):dg f x=true↔nS f x:=by
 by_cases h:0≤x.op∧x.op≤26
 ·have hw:=Bv h
  have hn:=pM h
  unfold dg fP fZ nS lW
  rw[lX,ke,hn]
  by_cases h1:x.args.length=(bS x.op).2.1.size<;>by_cases h2:(bS x.op).2.2=⟨#[]⟩<;>by_cases h3:x.dst=-1<;>by_cases h4:x.num=0<;>by_cases h5:x.args.all (aT f)=true<;>simp_all[Int.ofNat_inj]<;>(try (unfold aT;simp))<;>(try grind)
 ·constructor
  ·intro h2
   have:=wM h
   unfold dg fP at h2
   rw[this] at h2;simp at h2
  ·intro h2;exact absurd ⟨h2.1,h2.2.1⟩ h
def only (f:ad) (x:aB):ad:={ f with blocks:=[⟨⟨#[111,110,108,121]⟩,[],[x],⟨0,0,0,0⟩⟩] }
def ended (f:ad) (b0:aN) (bs:List aN) (t:ft):ad:={ f with blocks:={ b0 with term:=t }::bs }
end Go.Proofs.YtdilpodccjlkgaaGreatDoor
namespace Go.Proofs.YtdilpodccjlkgaaGreatDoor
open Go.Proofs.Tryz
open Go.Proofs Go.Lib Go.Shelf Go.RowKit
set_option maxRecDepth 20000
variable {E:World}
def dZ (c:Int):Bool:=isLetterU c&&!decide (c=65533)
def nW (c:Int):Bool:=decide (48≤c)&&decide (c≤57)
def ef (c:Int):Bool:=dZ c||(nW c||(decide (c=46)||decide (c=95)))
theorem lx (c:Int) (h1:-2147483648≤c) (h2:c≤2147483647) (hL:bn E):aI prog E 212 [.int .i32 c] (.bool (dZ c)):=by
 refine zo func212 Z (by decide) Z<|ah<|ab Z<|z6<|ah<|aa Z<|zf (mr c h1 h2 hL) Z<|ai Z<|zp (s:=5) Z (fun c1=>?_) (fun c1=>?_)
 ·refine z8 Z Z c1<|aa Z<|z8 Z Z c1<|aL Z Z<|ar Z c1 Z<|ab Z<|z6<|zh<|zk (x:=.bool _) Z ?_
  exact jb (by simp_all[dZ])
 ·refine z7 Z Z c1<|z7 Z Z c1<|au Z c1 Z<|ab Z<|z6<|zh<|zk (x:=.bool _) Z ?_
  exact jb (by simp_all[dZ])
theorem sC (c:Int):aI prog E 220 [.int .i32 c] (.bool (nW c)):=by
 refine zo func220 Z (by decide) Z<|ah<|ab Z<|z6<|ah<|aa Z<|za (q3 Z Z)<|ai Z<|zp (s:=5) Z (fun c2=>?_) (fun c2=>?_)
 ·refine z8 Z Z c2<|aa Z<|z8 Z Z c2<|za (Gv.leq Z Z)<|ar Z c2 Z<|ab Z<|z6<|zh<|zk (x:=.bool _) Z ?_
  exact jb (by simp_all[nW]<;>(intros;omega))
 ·refine z7 Z Z c2<|z7 Z Z c2<|au Z c2 Z<|ab Z<|z6<|zh<|zk (x:=.bool _) Z ?_
  exact jb (by simp_all[nW]<;>(intros;omega))
theorem ms (c:Int) (h1:-2147483648≤c) (h2:c≤2147483647) (hL:bn E):aI prog E 213 [.int .i32 c] (.bool (ef c)):=by
 refine zo func213 Z (by decide) Z<|ah<|ab Z<|z6<|ah<|aa Z<|zf (lx c h1 h2 hL) Z<|ai Z<|zp (s:=5) Z (fun c3=>?_) (fun c3=>?_)
 ·refine z7 Z Z c3<|z7 Z Z c3<|ar Z c3 Z<|ai Z<|z7 Z Z Z<|z7 Z Z Z<|ar Z Z Z<|ai Z<|z7 Z Z Z<|z7 Z Z Z<|ar Z Z Z<|ab Z<|z6<|zh<|zk (x:=.bool _) Z ?_
  exact jb (by simp_all[ef])
 ·refine z8 Z Z c3<|aa Z<|z8 Z Z c3<|zf (sC _) Z<|au Z c3 Z<|ai Z<|zp (s:=9) Z (fun c4=>?_) (fun c4=>?_)
  ·refine z7 Z Z c4<|z7 Z Z c4<|ar Z c4 Z<|ai Z<|z7 Z Z Z<|z7 Z Z Z<|ar Z Z Z<|ab Z<|z6<|zh<|zk (x:=.bool _) Z ?_
   exact jb (by simp_all[ef])
  ·refine z8 Z Z c4<|aa Z<|z8 Z Z c4<|ak Z Z<|au Z c4 Z<|ai Z<|zp (s:=13) Z (fun c5=>?_) (fun c5=>?_)
   ·refine z7 Z Z c5<|z7 Z Z c5<|ar Z c5 Z<|ab Z<|z6<|zh<|zk (x:=.bool _) Z ?_
    exact jb (by simp_all[ef])
   ·refine z8 Z Z c5<|aa Z<|z8 Z Z c5<|ak Z Z<|au Z c5 Z<|ab Z<|z6<|zh<|zk (x:=.bool _) Z ?_
    exact jb (by simp_all[ef])
def bA (s:ByteArray) (p:Nat):List Int:=if h:p<s.size then ((Utf8.decode s p).1:Int)::bA s (p+(Utf8.decode s p).2) else[]
termination_by s.size - p
decreasing_by have:=(dR s p).1;omega
theorem em {s:ByteArray} {p:Nat} (h:p<s.size):bA s p=((Utf8.decode s p).1:Int)::bA s (p+(Utf8.decode s p).2):=by rw[bA,dif_pos h]
theorem cN {s:ByteArray} {p:Nat} (h:¬p<s.size):bA s p=[]:=by rw[bA,dif_neg h]
theorem pb (s:ByteArray):∀k p,s.size - p≤k→(bA s p).length≤k:=by
 intro k
 induction k with
 |zero=>intro p h;rw[cN (by omega)];simp
 |succ k ih=>
  intro p h
  by_cases hp:p<s.size
  ·rw[em hp]
   have:=(dR s p).1
   have:=ih (p+(Utf8.decode s p).2) (by omega)
   simp;omega
  ·rw[cN hp];simp
theorem ul (s:ByteArray) (hs:s.size≤140737488355328):aI prog E 214 [.str s] (.int .i64 (bA s 0).length):=by
 have h0:=pb s s.size 0 (by omega)
 refine zo func214 Z (by decide) Z<|ah<|ao Z<|z6<|ah<|ao Z<|z6<|zd<|ah<|za (yr (v:=.str _) Z)<|ax.rangeT Zi Z<|fun i5=>z6<|zj<|y8 (γ:=Nat × Nat) [5] (fun g=>[(3,.int .i64 g.2)]) (fun g=>[(i5,.iter s g.1)]) (fun g=>g.2+(bA s g.1).length=(bA s 0).length) (fun g=>s.size - g.1) (0,0) aJ aE (by simp) ?_
 rintro ⟨p,n⟩ hp
 try dsimp only at *
 by_cases hlt:p<s.size
 ·have hd:=(dR s p).1
  rw[em hlt] at hp
  simp only[List.length_cons] at hp
  refine ah<|ax.nextT Z .head hlt<|za (ij Z Z)<|z6<|zd<|yl Z Z<|zg<|zj<|aV<|aa Z<|aC Z Z<|ao Z<|z6 ?_
  exact ⟨(p+(Utf8.decode s p).2,n+1),aJ,aJ,aE,by dsimp only;omega,by dsimp only;omega⟩
 ·rw[cN hlt] at hp
  simp only[List.length_nil] at hp
  refine ah<|ax.nextTover Z .head hlt<|za (ij Z Z)<|z6<|zd<|ye Z Z<|y7<|ah<|aa Z<|ao Z<|z6<|zh<|zk (x:=.int _ _) Z ?_
  exact congrArg (AV.int .i64) (by omega)
def nX (s:ByteArray) (p:Nat):Bool:=if h:p<s.size then (if (decide (p=0)&&!dZ ((Utf8.decode s p).1:Int))||!ef ((Utf8.decode s p).1:Int) then false else nX s (p+(Utf8.decode s p).2)) else (decide (¬s=⟨#[]⟩)&&decide (((bA s 0).length:Int)≤16))
termination_by s.size - p
decreasing_by have:=(dR s p).1;omega
def eg (s:ByteArray):Bool:=nX s 0
theorem um (s:ByteArray) (hs:s.size≤140737488355328) (hL:bn E):aI prog E 198 [.str s] (.bool (eg s)):=by
 refine zo func198 Z (by decide) Z<|ah<|ab Z<|z6<|zd<|ah<|za (yr (v:=.str _) Z)<|ax.rangeT Zi Z<|fun i6=>z6<|zj<|y8 (γ:=Nat) [0,6] (fun p=>[]) (fun p=>[(i6,.iter s p)]) (fun p=>nX s p=eg s) (fun p=>s.size - p) 0 trivial aE (Z) ?_
 rintro p hp
 by_cases hlt:p<s.size
 ·obtain ⟨hd1,hd2⟩:=dR s p
  have hstep:=hp
  rw[nX,dif_pos hlt] at hstep
  refine ah<|ax.nextT Z .head hlt<|za (ij Z Z)<|z6<|zd<|yl Z Z<|zg<|zj<|ah<|za (iJ Z Z)<|za (iJ Z Z)<|ao Z<|ao Z<|z6<|ah<|aa Z<|ak Z Z<|ai Z<|zp (s:=13) Z (fun c6=>?_) (fun c6=>?_)
  ·refine z8 Z Z c6<|aa Z<|z8 Z Z c6<|zf (lx _ (by omega) (by omega) hL) Z<|z8 Z Z c6<|aD Z<|ar Z c6 Z<|ai Z<|zp (s:=18) Z (fun c7=>?_) (fun c7=>?_)
   ·refine z7 Z Z c7<|z7 Z Z c7<|z7 Z Z c7<|ar Z c7 Z<|z6<|yl Z Z<|ah<|ab Z<|z6<|zh<|zk (x:=.bool _) Z ?_
    rw[if_pos (by simp_all<;>omega)] at hstep;exact jb hstep
   ·refine z8 Z Z c7<|aa Z<|z8 Z Z c7<|zf (ms _ (by omega) (by omega) hL) Z<|z8 Z Z c7<|aD Z<|au Z c7 Z<|z6<|zu Z (fun c8=>?_) (fun c8=>?_)
    ·refine ah<|ab Z<|z6<|zh<|zk (x:=.bool _) Z ?_
     rw[if_pos (by simp_all<;>omega)] at hstep;exact jb hstep
    ·refine zg ?_
     exact ⟨p+(Utf8.decode s p).2,eZ,trivial,aE,by rw[if_neg (by simp_all<;>omega)] at hstep;exact hstep,by omega⟩
  ·refine z7 Z Z c6<|z7 Z Z c6<|z7 Z Z c6<|au Z c6 Z<|ai Z<|z8 Z Z Z<|aa Z<|z8 Z Z Z<|zf (ms _ (by omega) (by omega) hL) Z<|z8 Z Z Z<|aD Z<|au Z Z Z<|z6<|zu Z (fun c9=>?_) (fun c9=>?_)
   ·refine ah<|ab Z<|z6<|zh<|zk (x:=.bool _) Z ?_
    rw[if_pos (by simp_all<;>omega)] at hstep;exact jb hstep
   ·refine zg ?_
    exact ⟨p+(Utf8.decode s p).2,eZ,trivial,aE,by rw[if_neg (by simp_all<;>omega)] at hstep;exact hstep,by omega⟩
 ·rw[nX,dif_neg hlt] at hp
  refine ah<|ax.nextTover Z .head hlt<|za (ij Z Z)<|z6<|zd<|ye Z Z<|y7<|ah<|za (yr (v:=.str _) Z)<|za (Gv.neqT Z Z)<|ai Z<|zp (s:=25) Z (fun c10=>?_) (fun c10=>?_)
  ·refine z8 Z Z c10<|za (yr (v:=.str _) Z)<|z8 Z Z c10<|zf (ul _ (by assumption)) Z<|z8 Z Z c10<|za (Gv.leq Z Z)<|ar Z c10 Z<|ab Z<|z6<|zh<|zk (x:=.bool _) Z ?_
   rw[←hp];exact jb (by simp_all<;>(try omega))
  ·refine z7 Z Z c10<|z7 Z Z c10<|z7 Z Z c10<|au Z c10 Z<|ab Z<|z6<|zh<|zk (x:=.bool _) Z ?_
   rw[←hp];exact jb (by simp_all<;>(try omega))
end Go.Proofs.YtdilpodccjlkgaaGreatDoor
namespace Go.Proofs.YtdilpodccjlkgaaGreatDoor
open Go.Proofs.Tryz
open Go.Proofs Go.Lib Go.Shelf Go.RowKit
set_option maxRecDepth 20000
variable {E:World}
def iy (t:Int):ByteArray:=if t=0 then ⟨#[105,110,116]⟩ else if t=1 then ⟨#[98,111,111,108]⟩ else if t=2 then ⟨#[97,114,114]⟩ else ⟨#[]⟩
theorem Bw (s:ByteArray):D1 s.data.toList=s:=by unfold D1;simp
def vC:List Int→Bool
 |[]=>false
 |c::rs=>dZ c&&(rs.all ef&&decide (rs.length+1≤16))
theorem qT {c:Int} (h:dZ c=true):ef c=true:=by unfold ef;rw[h];rfl
theorem zA (s:ByteArray):∀(n p:Nat),s.size - p≤n→0<p→p≤s.size→nX s p=((bA s p).all ef&&decide ((bA s 0).length≤16)):=by
 intro n
 induction n with
 |zero=>
  intro p h hp hps
  have hne:¬s=⟨#[]⟩:=fun e=>by subst e;have:p≤0:=hps;omega
  rw[nX,dif_neg (by omega),cN (p:=p) (by omega)]
  simp[hne];omega
 |succ n ih=>
  intro p h hp hps
  by_cases hlt:p<s.size
  ·have hd:=(dR s p).1
   have hw:p+(Utf8.decode s p).2≤s.size:=by
    have:=decodeL_le (s.data.toList.drop p) (by intro e;have:=congrArg List.length e;rw[List.length_drop] at this;have h2:s.data.toList.length=s.size:=Array.length_toList;simp only[List.length_nil] at this;omega)
    rw[decodeL_drop,List.length_drop] at this
    have h2:s.data.toList.length=s.size:=Array.length_toList
    omega
   rw[nX,dif_pos hlt,em hlt,List.all_cons]
   have hp0:decide (p=0)=false:=qw (by omega)
   rw[hp0,Bool.false_and,Bool.false_or]
   cases hi:ef ((Utf8.decode s p).1:Int) with
   |false=>simp
   |true=>rw[if_neg (by simp),ih _ (by omega) (by omega) hw];simp
  ·have hne:¬s=⟨#[]⟩:=fun e=>by subst e;have:p≤0:=hps;omega
   rw[nX,dif_neg hlt,cN (p:=p) hlt]
   simp[hne];omega
theorem Bx {s:ByteArray} {p:Nat} (hlt:p<s.size):p+(Utf8.decode s p).2≤s.size:=by
 have h2:s.data.toList.length=s.size:=Array.length_toList
 have:=decodeL_le (s.data.toList.drop p) (by intro e;have:=congrArg List.length e;rw[List.length_drop] at this;simp only[List.length_nil] at this;omega)
 rw[decodeL_drop,List.length_drop] at this
 omega
theorem un (s:ByteArray):eg s=vC (bA s 0):=by
 unfold eg
 by_cases hlt:0<s.size
 ·have hd:=(dR s 0).1
  have hw:=Bx hlt
  have hr:=em hlt
  have hl:=congrArg List.length hr
  rw[List.length_cons] at hl
  rw[nX,dif_pos hlt]
  have h2:vC (bA s 0)=(dZ ((Utf8.decode s 0).1:Int)&&((bA s (0+(Utf8.decode s 0).2)).all ef&&decide ((bA s (0+(Utf8.decode s 0).2)).length+1≤16))):=by rw[hr];rfl
  rw[h2]
  cases hc:dZ ((Utf8.decode s 0).1:Int) with
  |false=>simp
  |true=>
   rw[qT hc,if_neg (by simp),zA s _ _ (Nat.le_refl _) (by omega) hw,hl];rfl
 ·rw[nX,dif_neg hlt,cN hlt]
  have:s=⟨#[]⟩:=by
   have h2:s.data.toList.length=s.size:=Array.length_toList
   have h3:s.data.toList=[]:=List.eq_nil_of_length_eq_zero (by omega)
   rw[←Bw s,h3];rfl
  simp[this,vC]
theorem vD (k:Nat):(decide ((1:Int)≤((k+1:Nat):Int))&&decide (((k+1:Nat):Int)≤16))=(([]:List Int).all ef&&decide (k+1+([]:List Int).length≤16)):=by
 rw[qv (by omega),Bool.true_and]
 show _=(true&&_)
 rw[Bool.true_and,decide_eq_decide]
 show ((k+1:Nat):Int)≤16↔k+1+0≤16
 omega
theorem qU (s:ByteArray):∀(n p k:Nat),s.size - p≤n→ed s p (k+1)=((bA s p).all ef&&decide (k+1+(bA s p).length≤16)):=by
 intro n
 induction n with
 |zero=>
  intro p k h
  rw[ed,dif_neg (by omega),cN (by omega)]
  exact vD k
 |succ n ih=>
  intro p k h
  by_cases hlt:p<s.size
  ·have hd:=(dR s p).1
   rw[ed,dif_pos hlt,em hlt,List.all_cons]
   have ho:dh ((Utf8.decode s p).1:Int) (k+1)=ef ((Utf8.decode s p).1:Int):=by
    unfold dh ef dZ nW
    have:decide (((k+1:Nat):Int)=0)=false:=qw (by omega)
    rw[this];simp[Bool.or_assoc]
   rw[ho]
   cases hi:ef ((Utf8.decode s p).1:Int) with
   |false=>simp
   |true=>rw[if_pos rfl,ih _ _ (by omega),Bool.true_and,List.length_cons];congr 2;simp;omega
  ·rw[ed,dif_neg hlt,cN hlt]
   exact vD k
theorem Bz (s:ByteArray):lu s=vC (bA s 0):=by
 unfold lu
 by_cases hlt:0<s.size
 ·rw[ed,dif_pos hlt,em hlt]
  have ho:dh ((Utf8.decode s 0).1:Int) 0=dZ ((Utf8.decode s 0).1:Int):=by unfold dh dZ;simp
  rw[ho]
  show _=(dZ ((Utf8.decode s 0).1:Int)&&_)
  cases hc:dZ ((Utf8.decode s 0).1:Int) with
  |false=>simp
  |true=>rw[if_pos rfl,qU s _ _ _ (Nat.le_refl _),Bool.true_and];congr 2;simp;omega
 ·rw[ed,dif_neg hlt,cN hlt];rfl
theorem m9 (s:ByteArray):lu s=eg s:=by rw[Bz,un]
structure cW (f:ad) (x:aB):Prop where
 op:0≤x.op∧x.op≤26
 len:x.args.length=(bo x.op).length
 dst:(dU x.op=false∧x.dst=-1)∨(dU x.op=true∧x.dst≠-1∧aT f x.dst=true)
 num:nA x.op=false→x.num=0
 args:∀a∈x.args,aT f a=true
theorem fK {f:ad} {x:aB} (h:nS f x):cW f x:=by
 obtain ⟨h1,h2,h3,h4⟩:=h
 have hw:=pM ⟨h1,h2⟩
 unfold lW at h3
 simp only[Bool.or_eq_false_iff,Bool.not_eq_false',w1,Bool.and_eq_false_iff,beq_iff_eq] at h3
 obtain ⟨g1,g2,g3,g4⟩:=h3
 refine ⟨⟨h1,h2⟩,by rw[lX];omega,?_,fun hn=>?_,List.all_eq_true.1 h4⟩
 ·rw[ke]
  by_cases hd:x.dst=-1
  ·left
   rw[qv hd] at g2
   exact ⟨by rw[g2];rfl,hd⟩
  ·right
   rw[qw hd] at g2
   refine ⟨by rw[g2];rfl,hd,?_⟩
   rcases g3 with g|g
   ·exact absurd g hd
   ·exact g
 ·rcases g4 with g|g
  ·exact g
  ·rw[hw,hn] at g;cases g
theorem sD (t:Int):aI prog E 174 [.int .i64 t] (.str (iy t)):=by
 refine zo func174 Z (by decide) Z<|ah<|za (qa (v:=.str _) Z)<|z6<|zd<|ah<|aa Z<|z6<|zj<|ah<|ak Z Z<|ab Z<|z6<|zu Z (fun c1=>?_) (fun c1=>?_)
 ·refine ah<|za (qa (v:=.str _) Z)<|z6<|zh<|zk (x:=.str _) Z ?_
  exact congrArg AV.str (by simp_all[iy])
 ·refine ah<|ak Z Z<|ab Z<|z6<|zu Z (fun c2=>?_) (fun c2=>?_)
  ·refine ah<|za (qa (v:=.str _) Z)<|z6<|zh<|zk (x:=.str _) Z ?_
   exact congrArg AV.str (by simp_all[iy])
  ·refine ah<|ak Z Z<|ab Z<|z6<|zu Z (fun c3=>?_) (fun c3=>?_)
   ·refine ah<|za (qa (v:=.str _) Z)<|z6<|zh<|zk (x:=.str _) Z ?_
    exact congrArg AV.str (by simp_all[iy])
   ·refine zg<|ah<|za (qa (v:=.str _) Z)<|z6<|zh<|zk (x:=.str _) Z ?_
    exact congrArg AV.str (by simp_all[iy])
end Go.Proofs.YtdilpodccjlkgaaGreatDoor
namespace Go.Proofs.YtdilpodccjlkgaaGreatDoor
open Go.Proofs.Tryz
open Go.Proofs Go.Lib Go.Shelf Go.RowKit
theorem vE:cF prog 242 9 1 1 [.str ⟨#[]⟩]:=⟨_,Y7,Zu,zeroValue9,by decide,by decide,by kernel_rfl⟩
set_option maxRecDepth 20000
variable {E:World}
def sE (s:ByteArray) (l:List ByteArray):Bool:=l.any fun t=>decide (t=s)
theorem vF {s:ByteArray} {l:List ByteArray}:sE s l=true↔s∈l:=by
 unfold sE;rw[List.any_eq_true]
 constructor
 ·rintro ⟨x,hx,h⟩;have h:x=s:=by simpa using h
  exact h▸hx
 ·intro h;exact ⟨s,h,by simp⟩
theorem zB {s t:ByteArray} {l:List ByteArray}:sE s (l++[t])=(sE s l||decide (t=s)):=by unfold sE;rw[List.any_append];simp
def uo (l:List ByteArray):Prop:=∀i (h:i<l.length),eg l[i]=true∧sE l[i] (l.take i)=false
instance (l:List ByteArray):Decidable (uo l):=by unfold uo;infer_instance
theorem vG {t:ByteArray} {l:List ByteArray} {mt:Int} (ht:mt=if sE t l=true then 1 else 0) (hc:decide (0<mt)=false):sE t l=false:=by
 have hc:=of_decide_eq_false hc
 cases h:sE t l with
 |true=>rw[h] at ht;simp at ht;omega
 |false=>rfl
theorem zC {s t:ByteArray} {l:List ByteArray} {m:Option Int} {mt:Int} (hs:m.getD 0=if sE s l=true then 1 else 0) (ht:mt=if sE t l=true then 1 else 0) (hc:decide (0<mt)=false) :
  (if s=t then some (mt+1) else m).getD 0=if (sE s l||decide (t=s))=true then 1 else 0:=by
 have h:=vG ht hc
 rw[h] at ht
 have ht:mt=0:=by simpa using ht
 by_cases e:s=t
 ·subst e;simp[ht]
 ·rw[if_neg e,hs]
  have e2:¬t=s:=fun h=>e h.symm
  simp[e2]
theorem zD {l:List ByteArray} {k:Nat} (hn:∀i (h:i<l.length),i<k→eg l[i]=true∧sE l[i] (l.take i)=false) (hk:k<l.length) (h1:eg l[k]=true) (h2:sE l[k] (l.take k)=false) :
  ∀i (h:i<l.length),i<k+1→eg l[i]=true∧sE l[i] (l.take i)=false:=fun i h hi=>by
 by_cases e:i=k
 ·subst e;exact ⟨h1,h2⟩
 ·exact hn i h (by omega)
theorem mu (l:List ByteArray) (hl:l.length≤100000000) (hs:∀s∈l,s.size≤140737488355328) (hL:bn E):aI prog E 175 [.fro 1 (l.map pa)] (.bool (decide (uo l))):=by
 refine zo func175 Z (by decide) Z<|ah<|ab Z<|z6<|ah<|ax.makeMap<|fun b6=>za (qa (v:=cT _) Z)<|z6<|zd<|ah<|bb Z<|ap Y7 Z<|aa Z<|z6<|zj<|y8 (γ:=Nat × List (ByteArray × Int)) [3,7,8] (fun g=>[(9,.int .i64 g.1)]) (fun g=>[(0,wj b6 g.2)]) (fun g=>g.1≤l.length∧(∀i (h:i<l.length),i<g.1→eg l[i]=true∧sE l[i] (l.take i)=false)∧∀s,(iT s g.2).getD 0=if sE s (l.take g.1)=true then 1 else 0) (fun g=>l.length - g.1) (0,[]) aJ aE (⟨ql _,fun i h h2=>absurd h2 (Nat.not_lt_zero _),fun s=>Z⟩) ?_
 rintro ⟨k,es⟩ ⟨hk,hn,hm⟩
 try dsimp only at *
 refine ah<|aw Z Z<|z6<|zd<|zw Z (fun ck=>?_) (fun ck=>?_)
 ·have hk2:k<l.length:=by omega
  have hmk:=hm l[k]
  have hz:=hs _ (qm hk2)
  refine zg<|zd<|zj<|ah<|za (bx k Y7 Zu Z Z Z (qi hk2))<|za (yo (c:=.str _) Y0 Z)<|za (qa (v:=.str _) Z)<|z6<|zd<|ah<|za (yr (v:=.str _) Z)<|zf (um _ hz hL) Z<|aD Z<|ai Z<|zp (s:=16) Z (fun c1=>?_) (fun c1=>?_)
  ·refine z7 Z Z c1<|z7 Z Z c1<|z7 Z Z c1<|z7 Z Z c1<|ar Z c1 Z<|z6<|yl Z Z<|ah<|ab Z<|z6<|zh<|zk (x:=.bool _) Z ?_
   exact jb (qw fun h=>by have h:=h k hk2;simp_all).symm
  ·refine z8 Z Z c1<|za (yr (v:=cT _) Z)<|z8 Z Z c1<|za (yr (v:=.str _) Z)<|z8 Z Z c1<|za (Gv.lookup1S underlying274 Zi Zk Z Z ⟨_,.head⟩)<|z8 Z Z c1<|za (yx Z Z)<|au Z c1 Z<|z6<|zu Z (fun c2=>?_) (fun c2=>?_)
   ·refine ah<|ab Z<|z6<|zh<|zk (x:=.bool _) Z ?_
    exact jb (qw fun h=>by have h:=h k hk2;simp_all).symm
   ·refine zg<|aV<|za (yr (v:=cT _) Z)<|za (yr (v:=.str _) Z)<|za (Gv.lookup1S underlying274 Zi Zk Z Z ⟨_,.head⟩)<|za (Gv.add Z Z (by first|(unfold oV;omega)|(unfold oV;rw[hmk];split<;>omega)))<|ax.mapSet underlying274 Zi Z Z Z .head<|z6<|aV<|za (Gv.add Z Z (by first|(unfold oV;omega)|(unfold oV;rw[hmk];split<;>omega)))<|aa Z<|z6 ?_
    exact ⟨(k+1,mJ l[k] ((iT l[k] es).getD 0+1) es),dy,aJ,aE,⟨hk2,zD hn hk2 (by simpa using c1) (vG hmk (by assumption)),fun s=>by dsimp only;rw[rS,qj hk2,zB];exact zC (hm s) hmk (by assumption)⟩,by dsimp only;omega⟩
 ·have hkn:k=l.length:=by omega
  refine y7<|ah<|ab Z<|z6<|zh<|zk (x:=.bool _) Z ?_
  exact jb (qv fun i h=>hn i h (by omega)).symm
theorem map_take {α:Type} {g:α→ByteArray} {l:List α} {k:Nat} (h:k<l.length):(l.map g).take (k+1)=(l.map g).take k++[g l[k]]:=by
 rw[qj (by simpa using h)];simp
def dn (f:ad):List ByteArray:=f.vars.map se.name
def dB (f:ad):List ByteArray:=f.blocks.map aN.name
@[simp] theorem EQ (f:ad):(dn f).length=f.vars.length:=by unfold dn;simp
@[simp] theorem ER (f:ad):(dB f).length=f.blocks.length:=by unfold dB;simp
theorem BA {f:ad} {k:Nat} (h:k<f.vars.length):(dn f).take (k+1)=(dn f).take k++[f.vars[k].name]:=map_take h
theorem BB {f:ad} {k:Nat} (h:k<f.blocks.length):(dB f).take (k+1)=(dB f).take k++[f.blocks[k].name]:=map_take h
def BC (f:ad):Prop:=∀i (h:i<f.params.length),f.params[i]=(i:Int)
instance (f:ad):Decidable (BC f):=by unfold BC;infer_instance
def BD (f:ad):Prop:=∀i (h:i<f.vars.length),¬iy f.vars[i].ty=⟨#[]⟩
instance (f:ad):Decidable (BD f):=by unfold BD;infer_instance
def kC (f:ad):Prop:=f.vars.length≤512∧f.params.length≤8∧f.params.length≤f.vars.length∧1≤f.blocks.length∧f.blocks.length≤64
instance (f:ad):Decidable (kC f):=by unfold kC;infer_instance
def fA (f:ad):Prop:=BD f∧BC f∧kC f∧uo (dn f)∧uo (dB f)
instance (f:ad):Decidable (fA f):=by unfold fA;infer_instance
theorem sF (f:ad) (h1:f.vars.length≤100000000) (h2:f.blocks.length≤100000000) (hp:f.params.length≤100000000) (hn:lw f) (hL:bn E):aI prog E 139 [.agg (bD f)] (.bool (decide (fA f))):=by
 have hnv:(dn f).length=f.vars.length:=by unfold dn;simp
 have hnb:(dB f).length=f.blocks.length:=by unfold dB;simp
 refine zo func139 Z (by decide) Z<|ah<|ya (cs:=_) Z Z Z<|ab Z<|z6<|ah<|za (iR Z)<|za (iR Z)<|z6<|gj (t:=3) (k:=1) (T:=9) Z<|fun i3=>gj (t:=4) (k:=1) (T:=9) Z<|fun i4=>zd<|ah<|aq je Z Y5 Z Z<|aH Yg Z<|ap Z6 Z<|aa Z<|z6<|zj<|y8 (γ:=Nat × Nat) [1,4,12,13] (fun g=>[(3,.own g.2 g.1),(14,.int .i64 g.1)]) (fun g=>[(i4,.grow 1 9 []),(g.2,.grow 1 9 ((((dn f).take g.1).map pa).flatten))]) (fun g=>g.1≤f.vars.length∧∀i (h:i<f.vars.length),i<g.1→¬iy f.vars[i].ty=⟨#[]⟩) (fun g=>f.vars.length - g.1) (0,i3) eZ aE (⟨ql _,fun i h h2=>absurd h2 (Nat.not_lt_zero _)⟩) ?_
 rintro ⟨k,i⟩ ⟨hk,hT⟩
 try dsimp only at *
 refine ah<|aw Z Z<|z6<|zd<|zw Z (fun ck=>?_) (fun ck=>?_)
 ·have hk2:k<f.vars.length:=by simp at ck;omega
  refine zg<|zd<|zj<|ah<|za (bx k Z6 Y2 Z Z Z (qi hk2))<|ac isAgg61 Y2 Z Z<|y5 (cs:=[.str ⟨#[]⟩,.int .i64 0]) zeroValue61 Z Z<|fun i6=>zz Y2 Z Z Z Z Z Z .head Z<|z6<|ah<|za (gQ Z)<|za (zn Zf Z Zu (by decide) Z Z)<|za (zq (c:=.str _) Y0 Z ⟨_,.head⟩ Z)<|y3 (rows:=[[_]]) vE Z Z Z Z Z<|yj (k:=1) Y7 type9 Z Z Z Z Z (fun _=>.t2) (by rw[li (k:=1) (fun _=>rfl),List.length_take];omega) (by decide) Z (by show (_+1)*16≤_;omega) (by show _+1≤_;omega)<|fun i22=>za (lj Z)<|z6<|ah<|za (zn Zf Z Yq (by decide) Z Z)<|za (zq (c:=.int _ _) isAgg59 Z ⟨_,.head⟩ Z)<|zf (sD _) Z<|za (Gv.eqlT Z Z)<|z6<|zw Z (fun ct=>?_) (fun ct=>?_)
  ·refine ah<|ab Z<|z6<|zh<|zk (x:=.bool _) Z ?_
   exact jb (qw fun h=>h.1 k hk2 (by simpa using ct)).symm
  ·refine zg<|aV<|aC Z Z<|aa Z<|z6 ?_
   exact ⟨(k+1,i22),iS,eZ,⟨_,(.drop (.refl _)),by dsimp only;rw[←jW (enc:=pa) (BA hk2)];rfl⟩,⟨hk2,fun i h h2=>by by_cases e:i=k;(subst e;simpa using ct);exact hT i h (by dsimp only at h2;omega)⟩,by dsimp only;omega⟩
 ·have hkn:k=f.vars.length:=by simp at ck;omega
  subst hkn
  rw[List.take_of_length_le (by omega:(dn f).length≤f.vars.length)]
  have hTys:BD f:=fun i h=>hT i h h
  refine y7<|zd<|ah<|aq je Z Z0 Z Z<|aH Zb Z<|ap ji Z<|aa Z<|z6<|zj<|y8 (γ:=Nat × Nat) [1,3,29,30] (fun g=>[(4,.own g.2 g.1),(31,.int .i64 g.1)]) (fun g=>[(g.2,.grow 1 9 ((((dB f).take g.1).map pa).flatten)),(i,.grow 1 9 (((dn f).map pa).flatten))]) (fun g=>g.1≤f.blocks.length) (fun g=>f.blocks.length - g.1) (0,i4) eZ aE (ql _) ?_
  rintro ⟨k,j⟩ hk
  try dsimp only at *
  refine ah<|aw Z Z<|z6<|zd<|zw Z (fun ck=>?_) (fun ck=>?_)
  ·have hk2:k<f.blocks.length:=by simp at ck;omega
   refine zg<|zd<|zj<|ah<|za (bx k ji ju Z Z Z (qi hk2))<|ac Y4 ju Z Z<|y5 (cs:=[.str ⟨#[]⟩,.raw (.slice none 0 0),.raw (.slice none 0 0),.int .i64 0,.int .i64 0,.int .i64 0,.int .i64 0]) Zc Z Z<|fun i8=>zz ju Z Z Z Z Z Z .head Z<|z6<|aV<|za (gQ Z)<|za (zn jg Z Zu (by decide) Z Z)<|za (zq (c:=.str _) Y0 Z ⟨_,.head⟩ Z)<|y3 (rows:=[[_]]) vE Z Z Z Z Z<|yj (k:=1) Y7 type9 Z Z Z Z Z (fun _=>.t1) (by rw[li (k:=1) (fun _=>rfl),List.length_take];omega) (by decide) Z (by show (_+1)*16≤_;omega) (by show _+1≤_;omega)<|fun i39=>za (lj Z)<|z6<|aV<|aC Z Z<|aa Z<|z6 ?_
   exact ⟨(k+1,i39),iS,eZ,⟨_,(.drop (.refl _)),by dsimp only;rw[←jW (enc:=pa) (BB hk2)];rfl⟩,hk2,by dsimp only;omega⟩
  ·have hkn:k=f.blocks.length:=by simp at ck;omega
   subst hkn
   rw[List.take_of_length_le (by omega:(dB f).length≤f.blocks.length)]
   refine y7<|zd<|ah<|aq je Z j5 Z Z<|aH j9 Z<|ap wx Z<|aa Z<|z6<|zj<|y8 (γ:=Nat) [1,3,4,42,43] (fun k=>[(44,.int .i64 k)]) (fun k=>[(j,.grow 1 9 (((dB f).map pa).flatten)),(i,.grow 1 9 (((dn f).map pa).flatten))]) (fun k=>k≤f.params.length∧∀i (h:i<f.params.length),i<k→f.params[i]=(i:Int)) (fun k=>f.params.length - k) 0 aJ aE (⟨ql _,fun i h h2=>absurd h2 (Nat.not_lt_zero _)⟩) ?_
   rintro k ⟨hk,hP⟩
   refine ah<|aw Z Z<|z6<|zd<|zw Z (fun ck=>?_) (fun ck=>?_)
   ·have hk2:k<f.params.length:=by simp at ck;omega
    refine zg<|zd<|zj<|ah<|aa Z<|za (bx k wx wz Z Z Z (qi hk2))<|ay j6 Z<|ao Z<|ao Z<|z6<|ah<|aa Z<|aa Z<|aL Z Z<|z6<|zu Z (fun cp=>?_) (fun cp=>?_)
    ·refine ah<|ab Z<|z6<|zh<|zk (x:=.bool _) Z ?_
     exact jb (qw fun h=>by have:=h.2.1 k hk2;simp[this] at cp).symm
    ·refine zg<|aV<|aC Z Z<|aa Z<|z6 ?_
     exact ⟨k+1,wi,aJ,aE,⟨hk2,fun i h h2=>by by_cases e:i=k;(subst e;simpa using cp);exact hP i h (by omega)⟩,by omega⟩
   ·have hkn:k=f.params.length:=by simp at ck;omega
    subst hkn
    have hPar:BC f:=fun i h=>hP i h h
    refine zy (aX.know (t:=3) (rows:=(dn f).map pa) Z .t1 (by intro r hr;obtain ⟨x,_,rfl⟩:=List.mem_map.1 hr;rfl) (by decide) (by simp))<|zy (aX.know (t:=4) (rows:=(dB f).map pa) Z .head (by intro r hr;obtain ⟨x,_,rfl⟩:=List.mem_map.1 hr;rfl) (by decide) (by simp))<|y7<|ah<|bb Z<|ap Y7 Z<|za (Gv.leq Z Z)<|ai Z<|zp (s:=56) Z (fun c3=>?_) (fun c3=>?_)
    ·refine z8 Z Z c3<|aq je Z j5 Z Z<|z8 Z Z c3<|aH j9 Z<|z8 Z Z c3<|ap wx Z<|z8 Z Z c3<|bb Z<|z8 Z Z c3<|ap Y7 Z<|z8 Z Z c3<|za (Gv.minI Z Z)<|z8 Z Z c3<|za (Gv.leq Z Z)<|ar Z c3 Z<|ai Z<|zp (s:=65) Z (fun c4=>?_) (fun c4=>?_)
     ·refine z8 Z Z c4<|bb Z<|z8 Z Z c4<|ap Y7 Z<|z8 Z Z c4<|za (q3 Z Z)<|ar Z c4 Z<|ai Z<|zp (s:=70) Z (fun c5=>?_) (fun c5=>?_)
      ·refine z8 Z Z c5<|bb Z<|z8 Z Z c5<|ap Y7 Z<|z8 Z Z c5<|za (Gv.leq Z Z)<|ar Z c5 Z<|ai Z<|zp (s:=75) Z (fun c6=>?_) (fun c6=>?_)
       ·refine z8 Z Z c6<|bb Z<|z8 Z Z c6<|zf (mu (dn f) (by omega) (fun s hs=>by obtain ⟨v,hv,rfl⟩:=List.mem_map.1 hs;exact hn.1 v hv) hL) Z<|ar Z c6 Z<|ai Z<|zp (s:=79) Z (fun c7=>?_) (fun c7=>?_)
        ·refine z8 Z Z c7<|bb Z<|z8 Z Z c7<|zf (mu (dB f) (by omega) (fun s hs=>by obtain ⟨v,hv,rfl⟩:=List.mem_map.1 hs;exact hn.2 v hv) hL) Z<|ar Z c7 Z<|ab Z<|z6<|zh<|zk (x:=.bool _) Z ?_
         exact jb (by unfold fA kC;simp_all<;>grind)
        ·refine z7 Z Z c7<|z7 Z Z c7<|au Z c7 Z<|ab Z<|z6<|zh<|zk (x:=.bool _) Z ?_
         exact jb (by unfold fA kC;simp_all<;>grind)
       ·refine z7 Z Z c6<|z7 Z Z c6<|au Z c6 Z<|ai Z<|z7 Z Z Z<|z7 Z Z Z<|au Z Z Z<|ab Z<|z6<|zh<|zk (x:=.bool _) Z ?_
        exact jb (by unfold fA kC;simp_all<;>grind)
      ·refine z7 Z Z c5<|z7 Z Z c5<|z7 Z Z c5<|au Z c5 Z<|ai Z<|z7 Z Z Z<|z7 Z Z Z<|au Z Z Z<|ai Z<|z7 Z Z Z<|z7 Z Z Z<|au Z Z Z<|ab Z<|z6<|zh<|zk (x:=.bool _) Z ?_
       exact jb (by unfold fA kC;simp_all<;>grind)
     ·refine z7 Z Z c4<|z7 Z Z c4<|z7 Z Z c4<|au Z c4 Z<|ai Z<|z7 Z Z Z<|z7 Z Z Z<|z7 Z Z Z<|au Z Z Z<|ai Z<|z7 Z Z Z<|z7 Z Z Z<|au Z Z Z<|ai Z<|z7 Z Z Z<|z7 Z Z Z<|au Z Z Z<|ab Z<|z6<|zh<|zk (x:=.bool _) Z ?_
      exact jb (by unfold fA kC;simp_all<;>grind)
    ·refine z7 Z Z c3<|z7 Z Z c3<|z7 Z Z c3<|z7 Z Z c3<|z7 Z Z c3<|z7 Z Z c3<|z7 Z Z c3<|au Z c3 Z<|ai Z<|z7 Z Z Z<|z7 Z Z Z<|z7 Z Z Z<|au Z Z Z<|ai Z<|z7 Z Z Z<|z7 Z Z Z<|z7 Z Z Z<|au Z Z Z<|ai Z<|z7 Z Z Z<|z7 Z Z Z<|au Z Z Z<|ai Z<|z7 Z Z Z<|z7 Z Z Z<|au Z Z Z<|ab Z<|z6<|zh<|zk (x:=.bool _) Z ?_
     exact jb (by unfold fA kC;simp_all<;>grind)
def iP (f:ad) (p:eJ):Bool:=!decide (p.args.length=0)&&decide (p.args.length=p.from_.length)&&aT f p.dst&&p.args.all (aT f)&&p.from_.all (dV f)
theorem wN (f:ad) (v:Int):aI prog E 179 ([.int .i64 v]++[.pf (bD f)]) (.bool (!dV f v)):=by
 refine zo func179 Z (by decide) Z<|ah<|ab Z<|z6<|ah<|ac jj jh Z Z<|aa Z<|zf (m7 _ _) Z<|aD Z<|ab Z<|z6<|zh<|zk (x:=.bool _) Z ?_
 rfl
theorem zE (f:ad) (p:eJ) (hp:vq p):aI prog E 142 [.agg (bD f),.agg (d6 p)] (.bool (iP f p)):=by
 have hl1:=hp.1.lt
 have hl2:=hp.2.lt
 refine zo func142 Z (by decide) Z<|ah<|ya (cs:=_) Z Z Z<|ya (cs:=_) Z Z Z<|ab Z<|z6<|zd<|ah<|aq jx Z j5 Z Z<|aH j9 Z<|ap wx Z<|ak Z Z<|ai Z<|zp (s:=9) Z (fun c8=>?_) (fun c8=>?_)
 ·refine z7 Z Z c8<|z7 Z Z c8<|z7 Z Z c8<|z7 Z Z c8<|z7 Z Z c8<|z7 Z Z c8<|z7 Z Z c8<|ar Z c8 Z<|ai Z<|z7 Z Z Z<|z7 Z Z Z<|z7 Z Z Z<|z7 Z Z Z<|z7 Z Z Z<|ar Z Z Z<|ai Z<|z7 Z Z Z<|z7 Z Z Z<|z7 Z Z Z<|z7 Z Z Z<|z7 Z Z Z<|ar Z Z Z<|z6<|yl Z Z<|ah<|ab Z<|z6<|zh<|zk (x:=.bool _) Z ?_
  exact jb (by have:=List.any_eq_not_all_not (l:=p.from_) (p:=fun x=>!dV f x);simp_all[iP,Int.ofNat_inj]<;>grind)
 ·refine z8 Z Z c8<|aq jx Z j5 Z Z<|z8 Z Z c8<|aH j9 Z<|z8 Z Z c8<|ap wx Z<|z8 Z Z c8<|aq jx Z j5 Z Z<|z8 Z Z c8<|aH j9 Z<|z8 Z Z c8<|ap wx Z<|z8 Z Z c8<|aL Z Z<|au Z c8 Z<|ai Z<|zp (s:=18) Z (fun c9=>?_) (fun c9=>?_)
  ·refine z7 Z Z c9<|z7 Z Z c9<|z7 Z Z c9<|z7 Z Z c9<|z7 Z Z c9<|ar Z c9 Z<|ai Z<|z7 Z Z Z<|z7 Z Z Z<|z7 Z Z Z<|z7 Z Z Z<|z7 Z Z Z<|ar Z Z Z<|z6<|yl Z Z<|ah<|ab Z<|z6<|zh<|zk (x:=.bool _) Z ?_
   exact jb (by have:=List.any_eq_not_all_not (l:=p.from_) (p:=fun x=>!dV f x);simp_all[iP,Int.ofNat_inj]<;>grind)
  ·refine z8 Z Z c9<|ac jj jh Z Z<|z8 Z Z c9<|aq jx Z wz Z Z<|z8 Z Z c9<|ay j6 Z<|z8 Z Z c9<|zf (jD _ _) Z<|z8 Z Z c9<|aD Z<|au Z c9 Z<|ai Z<|zp (s:=25) Z (fun c10=>?_) (fun c10=>?_)
   ·refine z7 Z Z c10<|z7 Z Z c10<|z7 Z Z c10<|z7 Z Z c10<|z7 Z Z c10<|ar Z c10 Z<|z6<|yl Z Z<|ah<|ab Z<|z6<|zh<|zk (x:=.bool _) Z ?_
    exact jb (by have:=List.any_eq_not_all_not (l:=p.from_) (p:=fun x=>!dV f x);simp_all[iP,Int.ofNat_inj]<;>grind)
   ·refine z8 Z Z c10<|ac jj jh Z Z<|z8 Z Z c10<|aq jx Z j5 Z Z<|z8 Z Z c10<|aH j9 Z<|z8 Z Z c10<|zf (pB f p.args (by omega)) Z<|z8 Z Z c10<|aD Z<|au Z c10 Z<|z6<|zu Z (fun c11=>?_) (fun c11=>?_)
    ·refine ah<|ab Z<|z6<|zh<|zk (x:=.bool _) Z ?_
     exact jb (by have:=List.any_eq_not_all_not (l:=p.from_) (p:=fun x=>!dV f x);simp_all[iP,Int.ofNat_inj]<;>grind)
    ·refine zg<|ah<|aq jx Z j5 Z Z<|aH j9 Z<|za (Gv.func Z Z)<|zf (gl p.from_ (by omega) (wN f)) Z<|aD Z<|ab Z<|z6<|zh<|zk (x:=.bool _) Z ?_
     exact jb (by have:=List.any_eq_not_all_not (l:=p.from_) (p:=fun x=>!dV f x);simp_all[iP,Int.ofNat_inj]<;>grind)
end Go.Proofs.YtdilpodccjlkgaaGreatDoor
namespace Go.Proofs.YtdilpodccjlkgaaGreatDoor
open Go.Proofs.Tryz
open Go.Proofs Go.Lib Go.Shelf Go.RowKit
set_option maxRecDepth 20000
variable {E:World}
theorem mP {p:eJ→Bool} {fn:FuncId} {c:List AV} (xs:List eJ) (hl:xs.length≤281474976710656) (hp:∀x∈xs,aI prog E fn ([.agg (d6 x)]++c) (.bool (p x))) :
  aI prog E 176 [.fro 3 (xs.map d6),.fn fn [] c] (.int .i64 (bT p xs 0)):=by
 refine zo func176 Z (by decide) Z<|ah<|ao Z<|z6<|zd<|ah<|bb Z<|ap jz Z<|aa Z<|z6<|zj<|y8 (γ:=Nat) [0,1,7] (fun k=>[(8,.int .i64 k)]) (fun k=>[]) (fun k=>k≤xs.length∧(xs.take k).all (fun x=>!p x)) (fun k=>xs.length - k) 0 aJ aE (⟨ql _,Z⟩) ?_
 rintro k ⟨hk,hall⟩
 refine ah<|aw Z Z<|z6<|zd<|zw Z (fun ck=>?_) (fun ck=>?_)
 ·have hk2:k<xs.length:=by omega
  refine zg<|zd<|zj<|ah<|aa Z<|ao Z<|z6<|ah<|za (yr (v:=.fn _ _ _) Z)<|bb Z<|aa Z<|za (q8 jz Z8 Z Z Z (qi (by omega)))<|ac Yo Z8 Z Z<|ax.callVP Z (hp _ (qm hk2)) Z<|z6<|zu Z (fun cp=>?_) (fun cp=>?_)
  ·refine ah<|aa Z<|ao Z<|z6<|zh<|zk (x:=.int _ _) Z ?_
   rw[bq p xs k hk hall,List.drop_eq_getElem_cons hk2,bT,if_pos cp]
  ·refine zg<|aV<|aC Z Z<|aa Z<|z6 ?_
   exact ⟨k+1,dy,aJ,aE,⟨hk2,by rw[qj hk2,List.all_append,hall];simp[cp]⟩,by omega⟩
 ·have hkn:k=xs.length:=by omega
  refine y7<|ah<|ao Z<|z6<|zh<|zk (x:=.int _ _) Z ?_
  rw[bq p xs k hk hall,hkn,List.drop_length,bT]
theorem kT {p:eJ→Bool} {fn:FuncId} {c:List AV} (xs:List eJ) (hl:xs.length≤281474976710656) (hp:∀x∈xs,aI prog E fn ([.agg (d6 x)]++c) (.bool (p x))) :
  aI prog E 140 [.fro 3 (xs.map d6),.fn fn [] c] (.bool (xs.any p)):=by
 refine zo func140 Z (by decide) Z<|ah<|ab Z<|z6<|ah<|bb Z<|za (yr (v:=.fn _ _ _) Z)<|zf (mP xs hl hp) Z<|za (q3 Z Z)<|ab Z<|z6<|zh<|zk (x:=.bool _) Z ?_
 rw[ej]
theorem mQ {p:aB→Bool} {fn:FuncId} {c:List AV} (xs:List aB) (hl:xs.length≤281474976710656) (hp:∀x∈xs,aI prog E fn ([.agg (be x)]++c) (.bool (p x))) :
  aI prog E 97 [.fro 4 (xs.map be),.fn fn [] c] (.int .i64 (bT p xs 0)):=by
 refine zo func97 Z (by decide) Z<|ah<|ao Z<|z6<|zd<|ah<|bb Z<|ap jt Z<|aa Z<|z6<|zj<|y8 (γ:=Nat) [0,1,7] (fun k=>[(8,.int .i64 k)]) (fun k=>[]) (fun k=>k≤xs.length∧(xs.take k).all (fun x=>!p x)) (fun k=>xs.length - k) 0 aJ aE (⟨ql _,Z⟩) ?_
 rintro k ⟨hk,hall⟩
 refine ah<|aw Z Z<|z6<|zd<|zw Z (fun ck=>?_) (fun ck=>?_)
 ·have hk2:k<xs.length:=by omega
  refine zg<|zd<|zj<|ah<|aa Z<|ao Z<|z6<|ah<|za (yr (v:=.fn _ _ _) Z)<|bb Z<|aa Z<|za (q8 jt jk Z Z Z (qi (by omega)))<|ac Zn jk Z Z<|ax.callVP Z (hp _ (qm hk2)) Z<|z6<|zu Z (fun cp=>?_) (fun cp=>?_)
  ·refine ah<|aa Z<|ao Z<|z6<|zh<|zk (x:=.int _ _) Z ?_
   rw[bq p xs k hk hall,List.drop_eq_getElem_cons hk2,bT,if_pos cp]
  ·refine zg<|aV<|aC Z Z<|aa Z<|z6 ?_
   exact ⟨k+1,dy,aJ,aE,⟨hk2,by rw[qj hk2,List.all_append,hall];simp[cp]⟩,by omega⟩
 ·have hkn:k=xs.length:=by omega
  refine y7<|ah<|ao Z<|z6<|zh<|zk (x:=.int _ _) Z ?_
  rw[bq p xs k hk hall,hkn,List.drop_length,bT]
theorem gq {p:aB→Bool} {fn:FuncId} {c:List AV} (xs:List aB) (hl:xs.length≤281474976710656) (hp:∀x∈xs,aI prog E fn ([.agg (be x)]++c) (.bool (p x))) :
  aI prog E 56 [.fro 4 (xs.map be),.fn fn [] c] (.bool (xs.any p)):=by
 refine zo func56 Z (by decide) Z<|ah<|ab Z<|z6<|ah<|bb Z<|za (yr (v:=.fn _ _ _) Z)<|zf (mQ xs hl hp) Z<|za (q3 Z Z)<|ab Z<|z6<|zh<|zk (x:=.bool _) Z ?_
 rw[ej]
theorem qV (f:ad) (p:eJ) (hp:vq p):aI prog E 141 ([.agg (d6 p)]++[.pf (bD f)]) (.bool (!iP f p)):=by
 refine zo func141 Z (by decide) Z<|ah<|ya (cs:=_) Z Z Z<|ab Z<|z6<|ah<|ac jj jh Z Z<|ac Yo Z8 Z Z<|zf (zE _ _ (by assumption)) Z<|aD Z<|ab Z<|z6<|zh<|zk (x:=.bool _) Z ?_
 rfl
theorem qW (f:ad) (x:aB) (hx:nG x.args):aI prog E 143 ([.agg (be x)]++[.pf (bD f)]) (.bool (!dg f x)):=by
 refine zo func143 Z (by decide) Z<|ah<|ya (cs:=_) Z Z Z<|ab Z<|z6<|ah<|ac jj jh Z Z<|ac Zn jk Z Z<|zf (wF _ _ (by assumption)) Z<|aD Z<|ab Z<|z6<|zh<|zk (x:=.bool _) Z ?_
 rfl
def gr (f:ad) (b:aN):Bool:=!(b.phis.any fun p=>!iP f p)&&!(b.insts.any fun x=>!dg f x)&&bv f b.term
theorem nY {f:ad} {b:aN} (h:(b.phis.any fun p=>!iP f p)=true):gr f b=false:=by unfold gr;rw[h];rfl
theorem nZ {f:ad} {b:aN} (h:(b.insts.any fun x=>!dg f x)=true):gr f b=false:=by unfold gr;rw[h];simp
theorem n2 {f:ad} {b:aN} (h:(!bv f b.term)=true):gr f b=false:=by unfold gr;rw[show bv f b.term=false by simpa using h];simp
theorem zF {f:ad} {b:aN} (h1:(b.phis.any fun p=>!iP f p)=false) (h2:(b.insts.any fun x=>!dg f x)=false) (h3:(!bv f b.term)=false):gr f b=true:=by unfold gr;rw[h1,h2,show bv f b.term=true by simpa using h3];rfl
def eG (f:ad):Bool:=decide (fA f)&&(f.blocks.all (gr f)&&decide (cL f.blocks≤1024))
theorem sG (f:ad) (hf:qK f) (h1:f.vars.length≤100000000) (h2:f.blocks.length≤100000000) (hp:f.params.length≤100000000) (hn:lw f) (hL:bn E):aI prog E 103 [.agg (bD f)] (.bool (eG f)):=by
 refine zo func103 Z (by decide) Z<|ah<|ya (cs:=_) Z Z Z<|ab Z<|z6<|zd<|ah<|ac jj jh Z Z<|zf (sF _ (by omega) (by omega) (by omega) (by assumption) hL) Z<|aD Z<|z6<|zu Z (fun cn=>?_) (fun cn=>?_)
 ·refine ah<|ab Z<|z6<|zh<|zk (x:=.bool _) Z ?_
  exact jb (by unfold eG;rw[show decide (fA f)=false by simpa using cn];rfl)
 ·have hN:fA f:=by simpa using cn
  have hbl:=hN.2.2.1.2.2.2.2
  refine zg<|ah<|ao Z<|z6<|zd<|ah<|aq je Z Z0 Z Z<|aH Zb Z<|ap ji Z<|aa Z<|z6<|zj<|y8 (γ:=Nat) [1,11,12] (fun k=>[(3,.int .i64 (cL (f.blocks.take k))),(13,.int .i64 k)]) (fun k=>[]) (fun k=>k≤f.blocks.length∧cL (f.blocks.take k)≤k*562949953421312∧(f.blocks.take k).all (gr f)=true) (fun k=>f.blocks.length - k) 0 eZ aE (⟨ql _,ql _,Z⟩) ?_
  rintro k ⟨hk,hsum,hall⟩
  refine ah<|aw Z Z<|z6<|zd<|zw Z (fun ck=>?_) (fun ck=>?_)
  ·have hk2:k<f.blocks.length:=by simp at ck;omega
   obtain ⟨b,hbk⟩:∃b,f.blocks[k]=b:=⟨_,rfl⟩
   have hget:f.blocks[k]?=some b:=by rw[qi hk2,hbk]
   have hb:=hf.2.2.2 b (hbk▸qm hk2)
   have hb1:=hb.1.lt
   have hb2:=hb.2.1.lt
   have hsucc:=nT f.blocks k hk2
   rw[hbk] at hsucc
   refine zg<|zd<|zj<|ah<|za (bx k ji ju Z Z Z hget)<|ac Y4 ju Z Z<|y5 (cs:=[.str ⟨#[]⟩,.raw (.slice none 0 0),.raw (.slice none 0 0),.int .i64 0,.int .i64 0,.int .i64 0,.int .i64 0]) Zc Z Z<|fun i5=>zz ju Z Z Z Z Z Z .head Z<|z6<|ah<|aa Z<|za (zn jg Z Y9 (by decide) Z Z)<|za (zq (c:=.fro _ _) Yj Z ⟨_,.head⟩ Z)<|ap jz Z<|za (zn jg Z Zd (by decide) Z Z)<|za (zq (c:=.fro _ _) Zs Z ⟨_,.head⟩ Z)<|ap jt Z<|aC Z Z<|aC Z Z<|ao Z<|z6<|ah<|za (zn jg Z Y9 (by decide) Z Z)<|za (zq (c:=.fro _ _) Yj Z ⟨_,.head⟩ Z)<|za (Gv.func Z Z)<|zf (kT b.phis (by omega) (fun p hp=>qV f p (hb.2.2.1 p hp))) Z<|ai Z<|zp (s:=30) Z (fun c1=>?_) (fun c1=>?_)
   ·refine z7 Z Z c1<|z7 Z Z c1<|z7 Z Z c1<|z7 Z Z c1<|ar Z c1 Z<|ab Z<|z6<|ah<|ai Z<|ai Z<|z7 Z Z Z<|z7 Z Z Z<|z7 Z Z Z<|z7 Z Z Z<|z7 Z Z Z<|ar Z Z Z<|z6<|yl Z Z<|ah<|ab Z<|z6<|zh<|zk (x:=.bool _) Z ?_
    exact jb (by unfold eG;rw[show f.blocks.all (gr f)=false from Bool.eq_false_iff.2 (cG hk2 (by rw[hbk];first|exact nY (by assumption)|exact nZ (by assumption)|exact n2 (by assumption)))];simp)
   ·refine z8 Z Z c1<|za (zn jg Z Zd (by decide) Z Z)<|z8 Z Z c1<|za (zq (c:=.fro _ _) Zs Z ⟨_,.head⟩ Z)<|z8 Z Z c1<|za (Gv.func Z Z)<|z8 Z Z c1<|zf (gq b.insts (by omega) (fun x hx=>qW f x (hb.2.2.2 x hx))) Z<|au Z c1 Z<|ab Z<|z6<|ah<|ai Z<|ai Z<|zp (s:=37) Z (fun c2=>?_) (fun c2=>?_)
    ·refine z7 Z Z c2<|z7 Z Z c2<|z7 Z Z c2<|z7 Z Z c2<|z7 Z Z c2<|ar Z c2 Z<|z6<|yl Z Z<|ah<|ab Z<|z6<|zh<|zk (x:=.bool _) Z ?_
     exact jb (by unfold eG;rw[show f.blocks.all (gr f)=false from Bool.eq_false_iff.2 (cG hk2 (by rw[hbk];first|exact nY (by assumption)|exact nZ (by assumption)|exact n2 (by assumption)))];simp)
    ·refine z8 Z Z c2<|ac jj jh Z Z<|z8 Z Z c2<|za (zn jg Z Zm (by decide) Z Z)<|z8 Z Z c2<|za (Gv.loadAC (l:=[_,_,_,_]) isAgg49 Zm Z ⟨_,.head⟩ Z Z)<|z8 Z Z c2<|zf (wG _ _) Z<|z8 Z Z c2<|aD Z<|au Z c2 Z<|z6<|zu Z (fun c3=>?_) (fun c3=>?_)
     ·refine ah<|ab Z<|z6<|zh<|zk (x:=.bool _) Z ?_
      exact jb (by unfold eG;rw[show f.blocks.all (gr f)=false from Bool.eq_false_iff.2 (cG hk2 (by rw[hbk];first|exact nY (by assumption)|exact nZ (by assumption)|exact n2 (by assumption)))];simp)
     ·refine zg<|aV<|aC Z Z<|aa Z<|z6 ?_
      exact ⟨k+1,dy,⟨congrArg (AV.int .i64) (by rw[hsucc];omega),rfl,trivial⟩,⟨_,(.drop (.refl _)),rfl⟩,⟨hk2,by rw[hsucc];omega,bt hk2 hall (by rw[hbk];exact zF (by assumption) (by assumption) (by assumption))⟩,by omega⟩
  ·have hkn:k=f.blocks.length:=by simp at ck;omega
   subst hkn
   rw[qn] at hall ⊢
   refine y7<|ah<|aa Z<|za (Gv.leq Z Z)<|ab Z<|z6<|zh<|zk (x:=.bool _) Z ?_
   exact jb (by unfold eG;rw[qv hN,hall];simp;omega)
theorem pN (f:ad) (p:eJ):iP f p=true↔ui f p:=by
 unfold iP ui
 simp only[qx,Bool.not_eq_true',decide_eq_false_iff_not,w1]
 constructor
 ·rintro ⟨⟨⟨⟨h1,h2⟩,h3⟩,h4⟩,h5⟩;exact ⟨h3,h2,by omega,h4,h5⟩
 ·rintro ⟨h3,h2,h1,h4,h5⟩;exact ⟨⟨⟨⟨by omega,h2⟩,h3⟩,h4⟩,h5⟩
theorem pO (t:Int):¬iy t=⟨#[]⟩↔0≤t∧t≤2:=by
 unfold iy
 constructor
 ·intro h
  by_cases h0:t=0
  ·omega
  ·by_cases h1:t=1
   ·omega
   ·by_cases h2:t=2
    ·omega
    ·rw[if_neg h0,if_neg h1,if_neg h2] at h;exact absurd rfl h
 ·intro h e
  have:t=0∨t=1∨t=2:=by omega
  rcases this with rfl|rfl|rfl<;>exact absurd e (by decide)
theorem wO (f:ad) (b:aN):gr f b=true↔wH f b:=by
 unfold gr wH
 simp only[qx,Bool.not_eq_true',List.any_eq_false,Bool.not_eq_false]
 constructor
 ·rintro ⟨⟨h1,h2⟩,h3⟩
  exact ⟨fun p hp=>(pN f p).1 (by simpa using h1 p hp),fun x hx=>(nV f x).1 (by simpa using h2 x hx),h3⟩
 ·rintro ⟨h1,h2,h3⟩
  exact ⟨⟨fun p hp=>by simpa using (pN f p).2 (h1 p hp),fun x hx=>by simpa using (nV f x).2 (h2 x hx)⟩,h3⟩
theorem zG {l:List ByteArray}:uo l↔∀i (h:i<l.length),eg l[i]=true∧l[i] ∉ l.take i:=by
 unfold uo
 constructor<;>intro h i hi
 ·exact ⟨(h i hi).1,fun hm=>by have:=vF.2 hm;rw[(h i hi).2] at this;cases this⟩
 ·exact ⟨(h i hi).1,Bool.eq_false_iff.2 fun hm=>(h i hi).2 (vF.1 hm)⟩
theorem vH {f:ad} {i:Nat} (h:i<(dn f).length) (h':i<f.vars.length):(dn f)[i]=f.vars[i].name:=by
 have:(dn f)[i]?=some f.vars[i].name:=by unfold dn;rw[qq,qi h'];rfl
 rw[qi h] at this
 simpa using this
theorem vI {f:ad} {i:Nat} (h:i<(dB f).length) (h':i<f.blocks.length):(dB f)[i]=f.blocks[i].name:=by
 have:(dB f)[i]?=some f.blocks[i].name:=by unfold dB;rw[qq,qi h'];rfl
 rw[qi h] at this
 simpa using this
theorem fB (f:ad):eG f=decide (bz f):=by
 rw[qr,decide_eq_true_iff]
 unfold eG
 simp only[qx,decide_eq_true_iff,qy,wO]
 unfold fA kC bz kS
 simp only[zG]
 constructor
 ·rintro ⟨⟨h1,h2,⟨g1,g2,g3,g4,g5⟩,h4,h5⟩,h6,h7⟩
  refine ⟨?_,h2,fun i h=>?_,fun i h=>?_,h7,h6⟩
  ·simp;omega
  ·have ht:=(pO _).1 (h1 i h)
   have hu:=h4 i (by unfold dn;simpa using h)
   have e:=vH (f:=f) (i:=i) (by unfold dn;simpa using h) h
   rw[e] at hu
   exact ⟨by rw[m9];exact hu.1,ht.1,ht.2,fun s hs e2=>hu.2 (by unfold dn;rw[←List.map_take,←e2];exact hs)⟩
  ·have hu:=h5 i (by unfold dB;simpa using h)
   have e:=vI (f:=f) (i:=i) (by unfold dB;simpa using h) h
   rw[e] at hu
   exact ⟨by rw[m9];exact hu.1,fun s hs e2=>hu.2 (by unfold dB;rw[←List.map_take,←e2];exact hs)⟩
 ·rintro ⟨h1,h2,h3,h4,h7,h6⟩
  simp at h1
  refine ⟨⟨fun i h=>(pO _).2 ⟨(h3 i h).2.1,(h3 i h).2.2.1⟩,h2,by omega,fun i h=>?_,fun i h=>?_⟩,h6,h7⟩
  ·have h':i<f.vars.length:=by simpa using h
   have e:=vH h h'
   rw[e]
   exact ⟨by rw[←m9];exact (h3 i h').1,fun hm=>(h3 i h').2.2.2 _ (by unfold dn at hm;rw[←List.map_take] at hm;exact hm) rfl⟩
  ·have h':i<f.blocks.length:=by simpa using h
   have e:=vI h h'
   rw[e]
   exact ⟨by rw[←m9];exact (h4 i h').1,fun hm=>(h4 i h').2 _ (by unfold dB at hm;rw[←List.map_take] at hm;exact hm) rfl⟩
end Go.Proofs.YtdilpodccjlkgaaGreatDoor
namespace Go.Proofs.YtdilpodccjlkgaaGreatDoor
open Go.Proofs.Tryz
open Go.Proofs Go.Lib Go.Shelf Go.RowKit
variable {E:World}
set_option maxRecDepth 20000
theorem bz.ends {f:ad} (h:bz f):bE f:=by
 obtain ⟨h1,_,_,_,_,h6⟩:=h
 unfold kS at h1
 simp only[Bool.or_eq_false_iff,decide_eq_false_iff_not] at h1
 refine ⟨by omega,fun b hb c hc=>?_⟩
 have ht:=(h6 b hb).2.2
 unfold bv at ht
 unfold cD at hc
 split at hc
 ·rename_i hk
  rw[if_pos hk] at ht
  simp only[qx,dV,w1] at ht
  simp at hc;subst hc;exact ht.1.1
 ·rename_i hk
  rw[if_neg hk] at ht
  split at hc
  ·rename_i hk1
   rw[if_pos hk1] at ht
   simp only[qx,dV,w1] at ht
   split at hc
   ·simp at hc;subst hc;exact ht.1.2
   ·simp at hc;rcases hc with rfl|rfl
    ·exact ht.1.2
    ·exact ht.2
  ·cases hc
def gt (f:ad) (b:aN):Bool:=b.phis.all (qL f)&&b.insts.all (gm f)&&dH f b.term
def bc (f:ad):Bool:=eG f&&f.blocks.all (gt f)
theorem small.shaped {f:ad} (hf:small f) (hL:bn E):aI prog E 103 [.agg (bD f)] (.bool (eG f)):=
 sG f hf.ok (by have:=hf.1;omega) (by have:=hf.2.2.1;omega) (by have:=hf.2.1;omega) hf.names hL
theorem gu {f:ad} {t:ft} (h:bv f t=true) (hk:¬t.kind=0):aT f t.var=true:=by
 unfold bv at h
 rw[if_neg hk] at h
 split at h
 ·simp only[qx] at h;exact h.1.1
 ·split at h
  ·simp only[qx] at h;exact h.1
  ·cases h
theorem n3 (f:ad) (hf:small f) (hL:bn E):aI prog E 62 [.agg (bD f)] (.int .i64 (if bc f then 0 else 3)):=by
 have hok:=hf.ok
 refine zo func62 Z (by decide) Z<|ah<|ya (cs:=_) Z Z Z<|ao Z<|z6<|zd<|ah<|ac jj jh Z Z<|zf (hf.shaped hL) Z<|aD Z<|z6<|zu Z (fun cs=>?_) (fun cs=>?_)
 ·refine ah<|ao Z<|z6<|zh<|zk (x:=.int _ _) Z ?_
  unfold bc;rw[show eG f=false by simpa using cs];rfl
 ·have hsb:eG f=true:=by simpa using cs
  have hS:bz f:=by rw[fB] at hsb;exact qz hsb
  have hB:=hS.2.2.2.2.2
  have hfl:=hok.2.2.1.lt
  refine zg<|zd<|ah<|aq je Z Z0 Z Z<|aH Zb Z<|ap ji Z<|aa Z<|z6<|zj<|y8 (γ:=Nat) [1,13,14] (fun k=>[(15,.int .i64 k)]) (fun k=>[]) (fun k=>k≤f.blocks.length∧(f.blocks.take k).all (gt f)=true) (fun k=>f.blocks.length - k) 0 aJ aE (⟨ql _,Z⟩) ?_
  rintro k ⟨hk,hall⟩
  refine ah<|aw Z Z<|z6<|zd<|zw Z (fun ck=>?_) (fun ck=>?_)
  ·have hk2:k<f.blocks.length:=by simp at ck;omega
   obtain ⟨b,hbk⟩:∃b,f.blocks[k]=b:=⟨_,rfl⟩
   have hget:f.blocks[k]?=some b:=by rw[qi hk2,hbk]
   have hmem:b∈f.blocks:=hbk▸qm hk2
   obtain ⟨hph,hin,htm⟩:=hB b hmem
   have hbad:gt f b=false→bc f=false:=fun h=>by unfold bc;rw[Bool.eq_false_iff.2 (cG hk2 (by rw[hbk];exact h))];simp
   have hs5:=hok.2.2.2 b hmem
   have hpl:=hs5.1.lt
   have hil:=hs5.2.1.lt
   refine zg<|zd<|zj<|ah<|za (bx k ji ju Z Z Z hget)<|ac Y4 ju Z Z<|y5 (cs:=[.str ⟨#[]⟩,.raw (.slice none 0 0),.raw (.slice none 0 0),.int .i64 0,.int .i64 0,.int .i64 0,.int .i64 0]) Zc Z Z<|fun i4=>zz ju Z Z Z Z Z Z .head Z<|ze (yd (t:=4) Z .head)<|z6<|zd<|ah<|aq jg Z Y9 Z Z<|aH Yj Z<|ap jz Z<|aa Z<|z6<|zj<|y8 (γ:=Nat) [1,4,13,14,15,20,21] (fun p=>[(22,.int .i64 p)]) (fun p=>[]) (fun p=>p≤b.phis.length∧(b.phis.take p).all (qL f)=true) (fun p=>b.phis.length - p) 0 aJ aE (⟨ql _,Z⟩) ?_
   rintro p ⟨hp,hpall⟩
   refine ah<|aw Z Z<|z6<|zd<|zw Z (fun cp=>?_) (fun cp=>?_)
   ·have hp2:p<b.phis.length:=by simp at cp;omega
    have hpm:=qm hp2
    have hP:=hph _ hpm
    refine zg<|zd<|zj<|ah<|za (bx p jz Z8 Z Z Z (qi hp2))<|ac Yo Z8 Z Z<|y5 (cs:=[.int .i64 0,.raw (.slice none 0 0),.raw (.slice none 0 0)]) Y6 Z Z<|fun i6=>zz Z8 Z Z Z Z Z Z .head Z<|ze (yd (t:=6) Z .head)<|z6<|ah<|ac jj jh Z Z<|ac Yo Z8 Z Z<|zf (wu f b.phis[p] (hs5.2.2.1 _ hpm) hP.2.2.2.1 hP.1) Z<|aD Z<|z6<|zu Z (fun cq=>?_) (fun cq=>?_)
    ·refine ah<|ao Z<|z6<|zh<|zk (x:=.int _ _) Z ?_
     rw[hbad (by unfold gt;rw[Bool.eq_false_iff.2 (cG hp2 (by simpa using cq))];rfl)];rfl
    ·refine zg<|aV<|aC Z Z<|aa Z<|z6 ?_
     exact ⟨p+1,kA,aJ,aE,⟨hp2,bt hp2 hpall (by simpa using cq)⟩,by omega⟩
   ·have hpn:p=b.phis.length:=by simp at cp;omega
    subst hpn
    rw[qn] at hpall
    refine y7<|zd<|ah<|aq jg Z Zd Z Z<|aH Zs Z<|ap jt Z<|aa Z<|z6<|zj<|y8 (γ:=Nat) [1,4,13,14,15,32,33] (fun q=>[(34,.int .i64 q)]) (fun q=>[]) (fun q=>q≤b.insts.length∧(b.insts.take q).all (gm f)=true) (fun q=>b.insts.length - q) 0 aJ aE (⟨ql _,Z⟩) ?_
    rintro q ⟨hq,hqall⟩
    refine ah<|aw Z Z<|z6<|zd<|zw Z (fun cp2=>?_) (fun cp2=>?_)
    ·have hq2:q<b.insts.length:=by simp at cp2;omega
     have hqm:=qm hq2
     have hI:=fK (hin _ hqm)
     have hId:dU b.insts[q].op=true→aT f b.insts[q].dst=true:=fun h=>by
      rcases hI.dst with ⟨d1,_⟩|⟨_,_,d3⟩
      ·rw[h] at d1;cases d1
      ·exact d3
     refine zg<|zd<|zj<|ah<|za (bx q jt jk Z Z Z (qi hq2))<|ac Zn jk Z Z<|y5 (cs:=[.int .i64 0,.int .i64 0,.raw (.slice none 0 0),.int .i64 0]) Z5 Z Z<|fun i8=>zz jk Z Z Z Z Z Z .head Z<|ze (yd (t:=8) Z .head)<|z6<|ah<|ac jj jh Z Z<|ac Zn jk Z Z<|zf (ua f b.insts[q] (List.all_eq_true.2 hI.args) hI.len hId) Z<|aD Z<|z6<|zu Z (fun cq=>?_) (fun cq=>?_)
     ·refine ah<|ao Z<|z6<|zh<|zk (x:=.int _ _) Z ?_
      rw[hbad (by unfold gt;rw[hpall,Bool.eq_false_iff.2 (cG hq2 (by simpa using cq))];rfl)];rfl
     ·refine zg<|aV<|aC Z Z<|aa Z<|z6 ?_
      exact ⟨q+1,kA,aJ,aE,⟨hq2,bt hq2 hqall (by simpa using cq)⟩,by omega⟩
    ·have hqn:q=b.insts.length:=by simp at cp2;omega
     subst hqn
     rw[qn] at hqall
     refine y7<|ah<|ac jj jh Z Z<|aq jg Z Zm Z Z<|ac isAgg49 Zm Z Z<|zf (uc f b.term (gu htm)) Z<|aD Z<|z6<|zu Z (fun ct=>?_) (fun ct=>?_)
     ·refine ah<|ao Z<|z6<|zh<|zk (x:=.int _ _) Z ?_
      rw[hbad (by unfold gt;rw[hpall,hqall];simpa using ct)];rfl
     ·refine zg<|aV<|aC Z Z<|aa Z<|z6 ?_
      exact ⟨k+1,dy,aJ,aE,⟨hk2,bt hk2 hall (by rw[hbk];unfold gt;rw[hpall,hqall];simpa using ct)⟩,by omega⟩
  ·have hkn:k=f.blocks.length:=by simp at ck;omega
   subst hkn
   rw[qn] at hall
   refine y7<|ah<|ao Z<|z6<|zh<|zk (x:=.int _ _) Z ?_
   unfold bc;rw[hsb,hall];rfl
end Go.Proofs.YtdilpodccjlkgaaGreatDoor
