/- Typed; which blocks are reached; joined. Of programs that are little. -/
import Derived.Test.YtdilpodccjlkgaaGreatDoorZh
import Derived.Test.YtdilpodccjlkgaaGreatDoorZg
import Derived.Test.YtdilpodccjlkgaaGreatDoorZc
import Derived.Lib.MapLaws
import Derived.Test.YtdilpodccjlkgaaGreatDoorZf
set_option linter.unusedVariables false
set_option linter.unusedSimpArgs false
set_option linter.unusedSectionVars false
namespace Go.Proofs.YtdilpodccjlkgaaGreatDoor
open Go.Proofs.Tryz
open Go.Proofs Go.Lib Go.Shelf Go.RowKit
set_option maxRecDepth 20000
variable {E:World}
theorem EI:∀r∈gI,r.1≠⟨#[]⟩:=by decide
theorem EJ {op:Int} (h:0≤op∧op≤26):(bY op).1≠⟨#[]⟩:=by
 have hm:bY op∈gI:=by
  unfold bY
  rw[if_pos h.1,qt (show _<27 by omega)]
  exact qx _
 exact EI _ hm
theorem CR:∀j:Nat,j<27→pg (j:Int)=(decide ((bY (j:Int)).1=⟨#[99,111,110,115,116]⟩)||decide ((bY (j:Int)).1=⟨#[112,105]⟩)):=by decide
theorem ss {x:aF} (h:0≤x.op∧x.op≤26):kn x=pg x.op:=by
 have:=CR x.op.toNat (by omega)
 rw[wc h.1] at this
 unfold kn;exact this.symm
theorem nh (op:Int):(bb op).length=(bY op).2.1.size:=by unfold bb;rw[w1];exact Array.length_toList
theorem A3 (b:ByteArray):b.data.toList.isEmpty=decide (b=⟨#[]⟩):=by
 obtain ⟨⟨l⟩⟩:=b
 cases l<;>simp
theorem ln (op:Int):cR op=!decide ((bY op).2.2=⟨#[]⟩):=by unfold cR;rw[A3]
theorem A4 {op:Int} (h:¬(0≤op∧op≤26)):bY op=(⟨#[]⟩,⟨#[]⟩,⟨#[]⟩):=uE (by unfold rC;simp;omega)
theorem pI (f:ac) (x:aF):dL f x=true↔pE f x:=by
 by_cases h:0≤x.op∧x.op≤26
 ·have hw:=EJ h
  have hn:=ss h
  unfold dL gp gK pE nd
  rw[nh,ln,hn]
  by_cases h1:x.args.length=(bY x.op).2.1.size<;>by_cases h2:(bY x.op).2.2=⟨#[]⟩<;>by_cases h3:x.dst=-1<;>by_cases h4:x.num=0<;>by_cases h5:x.args.all (bc f)=true<;>simp_all[Int.ofNat_inj]<;>(try (unfold bc;simp))<;>(try grind)
 ·constructor
  ·intro h2
   have:=A4 h
   unfold dL gp at h2
   rw[this] at h2;simp at h2
  ·intro h2;exact absurd ⟨h2.1,h2.2.1⟩ h
def only (f:ac) (x:aF):ac:={ f with blocks:=[⟨⟨#[111,110,108,121]⟩,[],[x],⟨0,0,0,0⟩⟩] }
def ended (f:ac) (b0:aX) (bs:List aX) (t:fi):ac:={ f with blocks:={ b0 with term:=t }::bs }
end Go.Proofs.YtdilpodccjlkgaaGreatDoor
namespace Go.Proofs.YtdilpodccjlkgaaGreatDoor
open Go.Proofs.Tryz
open Go.Proofs Go.Lib Go.Shelf Go.RowKit
set_option maxRecDepth 20000
variable {E:World}
def eJ (c:Int):Bool:=isLetterU c&&!decide (c=65533)
def pJ (c:Int):Bool:=decide (48≤c)&&decide (c≤57)
def eR (c:Int):Bool:=eJ c||(pJ c||(decide (c=46)||decide (c=95)))
theorem mE (c:Int) (h1:-2147483648≤c) (h2:c≤2147483647) (hL:bz E):aM prog E 212 [.int .i32 c] (.bool (eJ c)):=by
 refine zp func212 Z (by decide) Z<|ai<|ab Z<|z6<|ai<|aa Z<|zh (nN c h1 h2 hL) Z<|aj Z<|zq (s:=5) Z (fun c1=>?_) (fun c1=>?_)
 ·refine z8 Z Z c1<|aa Z<|z8 Z Z c1<|aO Z Z<|aw Z c1 Z<|ab Z<|z6<|zg<|zn (x:=.bool _) Z ?_
  exact jb (by simp_all[eJ])
 ·refine z7 Z Z c1<|z7 Z Z c1<|ax Z c1 Z<|ab Z<|z6<|zg<|zn (x:=.bool _) Z ?_
  exact jb (by simp_all[eJ])
theorem uX (c:Int):aM prog E 220 [.int .i32 c] (.bool (pJ c)):=by
 refine zp func220 Z (by decide) Z<|ai<|ab Z<|z6<|ai<|aa Z<|za (q5 Z Z)<|aj Z<|zq (s:=5) Z (fun c2=>?_) (fun c2=>?_)
 ·refine z8 Z Z c2<|aa Z<|z8 Z Z c2<|za (Gv.leq Z Z)<|aw Z c2 Z<|ab Z<|z6<|zg<|zn (x:=.bool _) Z ?_
  exact jb (by simp_all[pJ]<;>(intros;omega))
 ·refine z7 Z Z c2<|z7 Z Z c2<|ax Z c2 Z<|ab Z<|z6<|zg<|zn (x:=.bool _) Z ?_
  exact jb (by simp_all[pJ]<;>(intros;omega))
theorem nO (c:Int) (h1:-2147483648≤c) (h2:c≤2147483647) (hL:bz E):aM prog E 213 [.int .i32 c] (.bool (eR c)):=by
 refine zp func213 Z (by decide) Z<|ai<|ab Z<|z6<|ai<|aa Z<|zh (mE c h1 h2 hL) Z<|aj Z<|zq (s:=5) Z (fun c3=>?_) (fun c3=>?_)
 ·refine z7 Z Z c3<|z7 Z Z c3<|aw Z c3 Z<|aj Z<|z7 Z Z Z<|z7 Z Z Z<|aw Z Z Z<|aj Z<|z7 Z Z Z<|z7 Z Z Z<|aw Z Z Z<|ab Z<|z6<|zg<|zn (x:=.bool _) Z ?_
  exact jb (by simp_all[eR])
 ·refine z8 Z Z c3<|aa Z<|z8 Z Z c3<|zh (uX _) Z<|ax Z c3 Z<|aj Z<|zq (s:=9) Z (fun c4=>?_) (fun c4=>?_)
  ·refine z7 Z Z c4<|z7 Z Z c4<|aw Z c4 Z<|aj Z<|z7 Z Z Z<|z7 Z Z Z<|aw Z Z Z<|ab Z<|z6<|zg<|zn (x:=.bool _) Z ?_
   exact jb (by simp_all[eR])
  ·refine z8 Z Z c4<|aa Z<|z8 Z Z c4<|ak Z Z<|ax Z c4 Z<|aj Z<|zq (s:=13) Z (fun c5=>?_) (fun c5=>?_)
   ·refine z7 Z Z c5<|z7 Z Z c5<|aw Z c5 Z<|ab Z<|z6<|zg<|zn (x:=.bool _) Z ?_
    exact jb (by simp_all[eR])
   ·refine z8 Z Z c5<|aa Z<|z8 Z Z c5<|ak Z Z<|ax Z c5 Z<|ab Z<|z6<|zg<|zn (x:=.bool _) Z ?_
    exact jb (by simp_all[eR])
def bQ (s:ByteArray) (p:Nat):List Int:=if h:p<s.size then ((Utf8.decode s p).1:Int)::bQ s (p+(Utf8.decode s p).2) else[]
termination_by s.size - p
decreasing_by have:=(ep s p).1;omega
theorem e7 {s:ByteArray} {p:Nat} (h:p<s.size):bQ s p=((Utf8.decode s p).1:Int)::bQ s (p+(Utf8.decode s p).2):=by rw[bQ,dif_pos h]
theorem dq {s:ByteArray} {p:Nat} (h:¬p<s.size):bQ s p=[]:=by rw[bQ,dif_neg h]
theorem rH (s:ByteArray):∀k p,s.size - p≤k→(bQ s p).length≤k:=by
 intro k
 induction k with
 |zero=>intro p h;rw[dq (by omega)];simp
 |succ k ih=>
  intro p h
  by_cases hp:p<s.size
  ·rw[e7 hp]
   have:=(ep s p).1
   have:=ih (p+(Utf8.decode s p).2) (by omega)
   simp;omega
  ·rw[dq hp];simp
theorem xf (s:ByteArray) (hs:s.size≤140737488355328):aM prog E 214 [.str s] (.int .i64 (bQ s 0).length):=by
 have h0:=rH s s.size 0 (by omega)
 refine zp func214 Z (by decide) Z<|ai<|ao Z<|z6<|ai<|ao Z<|z6<|zd<|ai<|za (yv (v:=.str _) Z)<|az.rangeT Zr Z<|fun i5=>z6<|zm<|y8 (γ:=Nat × Nat) [5] (fun g=>[(3,.int .i64 g.2)]) (fun g=>[(i5,.iter s g.1)]) (fun g=>g.2+(bQ s g.1).length=(bQ s 0).length) (fun g=>s.size - g.1) (0,0) aK aH (by simp) ?_
 rintro ⟨p,n⟩ hp
 try dsimp only at *
 by_cases hlt:p<s.size
 ·have hd:=(ep s p).1
  rw[e7 hlt] at hp
  simp only[List.length_cons] at hp
  refine ai<|az.nextT Z .head hlt<|za (jJ Z Z)<|z6<|zd<|yt Z Z<|zi<|zm<|aW<|aa Z<|aE Z Z<|ao Z<|z6 ?_
  exact ⟨(p+(Utf8.decode s p).2,n+1),aK,aK,aH,by dsimp only;omega,by dsimp only;omega⟩
 ·rw[dq hlt] at hp
  simp only[List.length_nil] at hp
  refine ai<|az.nextTover Z .head hlt<|za (jJ Z Z)<|z6<|zd<|yg Z Z<|y6<|ai<|aa Z<|ao Z<|z6<|zg<|zn (x:=.int _ _) Z ?_
  exact congrArg (AV.int .i64) (by omega)
def pK (s:ByteArray) (p:Nat):Bool:=if h:p<s.size then (if (decide (p=0)&&!eJ ((Utf8.decode s p).1:Int))||!eR ((Utf8.decode s p).1:Int) then false else pK s (p+(Utf8.decode s p).2)) else (decide (¬s=⟨#[]⟩)&&decide (((bQ s 0).length:Int)≤16))
termination_by s.size - p
decreasing_by have:=(ep s p).1;omega
def eS (s:ByteArray):Bool:=pK s 0
theorem xg (s:ByteArray) (hs:s.size≤140737488355328) (hL:bz E):aM prog E 198 [.str s] (.bool (eS s)):=by
 refine zp func198 Z (by decide) Z<|ai<|ab Z<|z6<|zd<|ai<|za (yv (v:=.str _) Z)<|az.rangeT Zr Z<|fun i6=>z6<|zm<|y8 (γ:=Nat) [0,6] (fun p=>[]) (fun p=>[(i6,.iter s p)]) (fun p=>pK s p=eS s) (fun p=>s.size - p) 0 trivial aH (Z) ?_
 rintro p hp
 by_cases hlt:p<s.size
 ·obtain ⟨hd1,hd2⟩:=ep s p
  have hstep:=hp
  rw[pK,dif_pos hlt] at hstep
  refine ai<|az.nextT Z .head hlt<|za (jJ Z Z)<|z6<|zd<|yt Z Z<|zi<|zm<|ai<|za (iN Z Z)<|za (iN Z Z)<|ao Z<|ao Z<|z6<|ai<|aa Z<|ak Z Z<|aj Z<|zq (s:=13) Z (fun c6=>?_) (fun c6=>?_)
  ·refine z8 Z Z c6<|aa Z<|z8 Z Z c6<|zh (mE _ (by omega) (by omega) hL) Z<|z8 Z Z c6<|aC Z<|aw Z c6 Z<|aj Z<|zq (s:=18) Z (fun c7=>?_) (fun c7=>?_)
   ·refine z7 Z Z c7<|z7 Z Z c7<|z7 Z Z c7<|aw Z c7 Z<|z6<|yt Z Z<|ai<|ab Z<|z6<|zg<|zn (x:=.bool _) Z ?_
    rw[if_pos (by simp_all<;>omega)] at hstep;exact jb hstep
   ·refine z8 Z Z c7<|aa Z<|z8 Z Z c7<|zh (nO _ (by omega) (by omega) hL) Z<|z8 Z Z c7<|aC Z<|ax Z c7 Z<|z6<|zy Z (fun c8=>?_) (fun c8=>?_)
    ·refine ai<|ab Z<|z6<|zg<|zn (x:=.bool _) Z ?_
     rw[if_pos (by simp_all<;>omega)] at hstep;exact jb hstep
    ·refine zi ?_
     exact ⟨p+(Utf8.decode s p).2,eo,trivial,aH,by rw[if_neg (by simp_all<;>omega)] at hstep;exact hstep,by omega⟩
  ·refine z7 Z Z c6<|z7 Z Z c6<|z7 Z Z c6<|ax Z c6 Z<|aj Z<|z8 Z Z Z<|aa Z<|z8 Z Z Z<|zh (nO _ (by omega) (by omega) hL) Z<|z8 Z Z Z<|aC Z<|ax Z Z Z<|z6<|zy Z (fun c9=>?_) (fun c9=>?_)
   ·refine ai<|ab Z<|z6<|zg<|zn (x:=.bool _) Z ?_
    rw[if_pos (by simp_all<;>omega)] at hstep;exact jb hstep
   ·refine zi ?_
    exact ⟨p+(Utf8.decode s p).2,eo,trivial,aH,by rw[if_neg (by simp_all<;>omega)] at hstep;exact hstep,by omega⟩
 ·rw[pK,dif_neg hlt] at hp
  refine ai<|az.nextTover Z .head hlt<|za (jJ Z Z)<|z6<|zd<|yg Z Z<|y6<|ai<|za (yv (v:=.str _) Z)<|za (Gv.neqT Z Z)<|aj Z<|zq (s:=25) Z (fun c10=>?_) (fun c10=>?_)
  ·refine z8 Z Z c10<|za (yv (v:=.str _) Z)<|z8 Z Z c10<|zh (xf _ (by assumption)) Z<|z8 Z Z c10<|za (Gv.leq Z Z)<|aw Z c10 Z<|ab Z<|z6<|zg<|zn (x:=.bool _) Z ?_
   rw[←hp];exact jb (by simp_all<;>(try omega))
  ·refine z7 Z Z c10<|z7 Z Z c10<|z7 Z Z c10<|ax Z c10 Z<|ab Z<|z6<|zg<|zn (x:=.bool _) Z ?_
   rw[←hp];exact jb (by simp_all<;>(try omega))
end Go.Proofs.YtdilpodccjlkgaaGreatDoor
namespace Go.Proofs.YtdilpodccjlkgaaGreatDoor
open Go.Proofs.Tryz
open Go.Proofs Go.Lib Go.Shelf Go.RowKit
set_option maxRecDepth 20000
variable {E:World}
def jQ (t:Int):ByteArray:=if t=0 then ⟨#[105,110,116]⟩ else if t=1 then ⟨#[98,111,111,108]⟩ else if t=2 then ⟨#[97,114,114]⟩ else ⟨#[]⟩
theorem EK (s:ByteArray):HD s.data.toList=s:=by unfold HD;simp
def zB:List Int→Bool
 |[]=>false
 |c::rs=>eJ c&&(rs.all eR&&decide (rs.length+1≤16))
theorem tn {c:Int} (h:eJ c=true):eR c=true:=by unfold eR;rw[h];rfl
theorem CS (s:ByteArray):∀(n p:Nat),s.size - p≤n→0<p→p≤s.size→pK s p=((bQ s p).all eR&&decide ((bQ s 0).length≤16)):=by
 intro n
 induction n with
 |zero=>
  intro p h hp hps
  have hne:¬s=⟨#[]⟩:=fun e=>by subst e;have:p≤0:=hps;omega
  rw[pK,dif_neg (by omega),dq (p:=p) (by omega)]
  simp[hne];omega
 |succ n ih=>
  intro p h hp hps
  by_cases hlt:p<s.size
  ·have hd:=(ep s p).1
   have hw:p+(Utf8.decode s p).2≤s.size:=by
    have:=decodeL_le (s.data.toList.drop p) (by intro e;have:=congrArg List.length e;rw[List.length_drop] at this;have h2:s.data.toList.length=s.size:=Array.length_toList;simp only[List.length_nil] at this;omega)
    rw[decodeL_drop,List.length_drop] at this
    have h2:s.data.toList.length=s.size:=Array.length_toList
    omega
   rw[pK,dif_pos hlt,e7 hlt,List.all_cons]
   have hp0:decide (p=0)=false:=w9 (by omega)
   rw[hp0,Bool.false_and,Bool.false_or]
   cases hi:eR ((Utf8.decode s p).1:Int) with
   |false=>simp
   |true=>rw[if_neg (by simp),ih _ (by omega) (by omega) hw];simp
  ·have hne:¬s=⟨#[]⟩:=fun e=>by subst e;have:p≤0:=hps;omega
   rw[pK,dif_neg hlt,dq (p:=p) hlt]
   simp[hne];omega
theorem EL {s:ByteArray} {p:Nat} (hlt:p<s.size):p+(Utf8.decode s p).2≤s.size:=by
 have h2:s.data.toList.length=s.size:=Array.length_toList
 have:=decodeL_le (s.data.toList.drop p) (by intro e;have:=congrArg List.length e;rw[List.length_drop] at this;simp only[List.length_nil] at this;omega)
 rw[decodeL_drop,List.length_drop] at this
 omega
theorem xh (s:ByteArray):eS s=zB (bQ s 0):=by
 unfold eS
 by_cases hlt:0<s.size
 ·have hd:=(ep s 0).1
  have hw:=EL hlt
  have hr:=e7 hlt
  have hl:=congrArg List.length hr
  rw[List.length_cons] at hl
  rw[pK,dif_pos hlt]
  have h2:zB (bQ s 0)=(eJ ((Utf8.decode s 0).1:Int)&&((bQ s (0+(Utf8.decode s 0).2)).all eR&&decide ((bQ s (0+(Utf8.decode s 0).2)).length+1≤16))):=by rw[hr];rfl
  rw[h2]
  cases hc:eJ ((Utf8.decode s 0).1:Int) with
  |false=>simp
  |true=>
   rw[tn hc,if_neg (by simp),CS s _ _ (Nat.le_refl _) (by omega) hw,hl];rfl
 ·rw[pK,dif_neg hlt,dq hlt]
  have:s=⟨#[]⟩:=by
   have h2:s.data.toList.length=s.size:=Array.length_toList
   have h3:s.data.toList=[]:=List.eq_nil_of_length_eq_zero (by omega)
   rw[←EK s,h3];rfl
  simp[this,zB]
theorem zC (k:Nat):(decide ((1:Int)≤((k+1:Nat):Int))&&decide (((k+1:Nat):Int)≤16))=(([]:List Int).all eR&&decide (k+1+([]:List Int).length≤16)):=by
 rw[w8 (by omega),Bool.true_and]
 show _=(true&&_)
 rw[Bool.true_and,decide_eq_decide]
 show ((k+1:Nat):Int)≤16↔k+1+0≤16
 omega
theorem tq (s:ByteArray):∀(n p k:Nat),s.size - p≤n→eO s p (k+1)=((bQ s p).all eR&&decide (k+1+(bQ s p).length≤16)):=by
 intro n
 induction n with
 |zero=>
  intro p k h
  rw[eO,dif_neg (by omega),dq (by omega)]
  exact zC k
 |succ n ih=>
  intro p k h
  by_cases hlt:p<s.size
  ·have hd:=(ep s p).1
   rw[eO,dif_pos hlt,e7 hlt,List.all_cons]
   have ho:dM ((Utf8.decode s p).1:Int) (k+1)=eR ((Utf8.decode s p).1:Int):=by
    unfold dM eR eJ pJ
    have:decide (((k+1:Nat):Int)=0)=false:=w9 (by omega)
    rw[this];simp[Bool.or_assoc]
   rw[ho]
   cases hi:eR ((Utf8.decode s p).1:Int) with
   |false=>simp
   |true=>rw[if_pos rfl,ih _ _ (by omega),Bool.true_and,List.length_cons];congr 2;simp;omega
  ·rw[eO,dif_neg hlt,dq hlt]
   exact zC k
theorem EM (s:ByteArray):mC s=zB (bQ s 0):=by
 unfold mC
 by_cases hlt:0<s.size
 ·rw[eO,dif_pos hlt,e7 hlt]
  have ho:dM ((Utf8.decode s 0).1:Int) 0=eJ ((Utf8.decode s 0).1:Int):=by unfold dM eJ;simp
  rw[ho]
  show _=(eJ ((Utf8.decode s 0).1:Int)&&_)
  cases hc:eJ ((Utf8.decode s 0).1:Int) with
  |false=>simp
  |true=>rw[if_pos rfl,tq s _ _ _ (Nat.le_refl _),Bool.true_and];congr 2;simp;omega
 ·rw[eO,dif_neg hlt,dq hlt];rfl
theorem oK (s:ByteArray):mC s=eS s:=by rw[EM,xh]
structure bM (f:ac) (x:aF):Prop where
 op:0≤x.op∧x.op≤26
 len:x.args.length=(bb x.op).length
 dst:(cR x.op=false∧x.dst=-1)∨(cR x.op=true∧x.dst≠-1∧bc f x.dst=true)
 num:pg x.op=false→x.num=0
 args:∀a∈x.args,bc f a=true
theorem gN {f:ac} {x:aF} (h:pE f x):bM f x:=by
 obtain ⟨h1,h2,h3,h4⟩:=h
 have hw:=ss ⟨h1,h2⟩
 unfold nd at h3
 simp only[Bool.or_eq_false_iff,Bool.not_eq_false',wg,Bool.and_eq_false_iff,beq_iff_eq] at h3
 obtain ⟨g1,g2,g3,g4⟩:=h3
 refine ⟨⟨h1,h2⟩,by rw[nh];omega,?_,fun hn=>?_,List.all_eq_true.1 h4⟩
 ·rw[ln]
  by_cases hd:x.dst=-1
  ·left
   rw[w8 hd] at g2
   exact ⟨by rw[g2];rfl,hd⟩
  ·right
   rw[w9 hd] at g2
   refine ⟨by rw[g2];rfl,hd,?_⟩
   rcases g3 with g|g
   ·exact absurd g hd
   ·exact g
 ·rcases g4 with g|g
  ·exact g
  ·rw[hw,hn] at g;cases g
theorem uY (t:Int):aM prog E 174 [.int .i64 t] (.str (jQ t)):=by
 refine zp func174 Z (by decide) Z<|ai<|za (qi (v:=.str _) Z)<|z6<|zd<|ai<|aa Z<|z6<|zm<|ai<|ak Z Z<|ab Z<|z6<|zy Z (fun c1=>?_) (fun c1=>?_)
 ·refine ai<|za (qi (v:=.str _) Z)<|z6<|zg<|zn (x:=.str _) Z ?_
  exact congrArg AV.str (by simp_all[jQ])
 ·refine ai<|ak Z Z<|ab Z<|z6<|zy Z (fun c2=>?_) (fun c2=>?_)
  ·refine ai<|za (qi (v:=.str _) Z)<|z6<|zg<|zn (x:=.str _) Z ?_
   exact congrArg AV.str (by simp_all[jQ])
  ·refine ai<|ak Z Z<|ab Z<|z6<|zy Z (fun c3=>?_) (fun c3=>?_)
   ·refine ai<|za (qi (v:=.str _) Z)<|z6<|zg<|zn (x:=.str _) Z ?_
    exact congrArg AV.str (by simp_all[jQ])
   ·refine zi<|ai<|za (qi (v:=.str _) Z)<|z6<|zg<|zn (x:=.str _) Z ?_
    exact congrArg AV.str (by simp_all[jQ])
end Go.Proofs.YtdilpodccjlkgaaGreatDoor
namespace Go.Proofs.YtdilpodccjlkgaaGreatDoor
open Go.Proofs.Tryz
open Go.Proofs Go.Lib Go.Shelf Go.RowKit
theorem zD:da prog 242 9 1 1 [.str ⟨#[]⟩]:=⟨_,Yq,Y8,zeroValue9,by decide,by decide,by kernel_rfl⟩
set_option maxRecDepth 20000
variable {E:World}
def uZ (s:ByteArray) (l:List ByteArray):Bool:=l.any fun t=>decide (t=s)
theorem zE {s:ByteArray} {l:List ByteArray}:uZ s l=true↔s∈l:=by
 unfold uZ;rw[List.any_eq_true]
 constructor
 ·rintro ⟨x,hx,h⟩;have h:x=s:=by simpa using h
  exact h▸hx
 ·intro h;exact ⟨s,h,by simp⟩
theorem CT {s t:ByteArray} {l:List ByteArray}:uZ s (l++[t])=(uZ s l||decide (t=s)):=by unfold uZ;rw[List.any_append];simp
def xi (l:List ByteArray):Prop:=∀i (h:i<l.length),eS l[i]=true∧uZ l[i] (l.take i)=false
instance (l:List ByteArray):Decidable (xi l):=by unfold xi;infer_instance
theorem zF {t:ByteArray} {l:List ByteArray} {mt:Int} (ht:mt=if uZ t l=true then 1 else 0) (hc:decide (0<mt)=false):uZ t l=false:=by
 have hc:=we hc
 cases h:uZ t l with
 |true=>rw[h] at ht;simp at ht;omega
 |false=>rfl
theorem CU {s t:ByteArray} {l:List ByteArray} {m:Option Int} {mt:Int} (hs:m.getD 0=if uZ s l=true then 1 else 0) (ht:mt=if uZ t l=true then 1 else 0) (hc:decide (0<mt)=false) :
  (if s=t then some (mt+1) else m).getD 0=if (uZ s l||decide (t=s))=true then 1 else 0:=by
 have h:=zF ht hc
 rw[h] at ht
 have ht:mt=0:=by simpa using ht
 by_cases e:s=t
 ·subst e;simp[ht]
 ·rw[if_neg e,hs]
  have e2:¬t=s:=fun h=>e h.symm
  simp[e2]
theorem CV {l:List ByteArray} {k:Nat} (hn:∀i (h:i<l.length),i<k→eS l[i]=true∧uZ l[i] (l.take i)=false) (hk:k<l.length) (h1:eS l[k]=true) (h2:uZ l[k] (l.take k)=false) :
  ∀i (h:i<l.length),i<k+1→eS l[i]=true∧uZ l[i] (l.take i)=false:=fun i h hi=>by
 by_cases e:i=k
 ·subst e;exact ⟨h1,h2⟩
 ·exact hn i h (by omega)
theorem nP (l:List ByteArray) (hl:l.length≤100000000) (hs:∀s∈l,s.size≤140737488355328) (hL:bz E):aM prog E 175 [.fro 1 (l.map rF)] (.bool (decide (xi l))):=by
 refine zp func175 Z (by decide) Z<|ai<|ab Z<|z6<|ai<|az.makeMap<|fun b6=>za (qi (v:=dy _) Z)<|z6<|zd<|ai<|be Z<|aq Yq Z<|aa Z<|z6<|zm<|y8 (γ:=Nat × List (ByteArray × Int)) [3,7,8] (fun g=>[(9,.int .i64 g.1)]) (fun g=>[(0,Ax b6 g.2)]) (fun g=>g.1≤l.length∧(∀i (h:i<l.length),i<g.1→eS l[i]=true∧uZ l[i] (l.take i)=false)∧∀s,(ks s g.2).getD 0=if uZ s (l.take g.1)=true then 1 else 0) (fun g=>l.length - g.1) (0,[]) aK aH (⟨qw _,fun i h h2=>absurd h2 (Nat.not_lt_zero _),fun s=>Z⟩) ?_
 rintro ⟨k,es⟩ ⟨hk,hn,hm⟩
 try dsimp only at *
 refine ai<|ay Z Z<|z6<|zd<|zt Z (fun ck=>?_) (fun ck=>?_)
 ·have hk2:k<l.length:=by omega
  have hmk:=hm l[k]
  have hz:=hs _ (qx hk2)
  refine zi<|zd<|zm<|ai<|za (bv k Yq Y8 Z Z Z (qt hk2))<|za (yx (c:=.str _) Yh Z)<|za (qi (v:=.str _) Z)<|z6<|zd<|ai<|za (yv (v:=.str _) Z)<|zh (xg _ hz hL) Z<|aC Z<|aj Z<|zq (s:=16) Z (fun c1=>?_) (fun c1=>?_)
  ·refine z7 Z Z c1<|z7 Z Z c1<|z7 Z Z c1<|z7 Z Z c1<|aw Z c1 Z<|z6<|yt Z Z<|ai<|ab Z<|z6<|zg<|zn (x:=.bool _) Z ?_
   exact jb (w9 fun h=>by have h:=h k hk2;simp_all).symm
  ·refine z8 Z Z c1<|za (yv (v:=dy _) Z)<|z8 Z Z c1<|za (yv (v:=.str _) Z)<|z8 Z Z c1<|za (Gv.lookup1S underlying274 Zr Zv Z Z ⟨_,.head⟩)<|z8 Z Z c1<|aZ Z Z<|ax Z c1 Z<|z6<|zy Z (fun c2=>?_) (fun c2=>?_)
   ·refine ai<|ab Z<|z6<|zg<|zn (x:=.bool _) Z ?_
    exact jb (w9 fun h=>by have h:=h k hk2;simp_all).symm
   ·refine zi<|aW<|za (yv (v:=dy _) Z)<|za (yv (v:=.str _) Z)<|za (Gv.lookup1S underlying274 Zr Zv Z Z ⟨_,.head⟩)<|za (Gv.add Z Z (by first|(unfold lE;omega)|(unfold lE;rw[hmk];split<;>omega)))<|az.mapSet underlying274 Zr Z Z Z .head<|z6<|aW<|za (Gv.add Z Z (by first|(unfold lE;omega)|(unfold lE;rw[hmk];split<;>omega)))<|aa Z<|z6 ?_
    exact ⟨(k+1,od l[k] ((ks l[k] es).getD 0+1) es),db,aK,aH,⟨hk2,CV hn hk2 (by simpa using c1) (zF hmk (by assumption)),fun s=>by dsimp only;rw[uo,qu hk2,CT];exact CU (hm s) hmk (by assumption)⟩,by dsimp only;omega⟩
 ·have hkn:k=l.length:=by omega
  refine y6<|ai<|ab Z<|z6<|zg<|zn (x:=.bool _) Z ?_
  exact jb (w8 fun i h=>hn i h (by omega)).symm
theorem map_take {α:Type} {g:α→ByteArray} {l:List α} {k:Nat} (h:k<l.length):(l.map g).take (k+1)=(l.map g).take k++[g l[k]]:=by
 rw[qu (by simpa using h)];simp
def dS (f:ac):List ByteArray:=f.vars.map uF.name
def d5 (f:ac):List ByteArray:=f.blocks.map aX.name
@[simp] theorem Iw (f:ac):(dS f).length=f.vars.length:=by unfold dS;simp
@[simp] theorem Ix (f:ac):(d5 f).length=f.blocks.length:=by unfold d5;simp
theorem EN {f:ac} {k:Nat} (h:k<f.vars.length):(dS f).take (k+1)=(dS f).take k++[f.vars[k].name]:=map_take h
theorem EO {f:ac} {k:Nat} (h:k<f.blocks.length):(d5 f).take (k+1)=(d5 f).take k++[f.blocks[k].name]:=map_take h
def EP (f:ac):Prop:=∀i (h:i<f.params.length),f.params[i]=(i:Int)
instance (f:ac):Decidable (EP f):=by unfold EP;infer_instance
def EQ (f:ac):Prop:=∀i (h:i<f.vars.length),¬jQ f.vars[i].ty=⟨#[]⟩
instance (f:ac):Decidable (EQ f):=by unfold EQ;infer_instance
def lJ (f:ac):Prop:=f.vars.length≤512∧f.params.length≤8∧f.params.length≤f.vars.length∧1≤f.blocks.length∧f.blocks.length≤64
instance (f:ac):Decidable (lJ f):=by unfold lJ;infer_instance
def f9 (f:ac):Prop:=EQ f∧EP f∧lJ f∧xi (dS f)∧xi (d5 f)
instance (f:ac):Decidable (f9 f):=by unfold f9;infer_instance
theorem u4 (f:ac) (h1:f.vars.length≤100000000) (h2:f.blocks.length≤100000000) (hp:f.params.length≤100000000) (hn:mD f) (hL:bz E):aM prog E 139 [.agg (bE f)] (.bool (decide (f9 f))):=by
 have hnv:(dS f).length=f.vars.length:=by unfold dS;simp
 have hnb:(d5 f).length=f.blocks.length:=by unfold d5;simp
 refine zp func139 Z (by decide) Z<|ai<|ya (cs:=_) Z Z Z<|ab Z<|z6<|ai<|za (jI Z)<|za (jI Z)<|z6<|gU (t:=3) (k:=1) (T:=9) Z<|fun i3=>gU (t:=4) (k:=1) (T:=9) Z<|fun i4=>zd<|ai<|au jg Z Yc Z Z<|aI Yn Z<|aq Z9 Z<|aa Z<|z6<|zm<|y8 (γ:=Nat × Nat) [1,4,12,13] (fun g=>[(3,.own g.2 g.1),(14,.int .i64 g.1)]) (fun g=>[(i4,.grow 1 9 []),(g.2,.grow 1 9 ((((dS f).take g.1).map rF).flatten))]) (fun g=>g.1≤f.vars.length∧∀i (h:i<f.vars.length),i<g.1→¬jQ f.vars[i].ty=⟨#[]⟩) (fun g=>f.vars.length - g.1) (0,i3) eo aH (⟨qw _,fun i h h2=>absurd h2 (Nat.not_lt_zero _)⟩) ?_
 rintro ⟨k,i⟩ ⟨hk,hT⟩
 try dsimp only at *
 refine ai<|ay Z Z<|z6<|zd<|zt Z (fun ck=>?_) (fun ck=>?_)
 ·have hk2:k<f.vars.length:=by simp at ck;omega
  refine zi<|zd<|zm<|ai<|za (bv k Z9 Yd Z Z Z (qt hk2))<|ae isAgg61 Yd Z Z<|y7 (cs:=[.str ⟨#[]⟩,.int .i64 0]) zeroValue61 Z Z<|fun i6=>y1 Yd Z Z Z Z Z Z .head Z<|z6<|ai<|za (im Z)<|za (zf Zm Z Y8 (by decide) Z Z)<|za (zo (c:=.str _) Yh Z ⟨_,.head⟩ Z)<|y4 (rows:=[[_]]) zD Z Z Z Z Z<|yu (k:=1) Yq type9 Z Z Z Z Z (fun _=>.t2) (by rw[mr (k:=1) (fun _=>rfl),w7];omega) (by decide) Z (by show (_+1)*16≤_;omega) (by show _+1≤_;omega)<|fun i22=>za (eD Z)<|z6<|ai<|za (zf Zm Z X2 (by decide) Z Z)<|za (zo (c:=.int _ _) Xh Z ⟨_,.head⟩ Z)<|zh (uY _) Z<|za (q4 Z Z)<|z6<|zt Z (fun ct=>?_) (fun ct=>?_)
  ·refine ai<|ab Z<|z6<|zg<|zn (x:=.bool _) Z ?_
   exact jb (w9 fun h=>h.1 k hk2 (by simpa using ct)).symm
  ·refine zi<|aW<|aE Z Z<|aa Z<|z6 ?_
   exact ⟨(k+1,i22),gH,eo,⟨_,(.drop (.refl _)),by dsimp only;rw[←lc (enc:=rF) (EN hk2)];rfl⟩,⟨hk2,fun i h h2=>by by_cases e:i=k;(subst e;simpa using ct);exact hT i h (by dsimp only at h2;omega)⟩,by dsimp only;omega⟩
 ·have hkn:k=f.vars.length:=by simp at ck;omega
  subst hkn
  rw[List.take_of_length_le (by omega:(dS f).length≤f.vars.length)]
  have hTys:EQ f:=fun i h=>hT i h h
  refine y6<|zd<|ai<|au jg Z Z8 Z Z<|aI Zg Z<|aq ju Z<|aa Z<|z6<|zm<|y8 (γ:=Nat × Nat) [1,3,29,30] (fun g=>[(4,.own g.2 g.1),(31,.int .i64 g.1)]) (fun g=>[(g.2,.grow 1 9 ((((d5 f).take g.1).map rF).flatten)),(i,.grow 1 9 (((dS f).map rF).flatten))]) (fun g=>g.1≤f.blocks.length) (fun g=>f.blocks.length - g.1) (0,i4) eo aH (qw _) ?_
  rintro ⟨k,j⟩ hk
  try dsimp only at *
  refine ai<|ay Z Z<|z6<|zd<|zt Z (fun ck=>?_) (fun ck=>?_)
  ·have hk2:k<f.blocks.length:=by simp at ck;omega
   refine zi<|zd<|zm<|ai<|za (bv k ju jx Z Z Z (qt hk2))<|ae Yo jx Z Z<|y7 (cs:=[.str ⟨#[]⟩,.raw (.slice none 0 0),.raw (.slice none 0 0),.int .i64 0,.int .i64 0,.int .i64 0,.int .i64 0]) Zl Z Z<|fun i8=>y1 jx Z Z Z Z Z Z .head Z<|z6<|aW<|za (im Z)<|za (zf ji Z Y8 (by decide) Z Z)<|za (zo (c:=.str _) Yh Z ⟨_,.head⟩ Z)<|y4 (rows:=[[_]]) zD Z Z Z Z Z<|yu (k:=1) Yq type9 Z Z Z Z Z (fun _=>.t1) (by rw[mr (k:=1) (fun _=>rfl),w7];omega) (by decide) Z (by show (_+1)*16≤_;omega) (by show _+1≤_;omega)<|fun i39=>za (eD Z)<|z6<|aW<|aE Z Z<|aa Z<|z6 ?_
   exact ⟨(k+1,i39),gH,eo,⟨_,(.drop (.refl _)),by dsimp only;rw[←lc (enc:=rF) (EO hk2)];rfl⟩,hk2,by dsimp only;omega⟩
  ·have hkn:k=f.blocks.length:=by simp at ck;omega
   subst hkn
   rw[List.take_of_length_le (by omega:(d5 f).length≤f.blocks.length)]
   refine y6<|zd<|ai<|au jg Z j7 Z Z<|aI jf Z<|aq wy Z<|aa Z<|z6<|zm<|y8 (γ:=Nat) [1,3,4,42,43] (fun k=>[(44,.int .i64 k)]) (fun k=>[(j,.grow 1 9 (((d5 f).map rF).flatten)),(i,.grow 1 9 (((dS f).map rF).flatten))]) (fun k=>k≤f.params.length∧∀i (h:i<f.params.length),i<k→f.params[i]=(i:Int)) (fun k=>f.params.length - k) 0 aK aH (⟨qw _,fun i h h2=>absurd h2 (Nat.not_lt_zero _)⟩) ?_
   rintro k ⟨hk,hP⟩
   refine ai<|ay Z Z<|z6<|zd<|zt Z (fun ck=>?_) (fun ck=>?_)
   ·have hk2:k<f.params.length:=by simp at ck;omega
    refine zi<|zd<|zm<|ai<|aa Z<|za (bv k wy wz Z Z Z (qt hk2))<|aA j6 Z<|ao Z<|ao Z<|z6<|ai<|aa Z<|aa Z<|aO Z Z<|z6<|zy Z (fun cp=>?_) (fun cp=>?_)
    ·refine ai<|ab Z<|z6<|zg<|zn (x:=.bool _) Z ?_
     exact jb (w9 fun h=>by have:=h.2.1 k hk2;simp[this] at cp).symm
    ·refine zi<|aW<|aE Z Z<|aa Z<|z6 ?_
     exact ⟨k+1,nJ,aK,aH,⟨hk2,fun i h h2=>by by_cases e:i=k;(subst e;simpa using cp);exact hP i h (by omega)⟩,by omega⟩
   ·have hkn:k=f.params.length:=by simp at ck;omega
    subst hkn
    have hPar:EP f:=fun i h=>hP i h h
    refine zz (aS.know (t:=3) (rows:=(dS f).map rF) Z .t1 (by intro r hr;obtain ⟨x,_,rfl⟩:=List.mem_map.1 hr;rfl) (by decide) (by simp))<|zz (aS.know (t:=4) (rows:=(d5 f).map rF) Z .head (by intro r hr;obtain ⟨x,_,rfl⟩:=List.mem_map.1 hr;rfl) (by decide) (by simp))<|y6<|ai<|be Z<|aq Yq Z<|za (Gv.leq Z Z)<|aj Z<|zq (s:=56) Z (fun c3=>?_) (fun c3=>?_)
    ·refine z8 Z Z c3<|au jg Z j7 Z Z<|z8 Z Z c3<|aI jf Z<|z8 Z Z c3<|aq wy Z<|z8 Z Z c3<|be Z<|z8 Z Z c3<|aq Yq Z<|z8 Z Z c3<|za (Gv.minI Z Z)<|z8 Z Z c3<|za (Gv.leq Z Z)<|aw Z c3 Z<|aj Z<|zq (s:=65) Z (fun c4=>?_) (fun c4=>?_)
     ·refine z8 Z Z c4<|be Z<|z8 Z Z c4<|aq Yq Z<|z8 Z Z c4<|za (q5 Z Z)<|aw Z c4 Z<|aj Z<|zq (s:=70) Z (fun c5=>?_) (fun c5=>?_)
      ·refine z8 Z Z c5<|be Z<|z8 Z Z c5<|aq Yq Z<|z8 Z Z c5<|za (Gv.leq Z Z)<|aw Z c5 Z<|aj Z<|zq (s:=75) Z (fun c6=>?_) (fun c6=>?_)
       ·refine z8 Z Z c6<|be Z<|z8 Z Z c6<|zh (nP (dS f) (by omega) (fun s hs=>by obtain ⟨v,hv,rfl⟩:=List.mem_map.1 hs;exact hn.1 v hv) hL) Z<|aw Z c6 Z<|aj Z<|zq (s:=79) Z (fun c7=>?_) (fun c7=>?_)
        ·refine z8 Z Z c7<|be Z<|z8 Z Z c7<|zh (nP (d5 f) (by omega) (fun s hs=>by obtain ⟨v,hv,rfl⟩:=List.mem_map.1 hs;exact hn.2 v hv) hL) Z<|aw Z c7 Z<|ab Z<|z6<|zg<|zn (x:=.bool _) Z ?_
         exact jb (by unfold f9 lJ;simp_all<;>grind)
        ·refine z7 Z Z c7<|z7 Z Z c7<|ax Z c7 Z<|ab Z<|z6<|zg<|zn (x:=.bool _) Z ?_
         exact jb (by unfold f9 lJ;simp_all<;>grind)
       ·refine z7 Z Z c6<|z7 Z Z c6<|ax Z c6 Z<|aj Z<|z7 Z Z Z<|z7 Z Z Z<|ax Z Z Z<|ab Z<|z6<|zg<|zn (x:=.bool _) Z ?_
        exact jb (by unfold f9 lJ;simp_all<;>grind)
      ·refine z7 Z Z c5<|z7 Z Z c5<|z7 Z Z c5<|ax Z c5 Z<|aj Z<|z7 Z Z Z<|z7 Z Z Z<|ax Z Z Z<|aj Z<|z7 Z Z Z<|z7 Z Z Z<|ax Z Z Z<|ab Z<|z6<|zg<|zn (x:=.bool _) Z ?_
       exact jb (by unfold f9 lJ;simp_all<;>grind)
     ·refine z7 Z Z c4<|z7 Z Z c4<|z7 Z Z c4<|ax Z c4 Z<|aj Z<|z7 Z Z Z<|z7 Z Z Z<|z7 Z Z Z<|ax Z Z Z<|aj Z<|z7 Z Z Z<|z7 Z Z Z<|ax Z Z Z<|aj Z<|z7 Z Z Z<|z7 Z Z Z<|ax Z Z Z<|ab Z<|z6<|zg<|zn (x:=.bool _) Z ?_
      exact jb (by unfold f9 lJ;simp_all<;>grind)
    ·refine z7 Z Z c3<|z7 Z Z c3<|z7 Z Z c3<|z7 Z Z c3<|z7 Z Z c3<|z7 Z Z c3<|z7 Z Z c3<|ax Z c3 Z<|aj Z<|z7 Z Z Z<|z7 Z Z Z<|z7 Z Z Z<|ax Z Z Z<|aj Z<|z7 Z Z Z<|z7 Z Z Z<|z7 Z Z Z<|ax Z Z Z<|aj Z<|z7 Z Z Z<|z7 Z Z Z<|ax Z Z Z<|aj Z<|z7 Z Z Z<|z7 Z Z Z<|ax Z Z Z<|ab Z<|z6<|zg<|zn (x:=.bool _) Z ?_
     exact jb (by unfold f9 lJ;simp_all<;>grind)
def kp (f:ac) (p:dG):Bool:=!decide (p.args.length=0)&&decide (p.args.length=p.from_.length)&&bc f p.dst&&p.args.all (bc f)&&p.from_.all (eL f)
theorem A5 (f:ac) (v:Int):aM prog E 179 ([.int .i64 v]++[.pf (bE f)]) (.bool (!eL f v)):=by
 refine zp func179 Z (by decide) Z<|ai<|ab Z<|z6<|ai<|ae jv jj Z Z<|aa Z<|zh (oI _ _) Z<|aC Z<|ab Z<|z6<|zg<|zn (x:=.bool _) Z ?_
 rfl
theorem CW (f:ac) (p:dG) (hp:yQ p):aM prog E 142 [.agg (bE f),.agg (fe p)] (.bool (kp f p)):=by
 have hl1:=hp.1.lt
 have hl2:=hp.2.lt
 refine zp func142 Z (by decide) Z<|ai<|ya (cs:=_) Z Z Z<|ya (cs:=_) Z Z Z<|ab Z<|z6<|zd<|ai<|au jz Z j7 Z Z<|aI jf Z<|aq wy Z<|ak Z Z<|aj Z<|zq (s:=9) Z (fun c8=>?_) (fun c8=>?_)
 ·refine z7 Z Z c8<|z7 Z Z c8<|z7 Z Z c8<|z7 Z Z c8<|z7 Z Z c8<|z7 Z Z c8<|z7 Z Z c8<|aw Z c8 Z<|aj Z<|z7 Z Z Z<|z7 Z Z Z<|z7 Z Z Z<|z7 Z Z Z<|z7 Z Z Z<|aw Z Z Z<|aj Z<|z7 Z Z Z<|z7 Z Z Z<|z7 Z Z Z<|z7 Z Z Z<|z7 Z Z Z<|aw Z Z Z<|z6<|yt Z Z<|ai<|ab Z<|z6<|zg<|zn (x:=.bool _) Z ?_
  exact jb (by have:=List.any_eq_not_all_not (l:=p.from_) (p:=fun x=>!eL f x);simp_all[kp,Int.ofNat_inj]<;>grind)
 ·refine z8 Z Z c8<|au jz Z j7 Z Z<|z8 Z Z c8<|aI jf Z<|z8 Z Z c8<|aq wy Z<|z8 Z Z c8<|au jz Z j7 Z Z<|z8 Z Z c8<|aI jf Z<|z8 Z Z c8<|aq wy Z<|z8 Z Z c8<|aO Z Z<|ax Z c8 Z<|aj Z<|zq (s:=18) Z (fun c9=>?_) (fun c9=>?_)
  ·refine z7 Z Z c9<|z7 Z Z c9<|z7 Z Z c9<|z7 Z Z c9<|z7 Z Z c9<|aw Z c9 Z<|aj Z<|z7 Z Z Z<|z7 Z Z Z<|z7 Z Z Z<|z7 Z Z Z<|z7 Z Z Z<|aw Z Z Z<|z6<|yt Z Z<|ai<|ab Z<|z6<|zg<|zn (x:=.bool _) Z ?_
   exact jb (by have:=List.any_eq_not_all_not (l:=p.from_) (p:=fun x=>!eL f x);simp_all[kp,Int.ofNat_inj]<;>grind)
  ·refine z8 Z Z c9<|ae jv jj Z Z<|z8 Z Z c9<|au jz Z wz Z Z<|z8 Z Z c9<|aA j6 Z<|z8 Z Z c9<|zh (kK _ _) Z<|z8 Z Z c9<|aC Z<|ax Z c9 Z<|aj Z<|zq (s:=25) Z (fun c10=>?_) (fun c10=>?_)
   ·refine z7 Z Z c10<|z7 Z Z c10<|z7 Z Z c10<|z7 Z Z c10<|z7 Z Z c10<|aw Z c10 Z<|z6<|yt Z Z<|ai<|ab Z<|z6<|zg<|zn (x:=.bool _) Z ?_
    exact jb (by have:=List.any_eq_not_all_not (l:=p.from_) (p:=fun x=>!eL f x);simp_all[kp,Int.ofNat_inj]<;>grind)
   ·refine z8 Z Z c10<|ae jv jj Z Z<|z8 Z Z c10<|au jz Z j7 Z Z<|z8 Z Z c10<|aI jf Z<|z8 Z Z c10<|zh (sd f p.args (by omega)) Z<|z8 Z Z c10<|aC Z<|ax Z c10 Z<|z6<|zy Z (fun c11=>?_) (fun c11=>?_)
    ·refine ai<|ab Z<|z6<|zg<|zn (x:=.bool _) Z ?_
     exact jb (by have:=List.any_eq_not_all_not (l:=p.from_) (p:=fun x=>!eL f x);simp_all[kp,Int.ofNat_inj]<;>grind)
    ·refine zi<|ai<|au jz Z j7 Z Z<|aI jf Z<|za (Gv.func Z Z)<|zh (gW p.from_ (by omega) (A5 f)) Z<|aC Z<|ab Z<|z6<|zg<|zn (x:=.bool _) Z ?_
     exact jb (by have:=List.any_eq_not_all_not (l:=p.from_) (p:=fun x=>!eL f x);simp_all[kp,Int.ofNat_inj]<;>grind)
end Go.Proofs.YtdilpodccjlkgaaGreatDoor
namespace Go.Proofs.YtdilpodccjlkgaaGreatDoor
open Go.Proofs.Tryz
open Go.Proofs Go.Lib Go.Shelf Go.RowKit
set_option maxRecDepth 20000
variable {E:World}
theorem oq {p:dG→Bool} {fn:FuncId} {c:List AV} (xs:List dG) (hl:xs.length≤281474976710656) (hp:∀x∈xs,aM prog E fn ([.agg (fe x)]++c) (.bool (p x))) :
  aM prog E 176 [.fro 3 (xs.map fe),.fn fn [] c] (.int .i64 (cE p xs 0)):=by
 refine zp func176 Z (by decide) Z<|ai<|ao Z<|z6<|zd<|ai<|be Z<|aq Z3 Z<|aa Z<|z6<|zm<|y8 (γ:=Nat) [0,1,7] (fun k=>[(8,.int .i64 k)]) (fun k=>[]) (fun k=>k≤xs.length∧(xs.take k).all (fun x=>!p x)) (fun k=>xs.length - k) 0 aK aH (⟨qw _,Z⟩) ?_
 rintro k ⟨hk,hall⟩
 refine ai<|ay Z Z<|z6<|zd<|zt Z (fun ck=>?_) (fun ck=>?_)
 ·have hk2:k<xs.length:=by omega
  refine zi<|zd<|zm<|ai<|aa Z<|ao Z<|z6<|ai<|za (yv (v:=.fn _ _ _) Z)<|be Z<|aa Z<|za (qe Z3 Zb Z Z Z (qt (by omega)))<|ae X1 Zb Z Z<|az.callVP Z (hp _ (qx hk2)) Z<|z6<|zy Z (fun cp=>?_) (fun cp=>?_)
  ·refine ai<|aa Z<|ao Z<|z6<|zg<|zn (x:=.int _ _) Z ?_
   rw[bF p xs k hk hall,List.drop_eq_getElem_cons hk2,cE,if_pos cp]
  ·refine zi<|aW<|aE Z Z<|aa Z<|z6 ?_
   exact ⟨k+1,db,aK,aH,⟨hk2,by rw[qu hk2,List.all_append,hall];simp[cp]⟩,by omega⟩
 ·have hkn:k=xs.length:=by omega
  refine y6<|ai<|ao Z<|z6<|zg<|zn (x:=.int _ _) Z ?_
  rw[bF p xs k hk hall,hkn,List.drop_length,cE]
theorem l4 {p:dG→Bool} {fn:FuncId} {c:List AV} (xs:List dG) (hl:xs.length≤281474976710656) (hp:∀x∈xs,aM prog E fn ([.agg (fe x)]++c) (.bool (p x))) :
  aM prog E 140 [.fro 3 (xs.map fe),.fn fn [] c] (.bool (xs.any p)):=by
 refine zp func140 Z (by decide) Z<|ai<|ab Z<|z6<|ai<|be Z<|za (yv (v:=.fn _ _ _) Z)<|zh (oq xs hl hp) Z<|za (q5 Z Z)<|ab Z<|z6<|zg<|zn (x:=.bool _) Z ?_
 rw[eX]
theorem ot {p:aF→Bool} {fn:FuncId} {c:List AV} (xs:List aF) (hl:xs.length≤281474976710656) (hp:∀x∈xs,aM prog E fn ([.agg (bH x)]++c) (.bool (p x))) :
  aM prog E 97 [.fro 4 (xs.map bH),.fn fn [] c] (.int .i64 (cE p xs 0)):=by
 refine zp func97 Z (by decide) Z<|ai<|ao Z<|z6<|zd<|ai<|be Z<|aq Z0 Z<|aa Z<|z6<|zm<|y8 (γ:=Nat) [0,1,7] (fun k=>[(8,.int .i64 k)]) (fun k=>[]) (fun k=>k≤xs.length∧(xs.take k).all (fun x=>!p x)) (fun k=>xs.length - k) 0 aK aH (⟨qw _,Z⟩) ?_
 rintro k ⟨hk,hall⟩
 refine ai<|ay Z Z<|z6<|zd<|zt Z (fun ck=>?_) (fun ck=>?_)
 ·have hk2:k<xs.length:=by omega
  refine zi<|zd<|zm<|ai<|aa Z<|ao Z<|z6<|ai<|za (yv (v:=.fn _ _ _) Z)<|be Z<|aa Z<|za (qe Z0 jy Z Z Z (qt (by omega)))<|ae Zz jy Z Z<|az.callVP Z (hp _ (qx hk2)) Z<|z6<|zy Z (fun cp=>?_) (fun cp=>?_)
  ·refine ai<|aa Z<|ao Z<|z6<|zg<|zn (x:=.int _ _) Z ?_
   rw[bF p xs k hk hall,List.drop_eq_getElem_cons hk2,cE,if_pos cp]
  ·refine zi<|aW<|aE Z Z<|aa Z<|z6 ?_
   exact ⟨k+1,db,aK,aH,⟨hk2,by rw[qu hk2,List.all_append,hall];simp[cp]⟩,by omega⟩
 ·have hkn:k=xs.length:=by omega
  refine y6<|ai<|ao Z<|z6<|zg<|zn (x:=.int _ _) Z ?_
  rw[bF p xs k hk hall,hkn,List.drop_length,cE]
theorem gZ {p:aF→Bool} {fn:FuncId} {c:List AV} (xs:List aF) (hl:xs.length≤281474976710656) (hp:∀x∈xs,aM prog E fn ([.agg (bH x)]++c) (.bool (p x))) :
  aM prog E 56 [.fro 4 (xs.map bH),.fn fn [] c] (.bool (xs.any p)):=by
 refine zp func56 Z (by decide) Z<|ai<|ab Z<|z6<|ai<|be Z<|za (yv (v:=.fn _ _ _) Z)<|zh (ot xs hl hp) Z<|za (q5 Z Z)<|ab Z<|z6<|zg<|zn (x:=.bool _) Z ?_
 rw[eX]
theorem tt (f:ac) (p:dG) (hp:yQ p):aM prog E 141 ([.agg (fe p)]++[.pf (bE f)]) (.bool (!kp f p)):=by
 refine zp func141 Z (by decide) Z<|ai<|ya (cs:=_) Z Z Z<|ab Z<|z6<|ai<|ae jv jj Z Z<|ae X1 Zb Z Z<|zh (CW _ _ (by assumption)) Z<|aC Z<|ab Z<|z6<|zg<|zn (x:=.bool _) Z ?_
 rfl
theorem tu (f:ac) (x:aF) (hx:pn x.args):aM prog E 143 ([.agg (bH x)]++[.pf (bE f)]) (.bool (!dL f x)):=by
 refine zp func143 Z (by decide) Z<|ai<|ya (cs:=_) Z Z Z<|ab Z<|z6<|ai<|ae jv jj Z Z<|ae Zz jy Z Z<|zh (AU _ _ (by assumption)) Z<|aC Z<|ab Z<|z6<|zg<|zn (x:=.bool _) Z ?_
 rfl
def g9 (f:ac) (b:aX):Bool:=!(b.phis.any fun p=>!kp f p)&&!(b.insts.any fun x=>!dL f x)&&bC f b.term
theorem pL {f:ac} {b:aX} (h:(b.phis.any fun p=>!kp f p)=true):g9 f b=false:=by unfold g9;rw[h];rfl
theorem pM {f:ac} {b:aX} (h:(b.insts.any fun x=>!dL f x)=true):g9 f b=false:=by unfold g9;rw[h];simp
theorem pN {f:ac} {b:aX} (h:(!bC f b.term)=true):g9 f b=false:=by unfold g9;rw[show bC f b.term=false by simpa using h];simp
theorem CX {f:ac} {b:aX} (h1:(b.phis.any fun p=>!kp f p)=false) (h2:(b.insts.any fun x=>!dL f x)=false) (h3:(!bC f b.term)=false):g9 f b=true:=by unfold g9;rw[h1,h2,show bC f b.term=true by simpa using h3];rfl
def fq (f:ac):Bool:=decide (f9 f)&&(f.blocks.all (g9 f)&&decide (fF f.blocks≤1024))
theorem u5 (f:ac) (hf:ta f) (h1:f.vars.length≤100000000) (h2:f.blocks.length≤100000000) (hp:f.params.length≤100000000) (hn:mD f) (hL:bz E):aM prog E 103 [.agg (bE f)] (.bool (fq f)):=by
 refine zp func103 Z (by decide) Z<|ai<|ya (cs:=_) Z Z Z<|ab Z<|z6<|zd<|ai<|ae jv jj Z Z<|zh (u4 _ (by omega) (by omega) (by omega) (by assumption) hL) Z<|aC Z<|z6<|zy Z (fun cn=>?_) (fun cn=>?_)
 ·refine ai<|ab Z<|z6<|zg<|zn (x:=.bool _) Z ?_
  exact jb (by unfold fq;rw[show decide (f9 f)=false by simpa using cn];rfl)
 ·have hN:f9 f:=by simpa using cn
  have hbl:=hN.2.2.1.2.2.2.2
  refine zi<|ai<|ao Z<|z6<|zd<|ai<|au jg Z Z8 Z Z<|aI Zg Z<|aq ju Z<|aa Z<|z6<|zm<|y8 (γ:=Nat) [1,11,12] (fun k=>[(3,.int .i64 (fF (f.blocks.take k))),(13,.int .i64 k)]) (fun k=>[]) (fun k=>k≤f.blocks.length∧fF (f.blocks.take k)≤k*562949953421312∧(f.blocks.take k).all (g9 f)=true) (fun k=>f.blocks.length - k) 0 eo aH (⟨qw _,qw _,Z⟩) ?_
  rintro k ⟨hk,hsum,hall⟩
  refine ai<|ay Z Z<|z6<|zd<|zt Z (fun ck=>?_) (fun ck=>?_)
  ·have hk2:k<f.blocks.length:=by simp at ck;omega
   obtain ⟨b,hbk⟩:∃b,f.blocks[k]=b:=⟨_,rfl⟩
   have hget:f.blocks[k]?=some b:=by rw[qt hk2,hbk]
   have hb:=hf.2.2.2 b (hbk▸qx hk2)
   have hb1:=hb.1.lt
   have hb2:=hb.2.1.lt
   have hsucc:=pF f.blocks k hk2
   rw[hbk] at hsucc
   refine zi<|zd<|zm<|ai<|za (bv k ju jx Z Z Z hget)<|ae Yo jx Z Z<|y7 (cs:=[.str ⟨#[]⟩,.raw (.slice none 0 0),.raw (.slice none 0 0),.int .i64 0,.int .i64 0,.int .i64 0,.int .i64 0]) Zl Z Z<|fun i5=>y1 jx Z Z Z Z Z Z .head Z<|z6<|ai<|aa Z<|za (zf ji Z Yl (by decide) Z Z)<|za (zo (c:=.fro _ _) Yv Z ⟨_,.head⟩ Z)<|aq Z3 Z<|za (zf ji Z Zt (by decide) Z Z)<|za (zo (c:=.fro _ _) Y9 Z ⟨_,.head⟩ Z)<|aq Z0 Z<|aE Z Z<|aE Z Z<|ao Z<|z6<|ai<|za (zf ji Z Yl (by decide) Z Z)<|za (zo (c:=.fro _ _) Yv Z ⟨_,.head⟩ Z)<|za (Gv.func Z Z)<|zh (l4 b.phis (by omega) (fun p hp=>tt f p (hb.2.2.1 p hp))) Z<|aj Z<|zq (s:=30) Z (fun c1=>?_) (fun c1=>?_)
   ·refine z7 Z Z c1<|z7 Z Z c1<|z7 Z Z c1<|z7 Z Z c1<|aw Z c1 Z<|ab Z<|z6<|ai<|aj Z<|aj Z<|z7 Z Z Z<|z7 Z Z Z<|z7 Z Z Z<|z7 Z Z Z<|z7 Z Z Z<|aw Z Z Z<|z6<|yt Z Z<|ai<|ab Z<|z6<|zg<|zn (x:=.bool _) Z ?_
    exact jb (by unfold fq;rw[show f.blocks.all (g9 f)=false from Bool.eq_false_iff.2 (df hk2 (by rw[hbk];first|exact pL (by assumption)|exact pM (by assumption)|exact pN (by assumption)))];simp)
   ·refine z8 Z Z c1<|za (zf ji Z Zt (by decide) Z Z)<|z8 Z Z c1<|za (zo (c:=.fro _ _) Y9 Z ⟨_,.head⟩ Z)<|z8 Z Z c1<|za (Gv.func Z Z)<|z8 Z Z c1<|zh (gZ b.insts (by omega) (fun x hx=>tu f x (hb.2.2.2 x hx))) Z<|ax Z c1 Z<|ab Z<|z6<|ai<|aj Z<|aj Z<|zq (s:=37) Z (fun c2=>?_) (fun c2=>?_)
    ·refine z7 Z Z c2<|z7 Z Z c2<|z7 Z Z c2<|z7 Z Z c2<|z7 Z Z c2<|aw Z c2 Z<|z6<|yt Z Z<|ai<|ab Z<|z6<|zg<|zn (x:=.bool _) Z ?_
     exact jb (by unfold fq;rw[show f.blocks.all (g9 f)=false from Bool.eq_false_iff.2 (df hk2 (by rw[hbk];first|exact pL (by assumption)|exact pM (by assumption)|exact pN (by assumption)))];simp)
    ·refine z8 Z Z c2<|ae jv jj Z Z<|z8 Z Z c2<|za (zf ji Z Zo (by decide) Z Z)<|z8 Z Z c2<|za (Gv.loadAC (l:=[_,_,_,_]) isAgg49 Zo Z ⟨_,.head⟩ Z Z)<|z8 Z Z c2<|zh (AW _ _) Z<|z8 Z Z c2<|aC Z<|ax Z c2 Z<|z6<|zy Z (fun c3=>?_) (fun c3=>?_)
     ·refine ai<|ab Z<|z6<|zg<|zn (x:=.bool _) Z ?_
      exact jb (by unfold fq;rw[show f.blocks.all (g9 f)=false from Bool.eq_false_iff.2 (df hk2 (by rw[hbk];first|exact pL (by assumption)|exact pM (by assumption)|exact pN (by assumption)))];simp)
     ·refine zi<|aW<|aE Z Z<|aa Z<|z6 ?_
      exact ⟨k+1,db,⟨congrArg (AV.int .i64) (by rw[hsucc];omega),rfl,trivial⟩,⟨_,(.drop (.refl _)),rfl⟩,⟨hk2,by rw[hsucc];omega,bJ hk2 hall (by rw[hbk];exact CX (by assumption) (by assumption) (by assumption))⟩,by omega⟩
  ·have hkn:k=f.blocks.length:=by simp at ck;omega
   subst hkn
   rw[qy] at hall ⊢
   refine y6<|ai<|aa Z<|za (Gv.leq Z Z)<|ab Z<|z6<|zg<|zn (x:=.bool _) Z ?_
   exact jb (by unfold fq;rw[w8 hN,hall];simp;omega)
theorem su (f:ac) (p:dG):kp f p=true↔tm f p:=by
 unfold kp tm
 simp only[wa,Bool.not_eq_true',decide_eq_false_iff_not,wg]
 constructor
 ·rintro ⟨⟨⟨⟨h1,h2⟩,h3⟩,h4⟩,h5⟩;exact ⟨h3,h2,by omega,h4,h5⟩
 ·rintro ⟨h3,h2,h1,h4,h5⟩;exact ⟨⟨⟨⟨by omega,h2⟩,h3⟩,h4⟩,h5⟩
theorem sv (t:Int):¬jQ t=⟨#[]⟩↔0≤t∧t≤2:=by
 unfold jQ
 constructor
 ·intro h
  by_cases h0:t=0
  ·omega
  ·by_cases h1:t=1
   ·omega
   ·by_cases h2:t=2
    ·omega
    ·rw[if_neg h0,if_neg h1,if_neg h2] at h;exact absurd rfl h
 ·intro h e
  have:t=0∨t=1∨t=2:=by omega
  rcases this with rfl|rfl|rfl<;>exact absurd e (by decide)
theorem A6 (f:ac) (b:aX):g9 f b=true↔AX f b:=by
 unfold g9 AX
 simp only[wa,Bool.not_eq_true',List.any_eq_false,Bool.not_eq_false]
 constructor
 ·rintro ⟨⟨h1,h2⟩,h3⟩
  exact ⟨fun p hp=>(su f p).1 (by simpa using h1 p hp),fun x hx=>(pI f x).1 (by simpa using h2 x hx),h3⟩
 ·rintro ⟨h1,h2,h3⟩
  exact ⟨⟨fun p hp=>by simpa using (su f p).2 (h1 p hp),fun x hx=>by simpa using (pI f x).2 (h2 x hx)⟩,h3⟩
theorem CY {l:List ByteArray}:xi l↔∀i (h:i<l.length),eS l[i]=true∧l[i] ∉ l.take i:=by
 unfold xi
 constructor<;>intro h i hi
 ·exact ⟨(h i hi).1,fun hm=>by have:=zE.2 hm;rw[(h i hi).2] at this;cases this⟩
 ·exact ⟨(h i hi).1,Bool.eq_false_iff.2 fun hm=>(h i hi).2 (zE.1 hm)⟩
theorem zG {f:ac} {i:Nat} (h:i<(dS f).length) (h':i<f.vars.length):(dS f)[i]=f.vars[i].name:=by
 have:(dS f)[i]?=some f.vars[i].name:=by unfold dS;rw[w2,qt h'];rfl
 rw[qt h] at this
 simpa using this
theorem zH {f:ac} {i:Nat} (h:i<(d5 f).length) (h':i<f.blocks.length):(d5 f)[i]=f.blocks[i].name:=by
 have:(d5 f)[i]?=some f.blocks[i].name:=by unfold d5;rw[w2,qt h'];rfl
 rw[qt h] at this
 simpa using this
theorem hU (f:ac):fq f=decide (bR f):=by
 rw[w3,decide_eq_true_iff]
 unfold fq
 simp only[wa,decide_eq_true_iff,wb,A6]
 unfold f9 lJ bR nf
 simp only[CY]
 constructor
 ·rintro ⟨⟨h1,h2,⟨g1,g2,g3,g4,g5⟩,h4,h5⟩,h6,h7⟩
  refine ⟨?_,h2,fun i h=>?_,fun i h=>?_,h7,h6⟩
  ·simp;omega
  ·have ht:=(sv _).1 (h1 i h)
   have hu:=h4 i (by unfold dS;simpa using h)
   have e:=zG (f:=f) (i:=i) (by unfold dS;simpa using h) h
   rw[e] at hu
   exact ⟨by rw[oK];exact hu.1,ht.1,ht.2,fun s hs e2=>hu.2 (by unfold dS;rw[←List.map_take,←e2];exact hs)⟩
  ·have hu:=h5 i (by unfold d5;simpa using h)
   have e:=zH (f:=f) (i:=i) (by unfold d5;simpa using h) h
   rw[e] at hu
   exact ⟨by rw[oK];exact hu.1,fun s hs e2=>hu.2 (by unfold d5;rw[←List.map_take,←e2];exact hs)⟩
 ·rintro ⟨h1,h2,h3,h4,h7,h6⟩
  simp at h1
  refine ⟨⟨fun i h=>(sv _).2 ⟨(h3 i h).2.1,(h3 i h).2.2.1⟩,h2,by omega,fun i h=>?_,fun i h=>?_⟩,h6,h7⟩
  ·have h':i<f.vars.length:=by simpa using h
   have e:=zG h h'
   rw[e]
   exact ⟨by rw[←oK];exact (h3 i h').1,fun hm=>(h3 i h').2.2.2 _ (by unfold dS at hm;rw[←List.map_take] at hm;exact hm) rfl⟩
  ·have h':i<f.blocks.length:=by simpa using h
   have e:=zH h h'
   rw[e]
   exact ⟨by rw[←oK];exact (h4 i h').1,fun hm=>(h4 i h').2 _ (by unfold d5 at hm;rw[←List.map_take] at hm;exact hm) rfl⟩
end Go.Proofs.YtdilpodccjlkgaaGreatDoor
namespace Go.Proofs.YtdilpodccjlkgaaGreatDoor
open Go.Proofs.Tryz
open Go.Proofs Go.Lib Go.Shelf Go.RowKit
variable {E:World}
set_option maxRecDepth 20000
theorem bR.ends {f:ac} (h:bR f):bW f:=by
 obtain ⟨h1,_,_,_,_,h6⟩:=h
 unfold nf at h1
 simp only[Bool.or_eq_false_iff,decide_eq_false_iff_not] at h1
 refine ⟨by omega,fun b hb c hc=>?_⟩
 have ht:=(h6 b hb).2.2
 unfold bC at ht
 unfold cL at hc
 split at hc
 ·rename_i hk
  rw[if_pos hk] at ht
  simp only[wa,eL,wg] at ht
  simp at hc;subst hc;exact ht.1.1
 ·rename_i hk
  rw[if_neg hk] at ht
  split at hc
  ·rename_i hk1
   rw[if_pos hk1] at ht
   simp only[wa,eL,wg] at ht
   split at hc
   ·simp at hc;subst hc;exact ht.1.2
   ·simp at hc;rcases hc with rfl|rfl
    ·exact ht.1.2
    ·exact ht.2
  ·cases hc
def iH (f:ac) (b:aX):Bool:=b.phis.all (tb f)&&b.insts.all (dN f)&&dZ f b.term
def bi (f:ac):Bool:=fq f&&f.blocks.all (iH f)
theorem small.shaped {f:ac} (hf:small f) (hL:bz E):aM prog E 103 [.agg (bE f)] (.bool (fq f)):=
 u5 f hf.ok (by have:=hf.1;omega) (by have:=hf.2.2.1;omega) (by have:=hf.2.1;omega) hf.names hL
theorem hZ {f:ac} {t:fi} (h:bC f t=true) (hk:¬t.kind=0):bc f t.var=true:=by
 unfold bC at h
 rw[if_neg hk] at h
 split at h
 ·simp only[wa] at h;exact h.1.1
 ·split at h
  ·simp only[wa] at h;exact h.1
  ·cases h
theorem pO (f:ac) (hf:small f) (hL:bz E):aM prog E 62 [.agg (bE f)] (.int .i64 (if bi f then 0 else 3)):=by
 have hok:=hf.ok
 refine zp func62 Z (by decide) Z<|ai<|ya (cs:=_) Z Z Z<|ao Z<|z6<|zd<|ai<|ae jv jj Z Z<|zh (hf.shaped hL) Z<|aC Z<|z6<|zy Z (fun cs=>?_) (fun cs=>?_)
 ·refine ai<|ao Z<|z6<|zg<|zn (x:=.int _ _) Z ?_
  unfold bi;rw[show fq f=false by simpa using cs];rfl
 ·have hsb:fq f=true:=by simpa using cs
  have hS:bR f:=by rw[hU] at hsb;exact wd hsb
  have hB:=hS.2.2.2.2.2
  have hfl:=hok.2.2.1.lt
  refine zi<|zd<|ai<|au jg Z Z8 Z Z<|aI Zg Z<|aq ju Z<|aa Z<|z6<|zm<|y8 (γ:=Nat) [1,13,14] (fun k=>[(15,.int .i64 k)]) (fun k=>[]) (fun k=>k≤f.blocks.length∧(f.blocks.take k).all (iH f)=true) (fun k=>f.blocks.length - k) 0 aK aH (⟨qw _,Z⟩) ?_
  rintro k ⟨hk,hall⟩
  refine ai<|ay Z Z<|z6<|zd<|zt Z (fun ck=>?_) (fun ck=>?_)
  ·have hk2:k<f.blocks.length:=by simp at ck;omega
   obtain ⟨b,hbk⟩:∃b,f.blocks[k]=b:=⟨_,rfl⟩
   have hget:f.blocks[k]?=some b:=by rw[qt hk2,hbk]
   have hmem:b∈f.blocks:=hbk▸qx hk2
   obtain ⟨hph,hin,htm⟩:=hB b hmem
   have hbad:iH f b=false→bi f=false:=fun h=>by unfold bi;rw[Bool.eq_false_iff.2 (df hk2 (by rw[hbk];exact h))];simp
   have hs5:=hok.2.2.2 b hmem
   have hpl:=hs5.1.lt
   have hil:=hs5.2.1.lt
   refine zi<|zd<|zm<|ai<|za (bv k ju jx Z Z Z hget)<|ae Yo jx Z Z<|y7 (cs:=[.str ⟨#[]⟩,.raw (.slice none 0 0),.raw (.slice none 0 0),.int .i64 0,.int .i64 0,.int .i64 0,.int .i64 0]) Zl Z Z<|fun i4=>y1 jx Z Z Z Z Z Z .head Z<|ze (yd (t:=4) Z .head)<|z6<|zd<|ai<|au ji Z Yl Z Z<|aI Yv Z<|aq Z3 Z<|aa Z<|z6<|zm<|y8 (γ:=Nat) [1,4,13,14,15,20,21] (fun p=>[(22,.int .i64 p)]) (fun p=>[]) (fun p=>p≤b.phis.length∧(b.phis.take p).all (tb f)=true) (fun p=>b.phis.length - p) 0 aK aH (⟨qw _,Z⟩) ?_
   rintro p ⟨hp,hpall⟩
   refine ai<|ay Z Z<|z6<|zd<|zt Z (fun cp=>?_) (fun cp=>?_)
   ·have hp2:p<b.phis.length:=by simp at cp;omega
    have hpm:=qx hp2
    have hP:=hph _ hpm
    refine zi<|zd<|zm<|ai<|za (bv p Z3 Zb Z Z Z (qt hp2))<|ae X1 Zb Z Z<|y7 (cs:=[.int .i64 0,.raw (.slice none 0 0),.raw (.slice none 0 0)]) Yg Z Z<|fun i6=>y1 Zb Z Z Z Z Z Z .head Z<|ze (yd (t:=6) Z .head)<|z6<|ai<|ae jv jj Z Z<|ae X1 Zb Z Z<|zh (AL f b.phis[p] (hs5.2.2.1 _ hpm) hP.2.2.2.1 hP.1) Z<|aC Z<|z6<|zy Z (fun cq=>?_) (fun cq=>?_)
    ·refine ai<|ao Z<|z6<|zg<|zn (x:=.int _ _) Z ?_
     rw[hbad (by unfold iH;rw[Bool.eq_false_iff.2 (df hp2 (by simpa using cq))];rfl)];rfl
    ·refine zi<|aW<|aE Z Z<|aa Z<|z6 ?_
     exact ⟨p+1,lf,aK,aH,⟨hp2,bJ hp2 hpall (by simpa using cq)⟩,by omega⟩
   ·have hpn:p=b.phis.length:=by simp at cp;omega
    subst hpn
    rw[qy] at hpall
    refine y6<|zd<|ai<|au ji Z Zt Z Z<|aI Y9 Z<|aq Z0 Z<|aa Z<|z6<|zm<|y8 (γ:=Nat) [1,4,13,14,15,32,33] (fun q=>[(34,.int .i64 q)]) (fun q=>[]) (fun q=>q≤b.insts.length∧(b.insts.take q).all (dN f)=true) (fun q=>b.insts.length - q) 0 aK aH (⟨qw _,Z⟩) ?_
    rintro q ⟨hq,hqall⟩
    refine ai<|ay Z Z<|z6<|zd<|zt Z (fun cp2=>?_) (fun cp2=>?_)
    ·have hq2:q<b.insts.length:=by simp at cp2;omega
     have hqm:=qx hq2
     have hI:=gN (hin _ hqm)
     have hId:cR b.insts[q].op=true→bc f b.insts[q].dst=true:=fun h=>by
      rcases hI.dst with ⟨d1,_⟩|⟨_,_,d3⟩
      ·rw[h] at d1;cases d1
      ·exact d3
     refine zi<|zd<|zm<|ai<|za (bv q Z0 jy Z Z Z (qt hq2))<|ae Zz jy Z Z<|y7 (cs:=[.int .i64 0,.int .i64 0,.raw (.slice none 0 0),.int .i64 0]) Zh Z Z<|fun i8=>y1 jy Z Z Z Z Z Z .head Z<|ze (yd (t:=8) Z .head)<|z6<|ai<|ae jv jj Z Z<|ae Zz jy Z Z<|zh (wU f b.insts[q] (List.all_eq_true.2 hI.args) hI.len hId) Z<|aC Z<|z6<|zy Z (fun cq=>?_) (fun cq=>?_)
     ·refine ai<|ao Z<|z6<|zg<|zn (x:=.int _ _) Z ?_
      rw[hbad (by unfold iH;rw[hpall,Bool.eq_false_iff.2 (df hq2 (by simpa using cq))];rfl)];rfl
     ·refine zi<|aW<|aE Z Z<|aa Z<|z6 ?_
      exact ⟨q+1,lf,aK,aH,⟨hq2,bJ hq2 hqall (by simpa using cq)⟩,by omega⟩
    ·have hqn:q=b.insts.length:=by simp at cp2;omega
     subst hqn
     rw[qy] at hqall
     refine y6<|ai<|ae jv jj Z Z<|au ji Z Zo Z Z<|ae isAgg49 Zo Z Z<|zh (wY f b.term (hZ htm)) Z<|aC Z<|z6<|zy Z (fun ct=>?_) (fun ct=>?_)
     ·refine ai<|ao Z<|z6<|zg<|zn (x:=.int _ _) Z ?_
      rw[hbad (by unfold iH;rw[hpall,hqall];simpa using ct)];rfl
     ·refine zi<|aW<|aE Z Z<|aa Z<|z6 ?_
      exact ⟨k+1,db,aK,aH,⟨hk2,bJ hk2 hall (by rw[hbk];unfold iH;rw[hpall,hqall];simpa using ct)⟩,by omega⟩
  ·have hkn:k=f.blocks.length:=by simp at ck;omega
   subst hkn
   rw[qy] at hall
   refine y6<|ai<|ao Z<|z6<|zg<|zn (x:=.int _ _) Z ?_
   unfold bi;rw[hsb,hall];rfl
end Go.Proofs.YtdilpodccjlkgaaGreatDoor
