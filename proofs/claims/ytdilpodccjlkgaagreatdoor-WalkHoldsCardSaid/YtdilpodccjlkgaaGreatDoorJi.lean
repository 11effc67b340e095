/- Typed; which blocks are reached; joined. Of programs that are little. -/
import Derived.Test.YtdilpodccjlkgaaGreatDoorJh
import Derived.Test.YtdilpodccjlkgaaGreatDoorJg
import Derived.Test.YtdilpodccjlkgaaGreatDoorJc
import Derived.Lib.MapLaws
import Derived.Test.YtdilpodccjlkgaaGreatDoorJf
set_option linter.unusedVariables false
set_option linter.unusedSimpArgs false
set_option linter.unusedSectionVars false
namespace Go.Proofs.YtdilpodccjlkgaaGreatDoor
open Go.Proofs.Tryz
open Go.Proofs Go.Lib Go.Shelf Go.RowKit
set_option maxRecDepth 20000
variable {E:World}
theorem EW:∀r∈gI,r.1≠⟨#[]⟩:=by decide
theorem EX {op:Int} (h:0≤op∧op≤26):(bW op).1≠⟨#[]⟩:=by
 have hm:bW op∈gI:=by
  unfold bW
  rw[if_pos h.1,qt (show _<27 by omega)]
  exact qx _
 exact EW _ hm
theorem C3:∀j:Nat,j<27→pt (j:Int)=(decide ((bW (j:Int)).1=⟨#[99,111,110,115,116]⟩)||decide ((bW (j:Int)).1=⟨#[112,105]⟩)):=by decide
theorem sG {x:aF} (h:0≤x.op∧x.op≤26):kr x=pt x.op:=by
 have:=C3 x.op.toNat (by omega)
 rw[wc h.1] at this
 unfold kr;exact this.symm
theorem nv (op:Int):(bb op).length=(bW op).2.1.size:=by unfold bb;rw[w1];exact Array.length_toList
theorem Be (b:ByteArray):b.data.toList.isEmpty=decide (b=⟨#[]⟩):=by
 obtain ⟨⟨l⟩⟩:=b
 cases l<;>simp
theorem lC (op:Int):cS op=!decide ((bW op).2.2=⟨#[]⟩):=by unfold cS;rw[Be]
theorem Bf {op:Int} (h:¬(0≤op∧op≤26)):bW op=(⟨#[]⟩,⟨#[]⟩,⟨#[]⟩):=uN (by unfold rK;simp;omega)
theorem pR (f:ac) (x:aF):dO f x=true↔pO f x:=by
 by_cases h:0≤x.op∧x.op≤26
 ·have hw:=EX h
  have hn:=sG h
  unfold dO gr gK pO ns
  rw[nv,lC,hn]
  by_cases h1:x.args.length=(bW x.op).2.1.size<;>by_cases h2:(bW x.op).2.2=⟨#[]⟩<;>by_cases h3:x.dst=-1<;>by_cases h4:x.num=0<;>by_cases h5:x.args.all (bd f)=true<;>simp_all[Int.ofNat_inj]<;>(try (unfold bd;simp))<;>(try grind)
 ·constructor
  ·intro h2
   have:=Bf h
   unfold dO gr at h2
   rw[this] at h2;simp at h2
  ·intro h2;exact absurd ⟨h2.1,h2.2.1⟩ h
def only (f:ac) (x:aF):ac:={ f with blocks:=[⟨⟨#[111,110,108,121]⟩,[],[x],⟨0,0,0,0⟩⟩] }
def ended (f:ac) (b0:aX) (bs:List aX) (t:fk):ac:={ f with blocks:={ b0 with term:=t }::bs }
end Go.Proofs.YtdilpodccjlkgaaGreatDoor
namespace Go.Proofs.YtdilpodccjlkgaaGreatDoor
open Go.Proofs.Tryz
open Go.Proofs Go.Lib Go.Shelf Go.RowKit
set_option maxRecDepth 20000
variable {E:World}
def eL (c:Int):Bool:=isLetterU c&&!decide (c=65533)
def pS (c:Int):Bool:=decide (48≤c)&&decide (c≤57)
def eS (c:Int):Bool:=eL c||(pS c||(decide (c=46)||decide (c=95)))
theorem mN (c:Int) (h1:-2147483648≤c) (h2:c≤2147483647) (hL:bz E):aM prog E 212 [.int .i32 c] (.bool (eL c)):=by
 refine zp func212 Z (by decide) Z<|ai<|ab Z<|z6<|ai<|aa Z<|zg (nX c h1 h2 hL) Z<|aj Z<|zq (s:=5) Z (fun c1=>?_) (fun c1=>?_)
 ·refine z8 Z Z c1<|aa Z<|z8 Z Z c1<|aO Z Z<|aw Z c1 Z<|ab Z<|z6<|zi<|zn (x:=.bool _) Z ?_
  exact jb (by simp_all[eL])
 ·refine z7 Z Z c1<|z7 Z Z c1<|ay Z c1 Z<|ab Z<|z6<|zi<|zn (x:=.bool _) Z ?_
  exact jb (by simp_all[eL])
theorem vb (c:Int):aM prog E 220 [.int .i32 c] (.bool (pS c)):=by
 refine zp func220 Z (by decide) Z<|ai<|ab Z<|z6<|ai<|aa Z<|za (q5 Z Z)<|aj Z<|zq (s:=5) Z (fun c2=>?_) (fun c2=>?_)
 ·refine z8 Z Z c2<|aa Z<|z8 Z Z c2<|za (Gv.leq Z Z)<|aw Z c2 Z<|ab Z<|z6<|zi<|zn (x:=.bool _) Z ?_
  exact jb (by simp_all[pS]<;>(intros;omega))
 ·refine z7 Z Z c2<|z7 Z Z c2<|ay Z c2 Z<|ab Z<|z6<|zi<|zn (x:=.bool _) Z ?_
  exact jb (by simp_all[pS]<;>(intros;omega))
theorem nY (c:Int) (h1:-2147483648≤c) (h2:c≤2147483647) (hL:bz E):aM prog E 213 [.int .i32 c] (.bool (eS c)):=by
 refine zp func213 Z (by decide) Z<|ai<|ab Z<|z6<|ai<|aa Z<|zg (mN c h1 h2 hL) Z<|aj Z<|zq (s:=5) Z (fun c3=>?_) (fun c3=>?_)
 ·refine z7 Z Z c3<|z7 Z Z c3<|aw Z c3 Z<|aj Z<|z7 Z Z Z<|z7 Z Z Z<|aw Z Z Z<|aj Z<|z7 Z Z Z<|z7 Z Z Z<|aw Z Z Z<|ab Z<|z6<|zi<|zn (x:=.bool _) Z ?_
  exact jb (by simp_all[eS])
 ·refine z8 Z Z c3<|aa Z<|z8 Z Z c3<|zg (vb _) Z<|ay Z c3 Z<|aj Z<|zq (s:=9) Z (fun c4=>?_) (fun c4=>?_)
  ·refine z7 Z Z c4<|z7 Z Z c4<|aw Z c4 Z<|aj Z<|z7 Z Z Z<|z7 Z Z Z<|aw Z Z Z<|ab Z<|z6<|zi<|zn (x:=.bool _) Z ?_
   exact jb (by simp_all[eS])
  ·refine z8 Z Z c4<|aa Z<|z8 Z Z c4<|ao Z Z<|ay Z c4 Z<|aj Z<|zq (s:=13) Z (fun c5=>?_) (fun c5=>?_)
   ·refine z7 Z Z c5<|z7 Z Z c5<|aw Z c5 Z<|ab Z<|z6<|zi<|zn (x:=.bool _) Z ?_
    exact jb (by simp_all[eS])
   ·refine z8 Z Z c5<|aa Z<|z8 Z Z c5<|ao Z Z<|ay Z c5 Z<|ab Z<|z6<|zi<|zn (x:=.bool _) Z ?_
    exact jb (by simp_all[eS])
def bR (s:ByteArray) (p:Nat):List Int:=if h:p<s.size then ((Utf8.decode s p).1:Int)::bR s (p+(Utf8.decode s p).2) else[]
termination_by s.size - p
decreasing_by have:=(eC s p).1;omega
theorem e8 {s:ByteArray} {p:Nat} (h:p<s.size):bR s p=((Utf8.decode s p).1:Int)::bR s (p+(Utf8.decode s p).2):=by rw[bR,dif_pos h]
theorem dw {s:ByteArray} {p:Nat} (h:¬p<s.size):bR s p=[]:=by rw[bR,dif_neg h]
theorem rO (s:ByteArray):∀k p,s.size - p≤k→(bR s p).length≤k:=by
 intro k
 induction k with
 |zero=>intro p h;rw[dw (by omega)];simp
 |succ k ih=>
  intro p h
  by_cases hp:p<s.size
  ·rw[e8 hp]
   have:=(eC s p).1
   have:=ih (p+(Utf8.decode s p).2) (by omega)
   simp;omega
  ·rw[dw hp];simp
theorem xo (s:ByteArray) (hs:s.size≤140737488355328):aM prog E 214 [.str s] (.int .i64 (bR s 0).length):=by
 have h0:=rO s s.size 0 (by omega)
 refine zp func214 Z (by decide) Z<|ai<|ak Z<|z6<|ai<|ak Z<|z6<|zd<|ai<|za (yw (v:=.str _) Z)<|az.rangeT Zs Z<|fun i5=>z6<|zk<|y7 (γ:=Nat × Nat) [5] (fun g=>[(3,.int .i64 g.2)]) (fun g=>[(i5,.iter s g.1)]) (fun g=>g.2+(bR s g.1).length=(bR s 0).length) (fun g=>s.size - g.1) (0,0) aK aH (by simp) ?_
 rintro ⟨p,n⟩ hp
 try dsimp only at *
 by_cases hlt:p<s.size
 ·have hd:=(eC s p).1
  rw[e8 hlt] at hp
  simp only[List.length_cons] at hp
  refine ai<|az.nextT Z .head hlt<|za (jO Z Z)<|z6<|zd<|yu Z Z<|zh<|zk<|aT<|aa Z<|aC Z Z<|ak Z<|z6 ?_
  exact ⟨(p+(Utf8.decode s p).2,n+1),aK,aK,aH,by dsimp only;omega,by dsimp only;omega⟩
 ·rw[dw hlt] at hp
  simp only[List.length_nil] at hp
  refine ai<|az.nextTover Z .head hlt<|za (jO Z Z)<|z6<|zd<|yg Z Z<|y5<|ai<|aa Z<|ak Z<|z6<|zi<|zn (x:=.int _ _) Z ?_
  exact congrArg (AV.int .i64) (by omega)
def pT (s:ByteArray) (p:Nat):Bool:=if h:p<s.size then (if (decide (p=0)&&!eL ((Utf8.decode s p).1:Int))||!eS ((Utf8.decode s p).1:Int) then false else pT s (p+(Utf8.decode s p).2)) else (decide (¬s=⟨#[]⟩)&&decide (((bR s 0).length:Int)≤16))
termination_by s.size - p
decreasing_by have:=(eC s p).1;omega
def eT (s:ByteArray):Bool:=pT s 0
theorem xp (s:ByteArray) (hs:s.size≤140737488355328) (hL:bz E):aM prog E 198 [.str s] (.bool (eT s)):=by
 refine zp func198 Z (by decide) Z<|ai<|ab Z<|z6<|zd<|ai<|za (yw (v:=.str _) Z)<|az.rangeT Zs Z<|fun i6=>z6<|zk<|y7 (γ:=Nat) [0,6] (fun p=>[]) (fun p=>[(i6,.iter s p)]) (fun p=>pT s p=eT s) (fun p=>s.size - p) 0 trivial aH (Z) ?_
 rintro p hp
 by_cases hlt:p<s.size
 ·obtain ⟨hd1,hd2⟩:=eC s p
  have hstep:=hp
  rw[pT,dif_pos hlt] at hstep
  refine ai<|az.nextT Z .head hlt<|za (jO Z Z)<|z6<|zd<|yu Z Z<|zh<|zk<|ai<|za (jL Z Z)<|za (jL Z Z)<|ak Z<|ak Z<|z6<|ai<|aa Z<|ao Z Z<|aj Z<|zq (s:=13) Z (fun c6=>?_) (fun c6=>?_)
  ·refine z8 Z Z c6<|aa Z<|z8 Z Z c6<|zg (mN _ (by omega) (by omega) hL) Z<|z8 Z Z c6<|aD Z<|aw Z c6 Z<|aj Z<|zq (s:=18) Z (fun c7=>?_) (fun c7=>?_)
   ·refine z7 Z Z c7<|z7 Z Z c7<|z7 Z Z c7<|aw Z c7 Z<|z6<|yu Z Z<|ai<|ab Z<|z6<|zi<|zn (x:=.bool _) Z ?_
    rw[if_pos (by simp_all<;>omega)] at hstep;exact jb hstep
   ·refine z8 Z Z c7<|aa Z<|z8 Z Z c7<|zg (nY _ (by omega) (by omega) hL) Z<|z8 Z Z c7<|aD Z<|ay Z c7 Z<|z6<|zy Z (fun c8=>?_) (fun c8=>?_)
    ·refine ai<|ab Z<|z6<|zi<|zn (x:=.bool _) Z ?_
     rw[if_pos (by simp_all<;>omega)] at hstep;exact jb hstep
    ·refine zh ?_
     exact ⟨p+(Utf8.decode s p).2,eh,trivial,aH,by rw[if_neg (by simp_all<;>omega)] at hstep;exact hstep,by omega⟩
  ·refine z7 Z Z c6<|z7 Z Z c6<|z7 Z Z c6<|ay Z c6 Z<|aj Z<|z8 Z Z Z<|aa Z<|z8 Z Z Z<|zg (nY _ (by omega) (by omega) hL) Z<|z8 Z Z Z<|aD Z<|ay Z Z Z<|z6<|zy Z (fun c9=>?_) (fun c9=>?_)
   ·refine ai<|ab Z<|z6<|zi<|zn (x:=.bool _) Z ?_
    rw[if_pos (by simp_all<;>omega)] at hstep;exact jb hstep
   ·refine zh ?_
    exact ⟨p+(Utf8.decode s p).2,eh,trivial,aH,by rw[if_neg (by simp_all<;>omega)] at hstep;exact hstep,by omega⟩
 ·rw[pT,dif_neg hlt] at hp
  refine ai<|az.nextTover Z .head hlt<|za (jO Z Z)<|z6<|zd<|yg Z Z<|y5<|ai<|za (yw (v:=.str _) Z)<|za (Gv.neqT Z Z)<|aj Z<|zq (s:=25) Z (fun c10=>?_) (fun c10=>?_)
  ·refine z8 Z Z c10<|za (yw (v:=.str _) Z)<|z8 Z Z c10<|zg (xo _ (by assumption)) Z<|z8 Z Z c10<|za (Gv.leq Z Z)<|aw Z c10 Z<|ab Z<|z6<|zi<|zn (x:=.bool _) Z ?_
   rw[←hp];exact jb (by simp_all<;>(try omega))
  ·refine z7 Z Z c10<|z7 Z Z c10<|z7 Z Z c10<|ay Z c10 Z<|ab Z<|z6<|zi<|zn (x:=.bool _) Z ?_
   rw[←hp];exact jb (by simp_all<;>(try omega))
end Go.Proofs.YtdilpodccjlkgaaGreatDoor
namespace Go.Proofs.YtdilpodccjlkgaaGreatDoor
open Go.Proofs.Tryz
open Go.Proofs Go.Lib Go.Shelf Go.RowKit
set_option maxRecDepth 20000
variable {E:World}
def jV (t:Int):ByteArray:=if t=0 then ⟨#[105,110,116]⟩ else if t=1 then ⟨#[98,111,111,108]⟩ else if t=2 then ⟨#[97,114,114]⟩ else ⟨#[]⟩
theorem EY (s:ByteArray):HR s.data.toList=s:=by unfold HR;simp
def zO:List Int→Bool
 |[]=>false
 |c::rs=>eL c&&(rs.all eS&&decide (rs.length+1≤16))
theorem tB {c:Int} (h:eL c=true):eS c=true:=by unfold eS;rw[h];rfl
theorem C4 (s:ByteArray):∀(n p:Nat),s.size - p≤n→0<p→p≤s.size→pT s p=((bR s p).all eS&&decide ((bR s 0).length≤16)):=by
 intro n
 induction n with
 |zero=>
  intro p h hp hps
  have hne:¬s=⟨#[]⟩:=fun e=>by subst e;have:p≤0:=hps;omega
  rw[pT,dif_neg (by omega),dw (p:=p) (by omega)]
  simp[hne];omega
 |succ n ih=>
  intro p h hp hps
  by_cases hlt:p<s.size
  ·have hd:=(eC s p).1
   have hw:p+(Utf8.decode s p).2≤s.size:=by
    have:=decodeL_le (s.data.toList.drop p) (by intro e;have:=congrArg List.length e;rw[List.length_drop] at this;have h2:s.data.toList.length=s.size:=Array.length_toList;simp only[List.length_nil] at this;omega)
    rw[decodeL_drop,List.length_drop] at this
    have h2:s.data.toList.length=s.size:=Array.length_toList
    omega
   rw[pT,dif_pos hlt,e8 hlt,List.all_cons]
   have hp0:decide (p=0)=false:=w9 (by omega)
   rw[hp0,Bool.false_and,Bool.false_or]
   cases hi:eS ((Utf8.decode s p).1:Int) with
   |false=>simp
   |true=>rw[if_neg (by simp),ih _ (by omega) (by omega) hw];simp
  ·have hne:¬s=⟨#[]⟩:=fun e=>by subst e;have:p≤0:=hps;omega
   rw[pT,dif_neg hlt,dw (p:=p) hlt]
   simp[hne];omega
theorem EZ {s:ByteArray} {p:Nat} (hlt:p<s.size):p+(Utf8.decode s p).2≤s.size:=by
 have h2:s.data.toList.length=s.size:=Array.length_toList
 have:=decodeL_le (s.data.toList.drop p) (by intro e;have:=congrArg List.length e;rw[List.length_drop] at this;simp only[List.length_nil] at this;omega)
 rw[decodeL_drop,List.length_drop] at this
 omega
theorem xq (s:ByteArray):eT s=zO (bR s 0):=by
 unfold eT
 by_cases hlt:0<s.size
 ·have hd:=(eC s 0).1
  have hw:=EZ hlt
  have hr:=e8 hlt
  have hl:=congrArg List.length hr
  rw[List.length_cons] at hl
  rw[pT,dif_pos hlt]
  have h2:zO (bR s 0)=(eL ((Utf8.decode s 0).1:Int)&&((bR s (0+(Utf8.decode s 0).2)).all eS&&decide ((bR s (0+(Utf8.decode s 0).2)).length+1≤16))):=by rw[hr];rfl
  rw[h2]
  cases hc:eL ((Utf8.decode s 0).1:Int) with
  |false=>simp
  |true=>
   rw[tB hc,if_neg (by simp),C4 s _ _ (Nat.le_refl _) (by omega) hw,hl];rfl
 ·rw[pT,dif_neg hlt,dw hlt]
  have:s=⟨#[]⟩:=by
   have h2:s.data.toList.length=s.size:=Array.length_toList
   have h3:s.data.toList=[]:=List.eq_nil_of_length_eq_zero (by omega)
   rw[←EY s,h3];rfl
  simp[this,zO]
theorem zP (k:Nat):(decide ((1:Int)≤((k+1:Nat):Int))&&decide (((k+1:Nat):Int)≤16))=(([]:List Int).all eS&&decide (k+1+([]:List Int).length≤16)):=by
 rw[w8 (by omega),Bool.true_and]
 show _=(true&&_)
 rw[Bool.true_and,decide_eq_decide]
 show ((k+1:Nat):Int)≤16↔k+1+0≤16
 omega
theorem tC (s:ByteArray):∀(n p k:Nat),s.size - p≤n→eQ s p (k+1)=((bR s p).all eS&&decide (k+1+(bR s p).length≤16)):=by
 intro n
 induction n with
 |zero=>
  intro p k h
  rw[eQ,dif_neg (by omega),dw (by omega)]
  exact zP k
 |succ n ih=>
  intro p k h
  by_cases hlt:p<s.size
  ·have hd:=(eC s p).1
   rw[eQ,dif_pos hlt,e8 hlt,List.all_cons]
   have ho:dP ((Utf8.decode s p).1:Int) (k+1)=eS ((Utf8.decode s p).1:Int):=by
    unfold dP eS eL pS
    have:decide (((k+1:Nat):Int)=0)=false:=w9 (by omega)
    rw[this];simp[Bool.or_assoc]
   rw[ho]
   cases hi:eS ((Utf8.decode s p).1:Int) with
   |false=>simp
   |true=>rw[if_pos rfl,ih _ _ (by omega),Bool.true_and,List.length_cons];congr 2;simp;omega
  ·rw[eQ,dif_neg hlt,dw hlt]
   exact zP k
theorem E0 (s:ByteArray):mL s=zO (bR s 0):=by
 unfold mL
 by_cases hlt:0<s.size
 ·rw[eQ,dif_pos hlt,e8 hlt]
  have ho:dP ((Utf8.decode s 0).1:Int) 0=eL ((Utf8.decode s 0).1:Int):=by unfold dP eL;simp
  rw[ho]
  show _=(eL ((Utf8.decode s 0).1:Int)&&_)
  cases hc:eL ((Utf8.decode s 0).1:Int) with
  |false=>simp
  |true=>rw[if_pos rfl,tC s _ _ _ (Nat.le_refl _),Bool.true_and];congr 2;simp;omega
 ·rw[eQ,dif_neg hlt,dw hlt];rfl
theorem oS (s:ByteArray):mL s=eT s:=by rw[E0,xq]
structure bL (f:ac) (x:aF):Prop where
 op:0≤x.op∧x.op≤26
 len:x.args.length=(bb x.op).length
 dst:(cS x.op=false∧x.dst=-1)∨(cS x.op=true∧x.dst≠-1∧bd f x.dst=true)
 num:pt x.op=false→x.num=0
 args:∀a∈x.args,bd f a=true
theorem gN {f:ac} {x:aF} (h:pO f x):bL f x:=by
 obtain ⟨h1,h2,h3,h4⟩:=h
 have hw:=sG ⟨h1,h2⟩
 unfold ns at h3
 simp only[Bool.or_eq_false_iff,Bool.not_eq_false',wg,Bool.and_eq_false_iff,beq_iff_eq] at h3
 obtain ⟨g1,g2,g3,g4⟩:=h3
 refine ⟨⟨h1,h2⟩,by rw[nv];omega,?_,fun hn=>?_,List.all_eq_true.1 h4⟩
 ·rw[lC]
  by_cases hd:x.dst=-1
  ·left
   rw[w8 hd] at g2
   exact ⟨by rw[g2];rfl,hd⟩
  ·right
   rw[w9 hd] at g2
   refine ⟨by rw[g2];rfl,hd,?_⟩
   rcases g3 with g|g
   ·exact absurd g hd
   ·exact g
 ·rcases g4 with g|g
  ·exact g
  ·rw[hw,hn] at g;cases g
theorem ve (t:Int):aM prog E 174 [.int .i64 t] (.str (jV t)):=by
 refine zp func174 Z (by decide) Z<|ai<|za (qi (v:=.str _) Z)<|z6<|zd<|ai<|aa Z<|z6<|zk<|ai<|ao Z Z<|ab Z<|z6<|zy Z (fun c1=>?_) (fun c1=>?_)
 ·refine ai<|za (qi (v:=.str _) Z)<|z6<|zi<|zn (x:=.str _) Z ?_
  exact congrArg AV.str (by simp_all[jV])
 ·refine ai<|ao Z Z<|ab Z<|z6<|zy Z (fun c2=>?_) (fun c2=>?_)
  ·refine ai<|za (qi (v:=.str _) Z)<|z6<|zi<|zn (x:=.str _) Z ?_
   exact congrArg AV.str (by simp_all[jV])
  ·refine ai<|ao Z Z<|ab Z<|z6<|zy Z (fun c3=>?_) (fun c3=>?_)
   ·refine ai<|za (qi (v:=.str _) Z)<|z6<|zi<|zn (x:=.str _) Z ?_
    exact congrArg AV.str (by simp_all[jV])
   ·refine zh<|ai<|za (qi (v:=.str _) Z)<|z6<|zi<|zn (x:=.str _) Z ?_
    exact congrArg AV.str (by simp_all[jV])
end Go.Proofs.YtdilpodccjlkgaaGreatDoor
namespace Go.Proofs.YtdilpodccjlkgaaGreatDoor
open Go.Proofs.Tryz
open Go.Proofs Go.Lib Go.Shelf Go.RowKit
theorem zQ:df prog 242 9 1 1 [.str ⟨#[]⟩]:=⟨_,Yq,Y9,zeroValue9,by decide,by decide,by kernel_rfl⟩
set_option maxRecDepth 20000
variable {E:World}
def vf (s:ByteArray) (l:List ByteArray):Bool:=l.any fun t=>decide (t=s)
theorem zR {s:ByteArray} {l:List ByteArray}:vf s l=true↔s∈l:=by
 unfold vf;rw[List.any_eq_true]
 constructor
 ·rintro ⟨x,hx,h⟩;have h:x=s:=by simpa using h
  exact h▸hx
 ·intro h;exact ⟨s,h,by simp⟩
theorem C5 {s t:ByteArray} {l:List ByteArray}:vf s (l++[t])=(vf s l||decide (t=s)):=by unfold vf;rw[List.any_append];simp
def xr (l:List ByteArray):Prop:=∀i (h:i<l.length),eT l[i]=true∧vf l[i] (l.take i)=false
instance (l:List ByteArray):Decidable (xr l):=by unfold xr;infer_instance
theorem zS {t:ByteArray} {l:List ByteArray} {mt:Int} (ht:mt=if vf t l=true then 1 else 0) (hc:decide (0<mt)=false):vf t l=false:=by
 have hc:=we hc
 cases h:vf t l with
 |true=>rw[h] at ht;simp at ht;omega
 |false=>rfl
theorem C6 {s t:ByteArray} {l:List ByteArray} {m:Option Int} {mt:Int} (hs:m.getD 0=if vf s l=true then 1 else 0) (ht:mt=if vf t l=true then 1 else 0) (hc:decide (0<mt)=false) :
  (if s=t then some (mt+1) else m).getD 0=if (vf s l||decide (t=s))=true then 1 else 0:=by
 have h:=zS ht hc
 rw[h] at ht
 have ht:mt=0:=by simpa using ht
 by_cases e:s=t
 ·subst e;simp[ht]
 ·rw[if_neg e,hs]
  have e2:¬t=s:=fun h=>e h.symm
  simp[e2]
theorem C7 {l:List ByteArray} {k:Nat} (hn:∀i (h:i<l.length),i<k→eT l[i]=true∧vf l[i] (l.take i)=false) (hk:k<l.length) (h1:eT l[k]=true) (h2:vf l[k] (l.take k)=false) :
  ∀i (h:i<l.length),i<k+1→eT l[i]=true∧vf l[i] (l.take i)=false:=fun i h hi=>by
 by_cases e:i=k
 ·subst e;exact ⟨h1,h2⟩
 ·exact hn i h (by omega)
theorem nZ (l:List ByteArray) (hl:l.length≤100000000) (hs:∀s∈l,s.size≤140737488355328) (hL:bz E):aM prog E 175 [.fro 1 (l.map rN)] (.bool (decide (xr l))):=by
 refine zp func175 Z (by decide) Z<|ai<|ab Z<|z6<|ai<|az.makeMap<|fun b6=>za (qi (v:=dA _) Z)<|z6<|zd<|ai<|bc Z<|ap Yq Z<|aa Z<|z6<|zk<|y7 (γ:=Nat × List (ByteArray × Int)) [3,7,8] (fun g=>[(9,.int .i64 g.1)]) (fun g=>[(0,AJ b6 g.2)]) (fun g=>g.1≤l.length∧(∀i (h:i<l.length),i<g.1→eT l[i]=true∧vf l[i] (l.take i)=false)∧∀s,(kx s g.2).getD 0=if vf s (l.take g.1)=true then 1 else 0) (fun g=>l.length - g.1) (0,[]) aK aH (⟨qw _,fun i h h2=>absurd h2 (Nat.not_lt_zero _),fun s=>Z⟩) ?_
 rintro ⟨k,es⟩ ⟨hk,hn,hm⟩
 try dsimp only at *
 refine ai<|ax Z Z<|z6<|zd<|zt Z (fun ck=>?_) (fun ck=>?_)
 ·have hk2:k<l.length:=by omega
  have hmk:=hm l[k]
  have hz:=hs _ (qx hk2)
  refine zh<|zd<|zk<|ai<|za (bv k Yq Y9 Z Z Z (qt hk2))<|za (yv (c:=.str _) Yg Z)<|za (qi (v:=.str _) Z)<|z6<|zd<|ai<|za (yw (v:=.str _) Z)<|zg (xp _ hz hL) Z<|aD Z<|aj Z<|zq (s:=16) Z (fun c1=>?_) (fun c1=>?_)
  ·refine z7 Z Z c1<|z7 Z Z c1<|z7 Z Z c1<|z7 Z Z c1<|aw Z c1 Z<|z6<|yu Z Z<|ai<|ab Z<|z6<|zi<|zn (x:=.bool _) Z ?_
   exact jb (w9 fun h=>by have h:=h k hk2;simp_all).symm
  ·refine z8 Z Z c1<|za (yw (v:=dA _) Z)<|z8 Z Z c1<|za (yw (v:=.str _) Z)<|z8 Z Z c1<|za (Gv.lookup1S underlying274 Zs Zv Z Z ⟨_,.head⟩)<|z8 Z Z c1<|aY Z Z<|ay Z c1 Z<|z6<|zy Z (fun c2=>?_) (fun c2=>?_)
   ·refine ai<|ab Z<|z6<|zi<|zn (x:=.bool _) Z ?_
    exact jb (w9 fun h=>by have h:=h k hk2;simp_all).symm
   ·refine zh<|aT<|za (yw (v:=dA _) Z)<|za (yw (v:=.str _) Z)<|za (Gv.lookup1S underlying274 Zs Zv Z Z ⟨_,.head⟩)<|za (Gv.add Z Z (by first|(unfold kJ;omega)|(unfold kJ;rw[hmk];split<;>omega)))<|az.mapSet underlying274 Zs Z Z Z .head<|z6<|aT<|za (Gv.add Z Z (by first|(unfold kJ;omega)|(unfold kJ;rw[hmk];split<;>omega)))<|aa Z<|z6 ?_
    exact ⟨(k+1,ov l[k] ((kx l[k] es).getD 0+1) es),de,aK,aH,⟨hk2,C7 hn hk2 (by simpa using c1) (zS hmk (by assumption)),fun s=>by dsimp only;rw[uA,qu hk2,C5];exact C6 (hm s) hmk (by assumption)⟩,by dsimp only;omega⟩
 ·have hkn:k=l.length:=by omega
  refine y5<|ai<|ab Z<|z6<|zi<|zn (x:=.bool _) Z ?_
  exact jb (w8 fun i h=>hn i h (by omega)).symm
theorem map_take {α:Type} {g:α→ByteArray} {l:List α} {k:Nat} (h:k<l.length):(l.map g).take (k+1)=(l.map g).take k++[g l[k]]:=by
 rw[qu (by simpa using h)];simp
def dT (f:ac):List ByteArray:=f.vars.map uO.name
def ec (f:ac):List ByteArray:=f.blocks.map aX.name
@[simp] theorem IH (f:ac):(dT f).length=f.vars.length:=by unfold dT;simp
@[simp] theorem II (f:ac):(ec f).length=f.blocks.length:=by unfold ec;simp
theorem E1 {f:ac} {k:Nat} (h:k<f.vars.length):(dT f).take (k+1)=(dT f).take k++[f.vars[k].name]:=map_take h
theorem E2 {f:ac} {k:Nat} (h:k<f.blocks.length):(ec f).take (k+1)=(ec f).take k++[f.blocks[k].name]:=map_take h
def E3 (f:ac):Prop:=∀i (h:i<f.params.length),f.params[i]=(i:Int)
instance (f:ac):Decidable (E3 f):=by unfold E3;infer_instance
def E4 (f:ac):Prop:=∀i (h:i<f.vars.length),¬jV f.vars[i].ty=⟨#[]⟩
instance (f:ac):Decidable (E4 f):=by unfold E4;infer_instance
def lR (f:ac):Prop:=f.vars.length≤512∧f.params.length≤8∧f.params.length≤f.vars.length∧1≤f.blocks.length∧f.blocks.length≤64
instance (f:ac):Decidable (lR f):=by unfold lR;infer_instance
def f8 (f:ac):Prop:=E4 f∧E3 f∧lR f∧xr (dT f)∧xr (ec f)
instance (f:ac):Decidable (f8 f):=by unfold f8;infer_instance
theorem vg (f:ac) (h1:f.vars.length≤100000000) (h2:f.blocks.length≤100000000) (hp:f.params.length≤100000000) (hn:mM f) (hL:bz E):aM prog E 139 [.agg (bD f)] (.bool (decide (f8 f))):=by
 have hnv:(dT f).length=f.vars.length:=by unfold dT;simp
 have hnb:(ec f).length=f.blocks.length:=by unfold ec;simp
 refine zp func139 Z (by decide) Z<|ai<|y9 (cs:=_) Z Z Z<|ab Z<|z6<|ai<|za (jK Z)<|za (jK Z)<|z6<|gm (t:=3) (k:=1) (T:=9) Z<|fun i3=>gm (t:=4) (k:=1) (T:=9) Z<|fun i4=>zd<|ai<|au jg Z Yc Z Z<|aI Yn Z<|ap Z9 Z<|aa Z<|z6<|zk<|y7 (γ:=Nat × Nat) [1,4,12,13] (fun g=>[(3,.own g.2 g.1),(14,.int .i64 g.1)]) (fun g=>[(i4,.grow 1 9 []),(g.2,.grow 1 9 ((((dT f).take g.1).map rN).flatten))]) (fun g=>g.1≤f.vars.length∧∀i (h:i<f.vars.length),i<g.1→¬jV f.vars[i].ty=⟨#[]⟩) (fun g=>f.vars.length - g.1) (0,i3) eh aH (⟨qw _,fun i h h2=>absurd h2 (Nat.not_lt_zero _)⟩) ?_
 rintro ⟨k,i⟩ ⟨hk,hT⟩
 try dsimp only at *
 refine ai<|ax Z Z<|z6<|zd<|zt Z (fun ck=>?_) (fun ck=>?_)
 ·have hk2:k<f.vars.length:=by simp at ck;omega
  refine zh<|zd<|zk<|ai<|za (bv k Z9 Yd Z Z Z (qt hk2))<|ae isAgg61 Yd Z Z<|y6 (cs:=[.str ⟨#[]⟩,.int .i64 0]) zeroValue61 Z Z<|fun i6=>y1 Yd Z Z Z Z Z Z .head Z<|z6<|ai<|za (gQ Z)<|za (zf Zm Z Y9 (by decide) Z Z)<|za (zo (c:=.str _) Yg Z ⟨_,.head⟩ Z)<|y3 (rows:=[[_]]) zQ Z Z Z Z Z<|yq (k:=1) Yq type9 Z Z Z Z Z (fun _=>.t2) (by rw[mB (k:=1) (fun _=>rfl),w7];omega) (by decide) Z (by show (_+1)*16≤_;omega) (by show _+1≤_;omega)<|fun i22=>za (eu Z)<|z6<|ai<|za (zf Zm Z X2 (by decide) Z Z)<|za (zo (c:=.int _ _) Xg Z ⟨_,.head⟩ Z)<|zg (ve _) Z<|za (q4 Z Z)<|z6<|zt Z (fun ct=>?_) (fun ct=>?_)
  ·refine ai<|ab Z<|z6<|zi<|zn (x:=.bool _) Z ?_
   exact jb (w9 fun h=>h.1 k hk2 (by simpa using ct)).symm
  ·refine zh<|aT<|aC Z Z<|aa Z<|z6 ?_
   exact ⟨(k+1,i22),gn,eh,⟨_,(.drop (.refl _)),by dsimp only;rw[←ln (enc:=rN) (E1 hk2)];rfl⟩,⟨hk2,fun i h h2=>by by_cases e:i=k;(subst e;simpa using ct);exact hT i h (by dsimp only at h2;omega)⟩,by dsimp only;omega⟩
 ·have hkn:k=f.vars.length:=by simp at ck;omega
  subst hkn
  rw[List.take_of_length_le (by omega:(dT f).length≤f.vars.length)]
  have hTys:E4 f:=fun i h=>hT i h h
  refine y5<|zd<|ai<|au jg Z Z8 Z Z<|aI Zh Z<|ap ju Z<|aa Z<|z6<|zk<|y7 (γ:=Nat × Nat) [1,3,29,30] (fun g=>[(4,.own g.2 g.1),(31,.int .i64 g.1)]) (fun g=>[(g.2,.grow 1 9 ((((ec f).take g.1).map rN).flatten)),(i,.grow 1 9 (((dT f).map rN).flatten))]) (fun g=>g.1≤f.blocks.length) (fun g=>f.blocks.length - g.1) (0,i4) eh aH (qw _) ?_
  rintro ⟨k,j⟩ hk
  try dsimp only at *
  refine ai<|ax Z Z<|z6<|zd<|zt Z (fun ck=>?_) (fun ck=>?_)
  ·have hk2:k<f.blocks.length:=by simp at ck;omega
   refine zh<|zd<|zk<|ai<|za (bv k ju jy Z Z Z (qt hk2))<|ae Yo jy Z Z<|y6 (cs:=[.str ⟨#[]⟩,.raw (.slice none 0 0),.raw (.slice none 0 0),.int .i64 0,.int .i64 0,.int .i64 0,.int .i64 0]) Zl Z Z<|fun i8=>y1 jy Z Z Z Z Z Z .head Z<|z6<|aT<|za (gQ Z)<|za (zf ji Z Y9 (by decide) Z Z)<|za (zo (c:=.str _) Yg Z ⟨_,.head⟩ Z)<|y3 (rows:=[[_]]) zQ Z Z Z Z Z<|yq (k:=1) Yq type9 Z Z Z Z Z (fun _=>.t1) (by rw[mB (k:=1) (fun _=>rfl),w7];omega) (by decide) Z (by show (_+1)*16≤_;omega) (by show _+1≤_;omega)<|fun i39=>za (eu Z)<|z6<|aT<|aC Z Z<|aa Z<|z6 ?_
   exact ⟨(k+1,i39),gn,eh,⟨_,(.drop (.refl _)),by dsimp only;rw[←ln (enc:=rN) (E2 hk2)];rfl⟩,hk2,by dsimp only;omega⟩
  ·have hkn:k=f.blocks.length:=by simp at ck;omega
   subst hkn
   rw[List.take_of_length_le (by omega:(ec f).length≤f.blocks.length)]
   refine y5<|zd<|ai<|au jg Z j7 Z Z<|aI je Z<|ap wy Z<|aa Z<|z6<|zk<|y7 (γ:=Nat) [1,3,4,42,43] (fun k=>[(44,.int .i64 k)]) (fun k=>[(j,.grow 1 9 (((ec f).map rN).flatten)),(i,.grow 1 9 (((dT f).map rN).flatten))]) (fun k=>k≤f.params.length∧∀i (h:i<f.params.length),i<k→f.params[i]=(i:Int)) (fun k=>f.params.length - k) 0 aK aH (⟨qw _,fun i h h2=>absurd h2 (Nat.not_lt_zero _)⟩) ?_
   rintro k ⟨hk,hP⟩
   refine ai<|ax Z Z<|z6<|zd<|zt Z (fun ck=>?_) (fun ck=>?_)
   ·have hk2:k<f.params.length:=by simp at ck;omega
    refine zh<|zd<|zk<|ai<|aa Z<|za (bv k wy wz Z Z Z (qt hk2))<|aA j6 Z<|ak Z<|ak Z<|z6<|ai<|aa Z<|aa Z<|aO Z Z<|z6<|zy Z (fun cp=>?_) (fun cp=>?_)
    ·refine ai<|ab Z<|z6<|zi<|zn (x:=.bool _) Z ?_
     exact jb (w9 fun h=>by have:=h.2.1 k hk2;simp[this] at cp).symm
    ·refine zh<|aT<|aC Z Z<|aa Z<|z6 ?_
     exact ⟨k+1,sj,aK,aH,⟨hk2,fun i h h2=>by by_cases e:i=k;(subst e;simpa using cp);exact hP i h (by omega)⟩,by omega⟩
   ·have hkn:k=f.params.length:=by simp at ck;omega
    subst hkn
    have hPar:E3 f:=fun i h=>hP i h h
    refine zz (aS.know (t:=3) (rows:=(dT f).map rN) Z .t1 (by intro r hr;obtain ⟨x,_,rfl⟩:=List.mem_map.1 hr;rfl) (by decide) (by simp))<|zz (aS.know (t:=4) (rows:=(ec f).map rN) Z .head (by intro r hr;obtain ⟨x,_,rfl⟩:=List.mem_map.1 hr;rfl) (by decide) (by simp))<|y5<|ai<|bc Z<|ap Yq Z<|za (Gv.leq Z Z)<|aj Z<|zq (s:=56) Z (fun c3=>?_) (fun c3=>?_)
    ·refine z8 Z Z c3<|au jg Z j7 Z Z<|z8 Z Z c3<|aI je Z<|z8 Z Z c3<|ap wy Z<|z8 Z Z c3<|bc Z<|z8 Z Z c3<|ap Yq Z<|z8 Z Z c3<|za (Gv.minI Z Z)<|z8 Z Z c3<|za (Gv.leq Z Z)<|aw Z c3 Z<|aj Z<|zq (s:=65) Z (fun c4=>?_) (fun c4=>?_)
     ·refine z8 Z Z c4<|bc Z<|z8 Z Z c4<|ap Yq Z<|z8 Z Z c4<|za (q5 Z Z)<|aw Z c4 Z<|aj Z<|zq (s:=70) Z (fun c5=>?_) (fun c5=>?_)
      ·refine z8 Z Z c5<|bc Z<|z8 Z Z c5<|ap Yq Z<|z8 Z Z c5<|za (Gv.leq Z Z)<|aw Z c5 Z<|aj Z<|zq (s:=75) Z (fun c6=>?_) (fun c6=>?_)
       ·refine z8 Z Z c6<|bc Z<|z8 Z Z c6<|zg (nZ (dT f) (by omega) (fun s hs=>by obtain ⟨v,hv,rfl⟩:=List.mem_map.1 hs;exact hn.1 v hv) hL) Z<|aw Z c6 Z<|aj Z<|zq (s:=79) Z (fun c7=>?_) (fun c7=>?_)
        ·refine z8 Z Z c7<|bc Z<|z8 Z Z c7<|zg (nZ (ec f) (by omega) (fun s hs=>by obtain ⟨v,hv,rfl⟩:=List.mem_map.1 hs;exact hn.2 v hv) hL) Z<|aw Z c7 Z<|ab Z<|z6<|zi<|zn (x:=.bool _) Z ?_
         exact jb (by unfold f8 lR;simp_all<;>grind)
        ·refine z7 Z Z c7<|z7 Z Z c7<|ay Z c7 Z<|ab Z<|z6<|zi<|zn (x:=.bool _) Z ?_
         exact jb (by unfold f8 lR;simp_all<;>grind)
       ·refine z7 Z Z c6<|z7 Z Z c6<|ay Z c6 Z<|aj Z<|z7 Z Z Z<|z7 Z Z Z<|ay Z Z Z<|ab Z<|z6<|zi<|zn (x:=.bool _) Z ?_
        exact jb (by unfold f8 lR;simp_all<;>grind)
      ·refine z7 Z Z c5<|z7 Z Z c5<|z7 Z Z c5<|ay Z c5 Z<|aj Z<|z7 Z Z Z<|z7 Z Z Z<|ay Z Z Z<|aj Z<|z7 Z Z Z<|z7 Z Z Z<|ay Z Z Z<|ab Z<|z6<|zi<|zn (x:=.bool _) Z ?_
       exact jb (by unfold f8 lR;simp_all<;>grind)
     ·refine z7 Z Z c4<|z7 Z Z c4<|z7 Z Z c4<|ay Z c4 Z<|aj Z<|z7 Z Z Z<|z7 Z Z Z<|z7 Z Z Z<|ay Z Z Z<|aj Z<|z7 Z Z Z<|z7 Z Z Z<|ay Z Z Z<|aj Z<|z7 Z Z Z<|z7 Z Z Z<|ay Z Z Z<|ab Z<|z6<|zi<|zn (x:=.bool _) Z ?_
      exact jb (by unfold f8 lR;simp_all<;>grind)
    ·refine z7 Z Z c3<|z7 Z Z c3<|z7 Z Z c3<|z7 Z Z c3<|z7 Z Z c3<|z7 Z Z c3<|z7 Z Z c3<|ay Z c3 Z<|aj Z<|z7 Z Z Z<|z7 Z Z Z<|z7 Z Z Z<|ay Z Z Z<|aj Z<|z7 Z Z Z<|z7 Z Z Z<|z7 Z Z Z<|ay Z Z Z<|aj Z<|z7 Z Z Z<|z7 Z Z Z<|ay Z Z Z<|aj Z<|z7 Z Z Z<|z7 Z Z Z<|ay Z Z Z<|ab Z<|z6<|zi<|zn (x:=.bool _) Z ?_
     exact jb (by unfold f8 lR;simp_all<;>grind)
def ks (f:ac) (p:dF):Bool:=!decide (p.args.length=0)&&decide (p.args.length=p.from_.length)&&bd f p.dst&&p.args.all (bd f)&&p.from_.all (eN f)
theorem Bg (f:ac) (v:Int):aM prog E 179 ([.int .i64 v]++[.pf (bD f)]) (.bool (!eN f v)):=by
 refine zp func179 Z (by decide) Z<|ai<|ab Z<|z6<|ai<|ae jv jj Z Z<|aa Z<|zg (oQ _ _) Z<|aD Z<|ab Z<|z6<|zi<|zn (x:=.bool _) Z ?_
 rfl
theorem C8 (f:ac) (p:dF) (hp:zD p):aM prog E 142 [.agg (bD f),.agg (fg p)] (.bool (ks f p)):=by
 have hl1:=hp.1.lt
 have hl2:=hp.2.lt
 refine zp func142 Z (by decide) Z<|ai<|y9 (cs:=_) Z Z Z<|y9 (cs:=_) Z Z Z<|ab Z<|z6<|zd<|ai<|au Z0 Z j7 Z Z<|aI je Z<|ap wy Z<|ao Z Z<|aj Z<|zq (s:=9) Z (fun c8=>?_) (fun c8=>?_)
 ·refine z7 Z Z c8<|z7 Z Z c8<|z7 Z Z c8<|z7 Z Z c8<|z7 Z Z c8<|z7 Z Z c8<|z7 Z Z c8<|aw Z c8 Z<|aj Z<|z7 Z Z Z<|z7 Z Z Z<|z7 Z Z Z<|z7 Z Z Z<|z7 Z Z Z<|aw Z Z Z<|aj Z<|z7 Z Z Z<|z7 Z Z Z<|z7 Z Z Z<|z7 Z Z Z<|z7 Z Z Z<|aw Z Z Z<|z6<|yu Z Z<|ai<|ab Z<|z6<|zi<|zn (x:=.bool _) Z ?_
  exact jb (by have:=List.any_eq_not_all_not (l:=p.from_) (p:=fun x=>!eN f x);simp_all[ks,Int.ofNat_inj]<;>grind)
 ·refine z8 Z Z c8<|au Z0 Z j7 Z Z<|z8 Z Z c8<|aI je Z<|z8 Z Z c8<|ap wy Z<|z8 Z Z c8<|au Z0 Z j7 Z Z<|z8 Z Z c8<|aI je Z<|z8 Z Z c8<|ap wy Z<|z8 Z Z c8<|aO Z Z<|ay Z c8 Z<|aj Z<|zq (s:=18) Z (fun c9=>?_) (fun c9=>?_)
  ·refine z7 Z Z c9<|z7 Z Z c9<|z7 Z Z c9<|z7 Z Z c9<|z7 Z Z c9<|aw Z c9 Z<|aj Z<|z7 Z Z Z<|z7 Z Z Z<|z7 Z Z Z<|z7 Z Z Z<|z7 Z Z Z<|aw Z Z Z<|z6<|yu Z Z<|ai<|ab Z<|z6<|zi<|zn (x:=.bool _) Z ?_
   exact jb (by have:=List.any_eq_not_all_not (l:=p.from_) (p:=fun x=>!eN f x);simp_all[ks,Int.ofNat_inj]<;>grind)
  ·refine z8 Z Z c9<|ae jv jj Z Z<|z8 Z Z c9<|au Z0 Z wz Z Z<|z8 Z Z c9<|aA j6 Z<|z8 Z Z c9<|zg (kQ _ _) Z<|z8 Z Z c9<|aD Z<|ay Z c9 Z<|aj Z<|zq (s:=25) Z (fun c10=>?_) (fun c10=>?_)
   ·refine z7 Z Z c10<|z7 Z Z c10<|z7 Z Z c10<|z7 Z Z c10<|z7 Z Z c10<|aw Z c10 Z<|z6<|yu Z Z<|ai<|ab Z<|z6<|zi<|zn (x:=.bool _) Z ?_
    exact jb (by have:=List.any_eq_not_all_not (l:=p.from_) (p:=fun x=>!eN f x);simp_all[ks,Int.ofNat_inj]<;>grind)
   ·refine z8 Z Z c10<|ae jv jj Z Z<|z8 Z Z c10<|au Z0 Z j7 Z Z<|z8 Z Z c10<|aI je Z<|z8 Z Z c10<|zg (sr f p.args (by omega)) Z<|z8 Z Z c10<|aD Z<|ay Z c10 Z<|z6<|zy Z (fun c11=>?_) (fun c11=>?_)
    ·refine ai<|ab Z<|z6<|zi<|zn (x:=.bool _) Z ?_
     exact jb (by have:=List.any_eq_not_all_not (l:=p.from_) (p:=fun x=>!eN f x);simp_all[ks,Int.ofNat_inj]<;>grind)
    ·refine zh<|ai<|au Z0 Z j7 Z Z<|aI je Z<|za (Gv.func Z Z)<|zg (gX p.from_ (by omega) (Bg f)) Z<|aD Z<|ab Z<|z6<|zi<|zn (x:=.bool _) Z ?_
     exact jb (by have:=List.any_eq_not_all_not (l:=p.from_) (p:=fun x=>!eN f x);simp_all[ks,Int.ofNat_inj]<;>grind)
end Go.Proofs.YtdilpodccjlkgaaGreatDoor
namespace Go.Proofs.YtdilpodccjlkgaaGreatDoor
open Go.Proofs.Tryz
open Go.Proofs Go.Lib Go.Shelf Go.RowKit
set_option maxRecDepth 20000
variable {E:World}
theorem oC {p:dF→Bool} {fn:FuncId} {c:List AV} (xs:List dF) (hl:xs.length≤281474976710656) (hp:∀x∈xs,aM prog E fn ([.agg (fg x)]++c) (.bool (p x))) :
  aM prog E 176 [.fro 3 (xs.map fg),.fn fn [] c] (.int .i64 (cE p xs 0)):=by
 refine zp func176 Z (by decide) Z<|ai<|ak Z<|z6<|zd<|ai<|bc Z<|ap Z4 Z<|aa Z<|z6<|zk<|y7 (γ:=Nat) [0,1,7] (fun k=>[(8,.int .i64 k)]) (fun k=>[]) (fun k=>k≤xs.length∧(xs.take k).all (fun x=>!p x)) (fun k=>xs.length - k) 0 aK aH (⟨qw _,Z⟩) ?_
 rintro k ⟨hk,hall⟩
 refine ai<|ax Z Z<|z6<|zd<|zt Z (fun ck=>?_) (fun ck=>?_)
 ·have hk2:k<xs.length:=by omega
  refine zh<|zd<|zk<|ai<|aa Z<|ak Z<|z6<|ai<|za (yw (v:=.fn _ _ _) Z)<|bc Z<|aa Z<|za (qc Z4 Zb Z Z Z (qt (by omega)))<|ae X1 Zb Z Z<|az.callVP Z (hp _ (qx hk2)) Z<|z6<|zy Z (fun cp=>?_) (fun cp=>?_)
  ·refine ai<|aa Z<|ak Z<|z6<|zi<|zn (x:=.int _ _) Z ?_
   rw[bE p xs k hk hall,List.drop_eq_getElem_cons hk2,cE,if_pos cp]
  ·refine zh<|aT<|aC Z Z<|aa Z<|z6 ?_
   exact ⟨k+1,de,aK,aH,⟨hk2,by rw[qu hk2,List.all_append,hall];simp[cp]⟩,by omega⟩
 ·have hkn:k=xs.length:=by omega
  refine y5<|ai<|ak Z<|z6<|zi<|zn (x:=.int _ _) Z ?_
  rw[bE p xs k hk hall,hkn,List.drop_length,cE]
theorem md {p:dF→Bool} {fn:FuncId} {c:List AV} (xs:List dF) (hl:xs.length≤281474976710656) (hp:∀x∈xs,aM prog E fn ([.agg (fg x)]++c) (.bool (p x))) :
  aM prog E 140 [.fro 3 (xs.map fg),.fn fn [] c] (.bool (xs.any p)):=by
 refine zp func140 Z (by decide) Z<|ai<|ab Z<|z6<|ai<|bc Z<|za (yw (v:=.fn _ _ _) Z)<|zg (oC xs hl hp) Z<|za (q5 Z Z)<|ab Z<|z6<|zi<|zn (x:=.bool _) Z ?_
 rw[eY]
theorem oD {p:aF→Bool} {fn:FuncId} {c:List AV} (xs:List aF) (hl:xs.length≤281474976710656) (hp:∀x∈xs,aM prog E fn ([.agg (bF x)]++c) (.bool (p x))) :
  aM prog E 97 [.fro 4 (xs.map bF),.fn fn [] c] (.int .i64 (cE p xs 0)):=by
 refine zp func97 Z (by decide) Z<|ai<|ak Z<|z6<|zd<|ai<|bc Z<|ap jz Z<|aa Z<|z6<|zk<|y7 (γ:=Nat) [0,1,7] (fun k=>[(8,.int .i64 k)]) (fun k=>[]) (fun k=>k≤xs.length∧(xs.take k).all (fun x=>!p x)) (fun k=>xs.length - k) 0 aK aH (⟨qw _,Z⟩) ?_
 rintro k ⟨hk,hall⟩
 refine ai<|ax Z Z<|z6<|zd<|zt Z (fun ck=>?_) (fun ck=>?_)
 ·have hk2:k<xs.length:=by omega
  refine zh<|zd<|zk<|ai<|aa Z<|ak Z<|z6<|ai<|za (yw (v:=.fn _ _ _) Z)<|bc Z<|aa Z<|za (qc jz jx Z Z Z (qt (by omega)))<|ae Y0 jx Z Z<|az.callVP Z (hp _ (qx hk2)) Z<|z6<|zy Z (fun cp=>?_) (fun cp=>?_)
  ·refine ai<|aa Z<|ak Z<|z6<|zi<|zn (x:=.int _ _) Z ?_
   rw[bE p xs k hk hall,List.drop_eq_getElem_cons hk2,cE,if_pos cp]
  ·refine zh<|aT<|aC Z Z<|aa Z<|z6 ?_
   exact ⟨k+1,de,aK,aH,⟨hk2,by rw[qu hk2,List.all_append,hall];simp[cp]⟩,by omega⟩
 ·have hkn:k=xs.length:=by omega
  refine y5<|ai<|ak Z<|z6<|zi<|zn (x:=.int _ _) Z ?_
  rw[bE p xs k hk hall,hkn,List.drop_length,cE]
theorem g9 {p:aF→Bool} {fn:FuncId} {c:List AV} (xs:List aF) (hl:xs.length≤281474976710656) (hp:∀x∈xs,aM prog E fn ([.agg (bF x)]++c) (.bool (p x))) :
  aM prog E 56 [.fro 4 (xs.map bF),.fn fn [] c] (.bool (xs.any p)):=by
 refine zp func56 Z (by decide) Z<|ai<|ab Z<|z6<|ai<|bc Z<|za (yw (v:=.fn _ _ _) Z)<|zg (oD xs hl hp) Z<|za (q5 Z Z)<|ab Z<|z6<|zi<|zn (x:=.bool _) Z ?_
 rw[eY]
theorem tD (f:ac) (p:dF) (hp:zD p):aM prog E 141 ([.agg (fg p)]++[.pf (bD f)]) (.bool (!ks f p)):=by
 refine zp func141 Z (by decide) Z<|ai<|y9 (cs:=_) Z Z Z<|ab Z<|z6<|ai<|ae jv jj Z Z<|ae X1 Zb Z Z<|zg (C8 _ _ (by assumption)) Z<|aD Z<|ab Z<|z6<|zi<|zn (x:=.bool _) Z ?_
 rfl
theorem tE (f:ac) (x:aF) (hx:pA x.args):aM prog E 143 ([.agg (bF x)]++[.pf (bD f)]) (.bool (!dO f x)):=by
 refine zp func143 Z (by decide) Z<|ai<|y9 (cs:=_) Z Z Z<|ab Z<|z6<|ai<|ae jv jj Z Z<|ae Y0 jx Z Z<|zg (A9 _ _ (by assumption)) Z<|aD Z<|ab Z<|z6<|zi<|zn (x:=.bool _) Z ?_
 rfl
def hU (f:ac) (b:aX):Bool:=!(b.phis.any fun p=>!ks f p)&&!(b.insts.any fun x=>!dO f x)&&bH f b.term
theorem pU {f:ac} {b:aX} (h:(b.phis.any fun p=>!ks f p)=true):hU f b=false:=by unfold hU;rw[h];rfl
theorem pV {f:ac} {b:aX} (h:(b.insts.any fun x=>!dO f x)=true):hU f b=false:=by unfold hU;rw[h];simp
theorem pW {f:ac} {b:aX} (h:(!bH f b.term)=true):hU f b=false:=by unfold hU;rw[show bH f b.term=false by simpa using h];simp
theorem C9 {f:ac} {b:aX} (h1:(b.phis.any fun p=>!ks f p)=false) (h2:(b.insts.any fun x=>!dO f x)=false) (h3:(!bH f b.term)=false):hU f b=true:=by unfold hU;rw[h1,h2,show bH f b.term=true by simpa using h3];rfl
def ft (f:ac):Bool:=decide (f8 f)&&(f.blocks.all (hU f)&&decide (fc f.blocks≤1024))
theorem vh (f:ac) (hf:tm f) (h1:f.vars.length≤100000000) (h2:f.blocks.length≤100000000) (hp:f.params.length≤100000000) (hn:mM f) (hL:bz E):aM prog E 103 [.agg (bD f)] (.bool (ft f)):=by
 refine zp func103 Z (by decide) Z<|ai<|y9 (cs:=_) Z Z Z<|ab Z<|z6<|zd<|ai<|ae jv jj Z Z<|zg (vg _ (by omega) (by omega) (by omega) (by assumption) hL) Z<|aD Z<|z6<|zy Z (fun cn=>?_) (fun cn=>?_)
 ·refine ai<|ab Z<|z6<|zi<|zn (x:=.bool _) Z ?_
  exact jb (by unfold ft;rw[show decide (f8 f)=false by simpa using cn];rfl)
 ·have hN:f8 f:=by simpa using cn
  have hbl:=hN.2.2.1.2.2.2.2
  refine zh<|ai<|ak Z<|z6<|zd<|ai<|au jg Z Z8 Z Z<|aI Zh Z<|ap ju Z<|aa Z<|z6<|zk<|y7 (γ:=Nat) [1,11,12] (fun k=>[(3,.int .i64 (fc (f.blocks.take k))),(13,.int .i64 k)]) (fun k=>[]) (fun k=>k≤f.blocks.length∧fc (f.blocks.take k)≤k*562949953421312∧(f.blocks.take k).all (hU f)=true) (fun k=>f.blocks.length - k) 0 eh aH (⟨qw _,qw _,Z⟩) ?_
  rintro k ⟨hk,hsum,hall⟩
  refine ai<|ax Z Z<|z6<|zd<|zt Z (fun ck=>?_) (fun ck=>?_)
  ·have hk2:k<f.blocks.length:=by simp at ck;omega
   obtain ⟨b,hbk⟩:∃b,f.blocks[k]=b:=⟨_,rfl⟩
   have hget:f.blocks[k]?=some b:=by rw[qt hk2,hbk]
   have hb:=hf.2.2.2 b (hbk▸qx hk2)
   have hb1:=hb.1.lt
   have hb2:=hb.2.1.lt
   have hsucc:=pP f.blocks k hk2
   rw[hbk] at hsucc
   refine zh<|zd<|zk<|ai<|za (bv k ju jy Z Z Z hget)<|ae Yo jy Z Z<|y6 (cs:=[.str ⟨#[]⟩,.raw (.slice none 0 0),.raw (.slice none 0 0),.int .i64 0,.int .i64 0,.int .i64 0,.int .i64 0]) Zl Z Z<|fun i5=>y1 jy Z Z Z Z Z Z .head Z<|z6<|ai<|aa Z<|za (zf ji Z Yl (by decide) Z Z)<|za (zo (c:=.fro _ _) Yv Z ⟨_,.head⟩ Z)<|ap Z4 Z<|za (zf ji Z Zq (by decide) Z Z)<|za (zo (c:=.fro _ _) Y4 Z ⟨_,.head⟩ Z)<|ap jz Z<|aC Z Z<|aC Z Z<|ak Z<|z6<|ai<|za (zf ji Z Yl (by decide) Z Z)<|za (zo (c:=.fro _ _) Yv Z ⟨_,.head⟩ Z)<|za (Gv.func Z Z)<|zg (md b.phis (by omega) (fun p hp=>tD f p (hb.2.2.1 p hp))) Z<|aj Z<|zq (s:=30) Z (fun c1=>?_) (fun c1=>?_)
   ·refine z7 Z Z c1<|z7 Z Z c1<|z7 Z Z c1<|z7 Z Z c1<|aw Z c1 Z<|ab Z<|z6<|ai<|aj Z<|aj Z<|z7 Z Z Z<|z7 Z Z Z<|z7 Z Z Z<|z7 Z Z Z<|z7 Z Z Z<|aw Z Z Z<|z6<|yu Z Z<|ai<|ab Z<|z6<|zi<|zn (x:=.bool _) Z ?_
    exact jb (by unfold ft;rw[show f.blocks.all (hU f)=false from Bool.eq_false_iff.2 (dh hk2 (by rw[hbk];first|exact pU (by assumption)|exact pV (by assumption)|exact pW (by assumption)))];simp)
   ·refine z8 Z Z c1<|za (zf ji Z Zq (by decide) Z Z)<|z8 Z Z c1<|za (zo (c:=.fro _ _) Y4 Z ⟨_,.head⟩ Z)<|z8 Z Z c1<|za (Gv.func Z Z)<|z8 Z Z c1<|zg (g9 b.insts (by omega) (fun x hx=>tE f x (hb.2.2.2 x hx))) Z<|ay Z c1 Z<|ab Z<|z6<|ai<|aj Z<|aj Z<|zq (s:=37) Z (fun c2=>?_) (fun c2=>?_)
    ·refine z7 Z Z c2<|z7 Z Z c2<|z7 Z Z c2<|z7 Z Z c2<|z7 Z Z c2<|aw Z c2 Z<|z6<|yu Z Z<|ai<|ab Z<|z6<|zi<|zn (x:=.bool _) Z ?_
     exact jb (by unfold ft;rw[show f.blocks.all (hU f)=false from Bool.eq_false_iff.2 (dh hk2 (by rw[hbk];first|exact pU (by assumption)|exact pV (by assumption)|exact pW (by assumption)))];simp)
    ·refine z8 Z Z c2<|ae jv jj Z Z<|z8 Z Z c2<|za (zf ji Z Zo (by decide) Z Z)<|z8 Z Z c2<|za (Gv.loadAC (l:=[_,_,_,_]) isAgg49 Zo Z ⟨_,.head⟩ Z Z)<|z8 Z Z c2<|zg (Ba _ _) Z<|z8 Z Z c2<|aD Z<|ay Z c2 Z<|z6<|zy Z (fun c3=>?_) (fun c3=>?_)
     ·refine ai<|ab Z<|z6<|zi<|zn (x:=.bool _) Z ?_
      exact jb (by unfold ft;rw[show f.blocks.all (hU f)=false from Bool.eq_false_iff.2 (dh hk2 (by rw[hbk];first|exact pU (by assumption)|exact pV (by assumption)|exact pW (by assumption)))];simp)
     ·refine zh<|aT<|aC Z Z<|aa Z<|z6 ?_
      exact ⟨k+1,de,⟨congrArg (AV.int .i64) (by rw[hsucc];omega),rfl,trivial⟩,⟨_,(.drop (.refl _)),rfl⟩,⟨hk2,by rw[hsucc];omega,bI hk2 hall (by rw[hbk];exact C9 (by assumption) (by assumption) (by assumption))⟩,by omega⟩
  ·have hkn:k=f.blocks.length:=by simp at ck;omega
   subst hkn
   rw[qy] at hall ⊢
   refine y5<|ai<|aa Z<|za (Gv.leq Z Z)<|ab Z<|z6<|zi<|zn (x:=.bool _) Z ?_
   exact jb (by unfold ft;rw[w8 hN,hall];simp;omega)
theorem sH (f:ac) (p:dF):ks f p=true↔tA f p:=by
 unfold ks tA
 simp only[wa,Bool.not_eq_true',decide_eq_false_iff_not,wg]
 constructor
 ·rintro ⟨⟨⟨⟨h1,h2⟩,h3⟩,h4⟩,h5⟩;exact ⟨h3,h2,by omega,h4,h5⟩
 ·rintro ⟨h3,h2,h1,h4,h5⟩;exact ⟨⟨⟨⟨by omega,h2⟩,h3⟩,h4⟩,h5⟩
theorem sJ (t:Int):¬jV t=⟨#[]⟩↔0≤t∧t≤2:=by
 unfold jV
 constructor
 ·intro h
  by_cases h0:t=0
  ·omega
  ·by_cases h1:t=1
   ·omega
   ·by_cases h2:t=2
    ·omega
    ·rw[if_neg h0,if_neg h1,if_neg h2] at h;exact absurd rfl h
 ·intro h e
  have:t=0∨t=1∨t=2:=by omega
  rcases this with rfl|rfl|rfl<;>exact absurd e (by decide)
theorem Bh (f:ac) (b:aX):hU f b=true↔Bb f b:=by
 unfold hU Bb
 simp only[wa,Bool.not_eq_true',List.any_eq_false,Bool.not_eq_false]
 constructor
 ·rintro ⟨⟨h1,h2⟩,h3⟩
  exact ⟨fun p hp=>(sH f p).1 (by simpa using h1 p hp),fun x hx=>(pR f x).1 (by simpa using h2 x hx),h3⟩
 ·rintro ⟨h1,h2,h3⟩
  exact ⟨⟨fun p hp=>by simpa using (sH f p).2 (h1 p hp),fun x hx=>by simpa using (pR f x).2 (h2 x hx)⟩,h3⟩
theorem Da {l:List ByteArray}:xr l↔∀i (h:i<l.length),eT l[i]=true∧l[i] ∉ l.take i:=by
 unfold xr
 constructor<;>intro h i hi
 ·exact ⟨(h i hi).1,fun hm=>by have:=zR.2 hm;rw[(h i hi).2] at this;cases this⟩
 ·exact ⟨(h i hi).1,Bool.eq_false_iff.2 fun hm=>(h i hi).2 (zR.1 hm)⟩
theorem zT {f:ac} {i:Nat} (h:i<(dT f).length) (h':i<f.vars.length):(dT f)[i]=f.vars[i].name:=by
 have:(dT f)[i]?=some f.vars[i].name:=by unfold dT;rw[w2,qt h'];rfl
 rw[qt h] at this
 simpa using this
theorem zU {f:ac} {i:Nat} (h:i<(ec f).length) (h':i<f.blocks.length):(ec f)[i]=f.blocks[i].name:=by
 have:(ec f)[i]?=some f.blocks[i].name:=by unfold ec;rw[w2,qt h'];rfl
 rw[qt h] at this
 simpa using this
theorem hZ (f:ac):ft f=decide (bS f):=by
 rw[w3,decide_eq_true_iff]
 unfold ft
 simp only[wa,decide_eq_true_iff,wb,Bh]
 unfold f8 lR bS nt
 simp only[Da]
 constructor
 ·rintro ⟨⟨h1,h2,⟨g1,g2,g3,g4,g5⟩,h4,h5⟩,h6,h7⟩
  refine ⟨?_,h2,fun i h=>?_,fun i h=>?_,h7,h6⟩
  ·simp;omega
  ·have ht:=(sJ _).1 (h1 i h)
   have hu:=h4 i (by unfold dT;simpa using h)
   have e:=zT (f:=f) (i:=i) (by unfold dT;simpa using h) h
   rw[e] at hu
   exact ⟨by rw[oS];exact hu.1,ht.1,ht.2,fun s hs e2=>hu.2 (by unfold dT;rw[←List.map_take,←e2];exact hs)⟩
  ·have hu:=h5 i (by unfold ec;simpa using h)
   have e:=zU (f:=f) (i:=i) (by unfold ec;simpa using h) h
   rw[e] at hu
   exact ⟨by rw[oS];exact hu.1,fun s hs e2=>hu.2 (by unfold ec;rw[←List.map_take,←e2];exact hs)⟩
 ·rintro ⟨h1,h2,h3,h4,h7,h6⟩
  simp at h1
  refine ⟨⟨fun i h=>(sJ _).2 ⟨(h3 i h).2.1,(h3 i h).2.2.1⟩,h2,by omega,fun i h=>?_,fun i h=>?_⟩,h6,h7⟩
  ·have h':i<f.vars.length:=by simpa using h
   have e:=zT h h'
   rw[e]
   exact ⟨by rw[←oS];exact (h3 i h').1,fun hm=>(h3 i h').2.2.2 _ (by unfold dT at hm;rw[←List.map_take] at hm;exact hm) rfl⟩
  ·have h':i<f.blocks.length:=by simpa using h
   have e:=zU h h'
   rw[e]
   exact ⟨by rw[←oS];exact (h4 i h').1,fun hm=>(h4 i h').2 _ (by unfold ec at hm;rw[←List.map_take] at hm;exact hm) rfl⟩
end Go.Proofs.YtdilpodccjlkgaaGreatDoor
namespace Go.Proofs.YtdilpodccjlkgaaGreatDoor
open Go.Proofs.Tryz
open Go.Proofs Go.Lib Go.Shelf Go.RowKit
variable {E:World}
set_option maxRecDepth 20000
theorem bS.ends {f:ac} (h:bS f):bV f:=by
 obtain ⟨h1,_,_,_,_,h6⟩:=h
 unfold nt at h1
 simp only[Bool.or_eq_false_iff,decide_eq_false_iff_not] at h1
 refine ⟨by omega,fun b hb c hc=>?_⟩
 have ht:=(h6 b hb).2.2
 unfold bH at ht
 unfold cJ at hc
 split at hc
 ·rename_i hk
  rw[if_pos hk] at ht
  simp only[wa,eN,wg] at ht
  simp at hc;subst hc;exact ht.1.1
 ·rename_i hk
  rw[if_neg hk] at ht
  split at hc
  ·rename_i hk1
   rw[if_pos hk1] at ht
   simp only[wa,eN,wg] at ht
   split at hc
   ·simp at hc;subst hc;exact ht.1.2
   ·simp at hc;rcases hc with rfl|rfl
    ·exact ht.1.2
    ·exact ht.2
  ·cases hc
def iK (f:ac) (b:aX):Bool:=b.phis.all (tn f)&&b.insts.all (dL f)&&d6 f b.term
def bi (f:ac):Bool:=ft f&&f.blocks.all (iK f)
theorem small.shaped {f:ac} (hf:small f) (hL:bz E):aM prog E 103 [.agg (bD f)] (.bool (ft f)):=
 vh f hf.ok (by have:=hf.1;omega) (by have:=hf.2.2.1;omega) (by have:=hf.2.1;omega) hf.names hL
theorem ia {f:ac} {t:fk} (h:bH f t=true) (hk:¬t.kind=0):bd f t.var=true:=by
 unfold bH at h
 rw[if_neg hk] at h
 split at h
 ·simp only[wa] at h;exact h.1.1
 ·split at h
  ·simp only[wa] at h;exact h.1
  ·cases h
theorem pX (f:ac) (hf:small f) (hL:bz E):aM prog E 62 [.agg (bD f)] (.int .i64 (if bi f then 0 else 3)):=by
 have hok:=hf.ok
 refine zp func62 Z (by decide) Z<|ai<|y9 (cs:=_) Z Z Z<|ak Z<|z6<|zd<|ai<|ae jv jj Z Z<|zg (hf.shaped hL) Z<|aD Z<|z6<|zy Z (fun cs=>?_) (fun cs=>?_)
 ·refine ai<|ak Z<|z6<|zi<|zn (x:=.int _ _) Z ?_
  unfold bi;rw[show ft f=false by simpa using cs];rfl
 ·have hsb:ft f=true:=by simpa using cs
  have hS:bS f:=by rw[hZ] at hsb;exact wd hsb
  have hB:=hS.2.2.2.2.2
  have hfl:=hok.2.2.1.lt
  refine zh<|zd<|ai<|au jg Z Z8 Z Z<|aI Zh Z<|ap ju Z<|aa Z<|z6<|zk<|y7 (γ:=Nat) [1,13,14] (fun k=>[(15,.int .i64 k)]) (fun k=>[]) (fun k=>k≤f.blocks.length∧(f.blocks.take k).all (iK f)=true) (fun k=>f.blocks.length - k) 0 aK aH (⟨qw _,Z⟩) ?_
  rintro k ⟨hk,hall⟩
  refine ai<|ax Z Z<|z6<|zd<|zt Z (fun ck=>?_) (fun ck=>?_)
  ·have hk2:k<f.blocks.length:=by simp at ck;omega
   obtain ⟨b,hbk⟩:∃b,f.blocks[k]=b:=⟨_,rfl⟩
   have hget:f.blocks[k]?=some b:=by rw[qt hk2,hbk]
   have hmem:b∈f.blocks:=hbk▸qx hk2
   obtain ⟨hph,hin,htm⟩:=hB b hmem
   have hbad:iK f b=false→bi f=false:=fun h=>by unfold bi;rw[Bool.eq_false_iff.2 (dh hk2 (by rw[hbk];exact h))];simp
   have hs5:=hok.2.2.2 b hmem
   have hpl:=hs5.1.lt
   have hil:=hs5.2.1.lt
   refine zh<|zd<|zk<|ai<|za (bv k ju jy Z Z Z hget)<|ae Yo jy Z Z<|y6 (cs:=[.str ⟨#[]⟩,.raw (.slice none 0 0),.raw (.slice none 0 0),.int .i64 0,.int .i64 0,.int .i64 0,.int .i64 0]) Zl Z Z<|fun i4=>y1 jy Z Z Z Z Z Z .head Z<|ze (yc (t:=4) Z .head)<|z6<|zd<|ai<|au ji Z Yl Z Z<|aI Yv Z<|ap Z4 Z<|aa Z<|z6<|zk<|y7 (γ:=Nat) [1,4,13,14,15,20,21] (fun p=>[(22,.int .i64 p)]) (fun p=>[]) (fun p=>p≤b.phis.length∧(b.phis.take p).all (tn f)=true) (fun p=>b.phis.length - p) 0 aK aH (⟨qw _,Z⟩) ?_
   rintro p ⟨hp,hpall⟩
   refine ai<|ax Z Z<|z6<|zd<|zt Z (fun cp=>?_) (fun cp=>?_)
   ·have hp2:p<b.phis.length:=by simp at cp;omega
    have hpm:=qx hp2
    have hP:=hph _ hpm
    refine zh<|zd<|zk<|ai<|za (bv p Z4 Zb Z Z Z (qt hp2))<|ae X1 Zb Z Z<|y6 (cs:=[.int .i64 0,.raw (.slice none 0 0),.raw (.slice none 0 0)]) Yf Z Z<|fun i6=>y1 Zb Z Z Z Z Z Z .head Z<|ze (yc (t:=6) Z .head)<|z6<|ai<|ae jv jj Z Z<|ae X1 Zb Z Z<|zg (AZ f b.phis[p] (hs5.2.2.1 _ hpm) hP.2.2.2.1 hP.1) Z<|aD Z<|z6<|zy Z (fun cq=>?_) (fun cq=>?_)
    ·refine ai<|ak Z<|z6<|zi<|zn (x:=.int _ _) Z ?_
     rw[hbad (by unfold iK;rw[Bool.eq_false_iff.2 (dh hp2 (by simpa using cq))];rfl)];rfl
    ·refine zh<|aT<|aC Z Z<|aa Z<|z6 ?_
     exact ⟨p+1,lu,aK,aH,⟨hp2,bI hp2 hpall (by simpa using cq)⟩,by omega⟩
   ·have hpn:p=b.phis.length:=by simp at cp;omega
    subst hpn
    rw[qy] at hpall
    refine y5<|zd<|ai<|au ji Z Zq Z Z<|aI Y4 Z<|ap jz Z<|aa Z<|z6<|zk<|y7 (γ:=Nat) [1,4,13,14,15,32,33] (fun q=>[(34,.int .i64 q)]) (fun q=>[]) (fun q=>q≤b.insts.length∧(b.insts.take q).all (dL f)=true) (fun q=>b.insts.length - q) 0 aK aH (⟨qw _,Z⟩) ?_
    rintro q ⟨hq,hqall⟩
    refine ai<|ax Z Z<|z6<|zd<|zt Z (fun cp2=>?_) (fun cp2=>?_)
    ·have hq2:q<b.insts.length:=by simp at cp2;omega
     have hqm:=qx hq2
     have hI:=gN (hin _ hqm)
     have hId:cS b.insts[q].op=true→bd f b.insts[q].dst=true:=fun h=>by
      rcases hI.dst with ⟨d1,_⟩|⟨_,_,d3⟩
      ·rw[h] at d1;cases d1
      ·exact d3
     refine zh<|zd<|zk<|ai<|za (bv q jz jx Z Z Z (qt hq2))<|ae Y0 jx Z Z<|y6 (cs:=[.int .i64 0,.int .i64 0,.raw (.slice none 0 0),.int .i64 0]) Zf Z Z<|fun i8=>y1 jx Z Z Z Z Z Z .head Z<|ze (yc (t:=8) Z .head)<|z6<|ai<|ae jv jj Z Z<|ae Y0 jx Z Z<|zg (xf f b.insts[q] (List.all_eq_true.2 hI.args) hI.len hId) Z<|aD Z<|z6<|zy Z (fun cq=>?_) (fun cq=>?_)
     ·refine ai<|ak Z<|z6<|zi<|zn (x:=.int _ _) Z ?_
      rw[hbad (by unfold iK;rw[hpall,Bool.eq_false_iff.2 (dh hq2 (by simpa using cq))];rfl)];rfl
     ·refine zh<|aT<|aC Z Z<|aa Z<|z6 ?_
      exact ⟨q+1,lu,aK,aH,⟨hq2,bI hq2 hqall (by simpa using cq)⟩,by omega⟩
    ·have hqn:q=b.insts.length:=by simp at cp2;omega
     subst hqn
     rw[qy] at hqall
     refine y5<|ai<|ae jv jj Z Z<|au ji Z Zo Z Z<|ae isAgg49 Zo Z Z<|zg (xh f b.term (ia htm)) Z<|aD Z<|z6<|zy Z (fun ct=>?_) (fun ct=>?_)
     ·refine ai<|ak Z<|z6<|zi<|zn (x:=.int _ _) Z ?_
      rw[hbad (by unfold iK;rw[hpall,hqall];simpa using ct)];rfl
     ·refine zh<|aT<|aC Z Z<|aa Z<|z6 ?_
      exact ⟨k+1,de,aK,aH,⟨hk2,bI hk2 hall (by rw[hbk];unfold iK;rw[hpall,hqall];simpa using ct)⟩,by omega⟩
  ·have hkn:k=f.blocks.length:=by simp at ck;omega
   subst hkn
   rw[qy] at hall
   refine y5<|ai<|ak Z<|z6<|zi<|zn (x:=.int _ _) Z ?_
   unfold bi;rw[hsb,hall];rfl
end Go.Proofs.YtdilpodccjlkgaaGreatDoor
