/- Typed; which blocks are reached; joined. Of programs that are little. -/
import Derived.Test.YtdilpodccjlkgaaGreatDoorHh
import Derived.Test.YtdilpodccjlkgaaGreatDoorHg
import Derived.Test.YtdilpodccjlkgaaGreatDoorHc
import Derived.Lib.MapLaws
import Derived.Test.YtdilpodccjlkgaaGreatDoorHf
set_option linter.unusedVariables false
set_option linter.unusedSimpArgs false
set_option linter.unusedSectionVars false
namespace Go.Proofs.YtdilpodccjlkgaaGreatDoor
open Go.Proofs.Tryz
open Go.Proofs Go.Lib Go.Shelf Go.RowKit
set_option maxRecDepth 20000
variable {E:World}
theorem Df:∀r∈gk,r.1≠⟨#[]⟩:=by decide
theorem Dg {op:Int} (h:0≤op∧op≤26):(cJ op).1≠⟨#[]⟩:=by
 have hm:cJ op∈gk:=by
  unfold cJ
  rw[if_pos h.1,qk (show _<27 by omega)]
  exact qo _
 exact Df _ hm
theorem Bm:∀j:Nat,j<27→ou (j:Int)=(decide ((cJ (j:Int)).1=⟨#[99,111,110,115,116]⟩)||decide ((cJ (j:Int)).1=⟨#[112,105]⟩)):=by decide
theorem rv {x:aF} (h:0≤x.op∧x.op≤26):jR x=ou x.op:=by
 have:=Bm x.op.toNat (by omega)
 rw[Int.toNat_of_nonneg h.1] at this
 unfold jR;exact this.symm
theorem mP (op:Int):(bH op).length=(cJ op).2.1.size:=by unfold bH;rw[qr];exact Array.length_toList
theorem yQ (b:ByteArray):b.data.toList.isEmpty=decide (b=⟨#[]⟩):=by
 obtain ⟨⟨l⟩⟩:=b
 cases l<;>simp
theorem kW (op:Int):dV op=!decide ((cJ op).2.2=⟨#[]⟩):=by unfold dV;rw[yQ]
theorem yR {op:Int} (h:¬(0≤op∧op≤26)):cJ op=(⟨#[]⟩,⟨#[]⟩,⟨#[]⟩):=tE (by unfold p8;simp;omega)
theorem oP (f:ad) (x:aF):dF f x=true↔oM f x:=by
 by_cases h:0≤x.op∧x.op≤26
 ·have hw:=Dg h
  have hn:=rv h
  unfold dF f5 gl oM mN
  rw[mP,kW,hn]
  by_cases h1:x.args.length=(cJ x.op).2.1.size<;>by_cases h2:(cJ x.op).2.2=⟨#[]⟩<;>by_cases h3:x.dst=-1<;>by_cases h4:x.num=0<;>by_cases h5:x.args.all (aZ f)=true<;>simp_all[Int.ofNat_inj]<;>(try (unfold aZ;simp))<;>(try grind)
 ·constructor
  ·intro h2
   have:=yR h
   unfold dF f5 at h2
   rw[this] at h2;simp at h2
  ·intro h2;exact absurd ⟨h2.1,h2.2.1⟩ h
def only (f:ad) (x:aF):ad:={ f with blocks:=[⟨⟨#[111,110,108,121]⟩,[],[x],⟨0,0,0,0⟩⟩] }
def ended (f:ad) (b0:aY) (bs:List aY) (t:fH):ad:={ f with blocks:={ b0 with term:=t }::bs }
end Go.Proofs.YtdilpodccjlkgaaGreatDoor
namespace Go.Proofs.YtdilpodccjlkgaaGreatDoor
open Go.Proofs.Tryz
open Go.Proofs Go.Lib Go.Shelf Go.RowKit
set_option maxRecDepth 20000
variable {E:World}
def eo (c:Int):Bool:=isLetterU c&&!decide (c=65533)
def oQ (c:Int):Bool:=decide (48≤c)&&decide (c≤57)
def eE (c:Int):Bool:=eo c||(oQ c||(decide (c=46)||decide (c=95)))
theorem mg (c:Int) (h1:-2147483648≤c) (h2:c≤2147483647) (hL:bB E):aK prog E 212 [.int .i32 c] (.bool (eo c)):=by
 refine zq func212 U (by decide) U<|ae<|ab U<|z6<|ae<|aa U<|ze (nb c h1 h2 hL) U<|aj U<|zo (s:=5) U (fun c1=>?_) (fun c1=>?_)
 ·refine z8 U U c1<|aa U<|z8 U U c1<|aM U U<|aq U c1 U<|ab U<|z6<|zi<|zm (x:=.bool _) U ?_
  exact jb (by simp_all[eo])
 ·refine z7 U U c1<|z7 U U c1<|au U c1 U<|ab U<|z6<|zi<|zm (x:=.bool _) U ?_
  exact jb (by simp_all[eo])
theorem tX (c:Int):aK prog E 220 [.int .i32 c] (.bool (oQ c)):=by
 refine zq func220 U (by decide) U<|ae<|ab U<|z6<|ae<|aa U<|za (yy U U)<|aj U<|zo (s:=5) U (fun c2=>?_) (fun c2=>?_)
 ·refine z8 U U c2<|aa U<|z8 U U c2<|za (qb U U)<|aq U c2 U<|ab U<|z6<|zi<|zm (x:=.bool _) U ?_
  exact jb (by simp_all[oQ]<;>(intros;omega))
 ·refine z7 U U c2<|z7 U U c2<|au U c2 U<|ab U<|z6<|zi<|zm (x:=.bool _) U ?_
  exact jb (by simp_all[oQ]<;>(intros;omega))
theorem nc (c:Int) (h1:-2147483648≤c) (h2:c≤2147483647) (hL:bB E):aK prog E 213 [.int .i32 c] (.bool (eE c)):=by
 refine zq func213 U (by decide) U<|ae<|ab U<|z6<|ae<|aa U<|ze (mg c h1 h2 hL) U<|aj U<|zo (s:=5) U (fun c3=>?_) (fun c3=>?_)
 ·refine z7 U U c3<|z7 U U c3<|aq U c3 U<|aj U<|z7 U U U<|z7 U U U<|aq U U U<|aj U<|z7 U U U<|z7 U U U<|aq U U U<|ab U<|z6<|zi<|zm (x:=.bool _) U ?_
  exact jb (by simp_all[eE])
 ·refine z8 U U c3<|aa U<|z8 U U c3<|ze (tX _) U<|au U c3 U<|aj U<|zo (s:=9) U (fun c4=>?_) (fun c4=>?_)
  ·refine z7 U U c4<|z7 U U c4<|aq U c4 U<|aj U<|z7 U U U<|z7 U U U<|aq U U U<|ab U<|z6<|zi<|zm (x:=.bool _) U ?_
   exact jb (by simp_all[eE])
  ·refine z8 U U c4<|aa U<|z8 U U c4<|ai U U<|au U c4 U<|aj U<|zo (s:=13) U (fun c5=>?_) (fun c5=>?_)
   ·refine z7 U U c5<|z7 U U c5<|aq U c5 U<|ab U<|z6<|zi<|zm (x:=.bool _) U ?_
    exact jb (by simp_all[eE])
   ·refine z8 U U c5<|aa U<|z8 U U c5<|ai U U<|au U c5 U<|ab U<|z6<|zi<|zm (x:=.bool _) U ?_
    exact jb (by simp_all[eE])
def bU (s:ByteArray) (p:Nat):List Int:=if h:p<s.size then ((Utf8.decode s p).1:Int)::bU s (p+(Utf8.decode s p).2) else[]
termination_by s.size - p
decreasing_by have:=(eh s p).1;omega
theorem eM {s:ByteArray} {p:Nat} (h:p<s.size):bU s p=((Utf8.decode s p).1:Int)::bU s (p+(Utf8.decode s p).2):=by rw[bU,dif_pos h]
theorem dp {s:ByteArray} {p:Nat} (h:¬p<s.size):bU s p=[]:=by rw[bU,dif_neg h]
theorem qC (s:ByteArray):∀k p,s.size - p≤k→(bU s p).length≤k:=by
 intro k
 induction k with
 |zero=>intro p h;rw[dp (by omega)];simp
 |succ k ih=>
  intro p h
  by_cases hp:p<s.size
  ·rw[eM hp]
   have:=(eh s p).1
   have:=ih (p+(Utf8.decode s p).2) (by omega)
   simp;omega
  ·rw[dp hp];simp
theorem vI (s:ByteArray) (hs:s.size≤140737488355328):aK prog E 214 [.str s] (.int .i64 (bU s 0).length):=by
 have h0:=qC s s.size 0 (by omega)
 refine zq func214 U (by decide) U<|ae<|ap U<|z6<|ae<|ap U<|z6<|zd<|ae<|za (yt (v:=.str _) U)<|az.rangeT Zr U<|fun i5=>z6<|zj<|y8 (γ:=Nat × Nat) [5] (fun g=>[(3,.int .i64 g.2)]) (fun g=>[(i5,.iter s g.1)]) (fun g=>g.2+(bU s g.1).length=(bU s 0).length) (fun g=>s.size - g.1) (0,0) aH aD (by simp) ?_
 rintro ⟨p,n⟩ hp
 try dsimp only at *
 by_cases hlt:p<s.size
 ·have hd:=(eh s p).1
  rw[eM hlt] at hp
  simp only[List.length_cons] at hp
  refine ae<|az.nextT U .head hlt<|bZ U U<|z6<|zd<|yl U U<|zg<|zj<|aO<|aa U<|aC U U<|ap U<|z6 ?_
  exact ⟨(p+(Utf8.decode s p).2,n+1),aH,aH,aD,by dsimp only;omega,by dsimp only;omega⟩
 ·rw[dp hlt] at hp
  simp only[List.length_nil] at hp
  refine ae<|az.nextTover U .head hlt<|bZ U U<|z6<|zd<|yg U U<|y7<|ae<|aa U<|ap U<|z6<|zi<|zm (x:=.int _ _) U ?_
  exact congrArg (AV.int .i64) (by omega)
def oR (s:ByteArray) (p:Nat):Bool:=if h:p<s.size then (if (decide (p=0)&&!eo ((Utf8.decode s p).1:Int))||!eE ((Utf8.decode s p).1:Int) then false else oR s (p+(Utf8.decode s p).2)) else (decide (¬s=⟨#[]⟩)&&decide (((bU s 0).length:Int)≤16))
termination_by s.size - p
decreasing_by have:=(eh s p).1;omega
def eF (s:ByteArray):Bool:=oR s 0
theorem vJ (s:ByteArray) (hs:s.size≤140737488355328) (hL:bB E):aK prog E 198 [.str s] (.bool (eF s)):=by
 refine zq func198 U (by decide) U<|ae<|ab U<|z6<|zd<|ae<|za (yt (v:=.str _) U)<|az.rangeT Zr U<|fun i6=>z6<|zj<|y8 (γ:=Nat) [0,6] (fun p=>[]) (fun p=>[(i6,.iter s p)]) (fun p=>oR s p=eF s) (fun p=>s.size - p) 0 trivial aD (U) ?_
 rintro p hp
 by_cases hlt:p<s.size
 ·obtain ⟨hd1,hd2⟩:=eh s p
  have hstep:=hp
  rw[oR,dif_pos hlt] at hstep
  refine ae<|az.nextT U .head hlt<|bZ U U<|z6<|zd<|yl U U<|zg<|zj<|ae<|bJ U U<|bJ U U<|ap U<|ap U<|z6<|ae<|aa U<|ai U U<|aj U<|zo (s:=13) U (fun c6=>?_) (fun c6=>?_)
  ·refine z8 U U c6<|aa U<|z8 U U c6<|ze (mg _ (by omega) (by omega) hL) U<|z8 U U c6<|aB U<|aq U c6 U<|aj U<|zo (s:=18) U (fun c7=>?_) (fun c7=>?_)
   ·refine z7 U U c7<|z7 U U c7<|z7 U U c7<|aq U c7 U<|z6<|yl U U<|ae<|ab U<|z6<|zi<|zm (x:=.bool _) U ?_
    rw[if_pos (by simp_all<;>omega)] at hstep;exact jb hstep
   ·refine z8 U U c7<|aa U<|z8 U U c7<|ze (nc _ (by omega) (by omega) hL) U<|z8 U U c7<|aB U<|au U c7 U<|z6<|zy U (fun c8=>?_) (fun c8=>?_)
    ·refine ae<|ab U<|z6<|zi<|zm (x:=.bool _) U ?_
     rw[if_pos (by simp_all<;>omega)] at hstep;exact jb hstep
    ·refine zg ?_
     exact ⟨p+(Utf8.decode s p).2,cV,trivial,aD,by rw[if_neg (by simp_all<;>omega)] at hstep;exact hstep,by omega⟩
  ·refine z7 U U c6<|z7 U U c6<|z7 U U c6<|au U c6 U<|aj U<|z8 U U U<|aa U<|z8 U U U<|ze (nc _ (by omega) (by omega) hL) U<|z8 U U U<|aB U<|au U U U<|z6<|zy U (fun c9=>?_) (fun c9=>?_)
   ·refine ae<|ab U<|z6<|zi<|zm (x:=.bool _) U ?_
    rw[if_pos (by simp_all<;>omega)] at hstep;exact jb hstep
   ·refine zg ?_
    exact ⟨p+(Utf8.decode s p).2,cV,trivial,aD,by rw[if_neg (by simp_all<;>omega)] at hstep;exact hstep,by omega⟩
 ·rw[oR,dif_neg hlt] at hp
  refine ae<|az.nextTover U .head hlt<|bZ U U<|z6<|zd<|yg U U<|y7<|ae<|za (yt (v:=.str _) U)<|za (Gv.neqT U U)<|aj U<|zo (s:=25) U (fun c10=>?_) (fun c10=>?_)
  ·refine z8 U U c10<|za (yt (v:=.str _) U)<|z8 U U c10<|ze (vI _ (by assumption)) U<|z8 U U c10<|za (qb U U)<|aq U c10 U<|ab U<|z6<|zi<|zm (x:=.bool _) U ?_
   rw[←hp];exact jb (by simp_all<;>(try omega))
  ·refine z7 U U c10<|z7 U U c10<|z7 U U c10<|au U c10 U<|ab U<|z6<|zi<|zm (x:=.bool _) U ?_
   rw[←hp];exact jb (by simp_all<;>(try omega))
end Go.Proofs.YtdilpodccjlkgaaGreatDoor
namespace Go.Proofs.YtdilpodccjlkgaaGreatDoor
open Go.Proofs.Tryz
open Go.Proofs Go.Lib Go.Shelf Go.RowKit
set_option maxRecDepth 20000
variable {E:World}
def iW (t:Int):ByteArray:=if t=0 then ⟨#[105,110,116]⟩ else if t=1 then ⟨#[98,111,111,108]⟩ else if t=2 then ⟨#[97,114,114]⟩ else ⟨#[]⟩
theorem Dh (s:ByteArray):F2 s.data.toList=s:=by unfold F2;simp
def xe:List Int→Bool
 |[]=>false
 |c::rs=>eo c&&(rs.all eE&&decide (rs.length+1≤16))
theorem sn {c:Int} (h:eo c=true):eE c=true:=by unfold eE;rw[h];rfl
theorem Bn (s:ByteArray):∀(n p:Nat),s.size - p≤n→0<p→p≤s.size→oR s p=((bU s p).all eE&&decide ((bU s 0).length≤16)):=by
 intro n
 induction n with
 |zero=>
  intro p h hp hps
  have hne:¬s=⟨#[]⟩:=fun e=>by subst e;have:p≤0:=hps;omega
  rw[oR,dif_neg (by omega),dp (p:=p) (by omega)]
  simp[hne];omega
 |succ n ih=>
  intro p h hp hps
  by_cases hlt:p<s.size
  ·have hd:=(eh s p).1
   have hw:p+(Utf8.decode s p).2≤s.size:=by
    have:=decodeL_le (s.data.toList.drop p) (by intro e;have:=congrArg List.length e;rw[List.length_drop] at this;have h2:s.data.toList.length=s.size:=Array.length_toList;simp only[List.length_nil] at this;omega)
    rw[decodeL_drop,List.length_drop] at this
    have h2:s.data.toList.length=s.size:=Array.length_toList
    omega
   rw[oR,dif_pos hlt,eM hlt,List.all_cons]
   have hp0:decide (p=0)=false:=qy (by omega)
   rw[hp0,Bool.false_and,Bool.false_or]
   cases hi:eE ((Utf8.decode s p).1:Int) with
   |false=>simp
   |true=>rw[if_neg (by simp),ih _ (by omega) (by omega) hw];simp
  ·have hne:¬s=⟨#[]⟩:=fun e=>by subst e;have:p≤0:=hps;omega
   rw[oR,dif_neg hlt,dp (p:=p) hlt]
   simp[hne];omega
theorem Di {s:ByteArray} {p:Nat} (hlt:p<s.size):p+(Utf8.decode s p).2≤s.size:=by
 have h2:s.data.toList.length=s.size:=Array.length_toList
 have:=decodeL_le (s.data.toList.drop p) (by intro e;have:=congrArg List.length e;rw[List.length_drop] at this;simp only[List.length_nil] at this;omega)
 rw[decodeL_drop,List.length_drop] at this
 omega
theorem vK (s:ByteArray):eF s=xe (bU s 0):=by
 unfold eF
 by_cases hlt:0<s.size
 ·have hd:=(eh s 0).1
  have hw:=Di hlt
  have hr:=eM hlt
  have hl:=congrArg List.length hr
  rw[List.length_cons] at hl
  rw[oR,dif_pos hlt]
  have h2:xe (bU s 0)=(eo ((Utf8.decode s 0).1:Int)&&((bU s (0+(Utf8.decode s 0).2)).all eE&&decide ((bU s (0+(Utf8.decode s 0).2)).length+1≤16))):=by rw[hr];rfl
  rw[h2]
  cases hc:eo ((Utf8.decode s 0).1:Int) with
  |false=>simp
  |true=>
   rw[sn hc,if_neg (by simp),Bn s _ _ (Nat.le_refl _) (by omega) hw,hl];rfl
 ·rw[oR,dif_neg hlt,dp hlt]
  have:s=⟨#[]⟩:=by
   have h2:s.data.toList.length=s.size:=Array.length_toList
   have h3:s.data.toList=[]:=List.eq_nil_of_length_eq_zero (by omega)
   rw[←Dh s,h3];rfl
  simp[this,xe]
theorem xf (k:Nat):(decide ((1:Int)≤((k+1:Nat):Int))&&decide (((k+1:Nat):Int)≤16))=(([]:List Int).all eE&&decide (k+1+([]:List Int).length≤16)):=by
 rw[qx (by omega),Bool.true_and]
 show _=(true&&_)
 rw[Bool.true_and,decide_eq_decide]
 show ((k+1:Nat):Int)≤16↔k+1+0≤16
 omega
theorem sq (s:ByteArray):∀(n p k:Nat),s.size - p≤n→eC s p (k+1)=((bU s p).all eE&&decide (k+1+(bU s p).length≤16)):=by
 intro n
 induction n with
 |zero=>
  intro p k h
  rw[eC,dif_neg (by omega),dp (by omega)]
  exact xf k
 |succ n ih=>
  intro p k h
  by_cases hlt:p<s.size
  ·have hd:=(eh s p).1
   rw[eC,dif_pos hlt,eM hlt,List.all_cons]
   have ho:dG ((Utf8.decode s p).1:Int) (k+1)=eE ((Utf8.decode s p).1:Int):=by
    unfold dG eE eo oQ
    have:decide (((k+1:Nat):Int)=0)=false:=qy (by omega)
    rw[this];simp[Bool.or_assoc]
   rw[ho]
   cases hi:eE ((Utf8.decode s p).1:Int) with
   |false=>simp
   |true=>rw[if_pos rfl,ih _ _ (by omega),Bool.true_and,List.length_cons];congr 2;simp;omega
  ·rw[eC,dif_neg hlt,dp hlt]
   exact xf k
theorem Dj (s:ByteArray):me s=xe (bU s 0):=by
 unfold me
 by_cases hlt:0<s.size
 ·rw[eC,dif_pos hlt,eM hlt]
  have ho:dG ((Utf8.decode s 0).1:Int) 0=eo ((Utf8.decode s 0).1:Int):=by unfold dG eo;simp
  rw[ho]
  show _=(eo ((Utf8.decode s 0).1:Int)&&_)
  cases hc:eo ((Utf8.decode s 0).1:Int) with
  |false=>simp
  |true=>rw[if_pos rfl,sq s _ _ _ (Nat.le_refl _),Bool.true_and];congr 2;simp;omega
 ·rw[eC,dif_neg hlt,dp hlt];rfl
theorem nR (s:ByteArray):me s=eF s:=by rw[Dj,vK]
structure dg (f:ad) (x:aF):Prop where
 op:0≤x.op∧x.op≤26
 len:x.args.length=(bH x.op).length
 dst:(dV x.op=false∧x.dst=-1)∨(dV x.op=true∧x.dst≠-1∧aZ f x.dst=true)
 num:ou x.op=false→x.num=0
 args:∀a∈x.args,aZ f a=true
theorem gp {f:ad} {x:aF} (h:oM f x):dg f x:=by
 obtain ⟨h1,h2,h3,h4⟩:=h
 have hw:=rv ⟨h1,h2⟩
 unfold mN at h3
 simp only[Bool.or_eq_false_iff,Bool.not_eq_false',w6,Bool.and_eq_false_iff,beq_iff_eq] at h3
 obtain ⟨g1,g2,g3,g4⟩:=h3
 refine ⟨⟨h1,h2⟩,by rw[mP];omega,?_,fun hn=>?_,List.all_eq_true.1 h4⟩
 ·rw[kW]
  by_cases hd:x.dst=-1
  ·left
   rw[qx hd] at g2
   exact ⟨by rw[g2];rfl,hd⟩
  ·right
   rw[qy hd] at g2
   refine ⟨by rw[g2];rfl,hd,?_⟩
   rcases g3 with g|g
   ·exact absurd g hd
   ·exact g
 ·rcases g4 with g|g
  ·exact g
  ·rw[hw,hn] at g;cases g
theorem tY (t:Int):aK prog E 174 [.int .i64 t] (.str (iW t)):=by
 refine zq func174 U (by decide) U<|ae<|za (qc (v:=.str _) U)<|z6<|zd<|ae<|aa U<|z6<|zj<|ae<|ai U U<|ab U<|z6<|zy U (fun c1=>?_) (fun c1=>?_)
 ·refine ae<|za (qc (v:=.str _) U)<|z6<|zi<|zm (x:=.str _) U ?_
  exact congrArg AV.str (by simp_all[iW])
 ·refine ae<|ai U U<|ab U<|z6<|zy U (fun c2=>?_) (fun c2=>?_)
  ·refine ae<|za (qc (v:=.str _) U)<|z6<|zi<|zm (x:=.str _) U ?_
   exact congrArg AV.str (by simp_all[iW])
  ·refine ae<|ai U U<|ab U<|z6<|zy U (fun c3=>?_) (fun c3=>?_)
   ·refine ae<|za (qc (v:=.str _) U)<|z6<|zi<|zm (x:=.str _) U ?_
    exact congrArg AV.str (by simp_all[iW])
   ·refine zg<|ae<|za (qc (v:=.str _) U)<|z6<|zi<|zm (x:=.str _) U ?_
    exact congrArg AV.str (by simp_all[iW])
end Go.Proofs.YtdilpodccjlkgaaGreatDoor
namespace Go.Proofs.YtdilpodccjlkgaaGreatDoor
open Go.Proofs.Tryz
open Go.Proofs Go.Lib Go.Shelf Go.RowKit
theorem xg:cU prog 242 9 1 1 [.str ⟨#[]⟩]:=⟨_,Yd,Y3,zeroValue9,by decide,by decide,by kernel_rfl⟩
set_option maxRecDepth 20000
variable {E:World}
def tZ (s:ByteArray) (l:List ByteArray):Bool:=l.any fun t=>decide (t=s)
theorem xh {s:ByteArray} {l:List ByteArray}:tZ s l=true↔s∈l:=by
 unfold tZ;rw[List.any_eq_true]
 constructor
 ·rintro ⟨x,hx,h⟩;have h:x=s:=by simpa using h
  exact h▸hx
 ·intro h;exact ⟨s,h,by simp⟩
theorem Bo {s t:ByteArray} {l:List ByteArray}:tZ s (l++[t])=(tZ s l||decide (t=s)):=by unfold tZ;rw[List.any_append];simp
def vL (l:List ByteArray):Prop:=∀i (h:i<l.length),eF l[i]=true∧tZ l[i] (l.take i)=false
instance (l:List ByteArray):Decidable (vL l):=by unfold vL;infer_instance
theorem xi {t:ByteArray} {l:List ByteArray} {mt:Int} (ht:mt=if tZ t l=true then 1 else 0) (hc:decide (0<mt)=false):tZ t l=false:=by
 have hc:=w5 hc
 cases h:tZ t l with
 |true=>rw[h] at ht;simp at ht;omega
 |false=>rfl
theorem Bp {s t:ByteArray} {l:List ByteArray} {m:Option Int} {mt:Int} (hs:m.getD 0=if tZ s l=true then 1 else 0) (ht:mt=if tZ t l=true then 1 else 0) (hc:decide (0<mt)=false) :
  (if s=t then some (mt+1) else m).getD 0=if (tZ s l||decide (t=s))=true then 1 else 0:=by
 have h:=xi ht hc
 rw[h] at ht
 have ht:mt=0:=by simpa using ht
 by_cases e:s=t
 ·subst e;simp[ht]
 ·rw[if_neg e,hs]
  have e2:¬t=s:=fun h=>e h.symm
  simp[e2]
theorem Bq {l:List ByteArray} {k:Nat} (hn:∀i (h:i<l.length),i<k→eF l[i]=true∧tZ l[i] (l.take i)=false) (hk:k<l.length) (h1:eF l[k]=true) (h2:tZ l[k] (l.take k)=false) :
  ∀i (h:i<l.length),i<k+1→eF l[i]=true∧tZ l[i] (l.take i)=false:=fun i h hi=>by
 by_cases e:i=k
 ·subst e;exact ⟨h1,h2⟩
 ·exact hn i h (by omega)
theorem nd (l:List ByteArray) (hl:l.length≤100000000) (hs:∀s∈l,s.size≤140737488355328) (hL:bB E):aK prog E 175 [.fro 1 (l.map qB)] (.bool (decide (vL l))):=by
 refine zq func175 U (by decide) U<|ae<|ab U<|z6<|ae<|az.makeMap<|fun b6=>za (qc (v:=dw _) U)<|z6<|zd<|ae<|aT U<|ar Yd U<|aa U<|z6<|zj<|y8 (γ:=Nat × List (ByteArray × Int)) [3,7,8] (fun g=>[(9,.int .i64 g.1)]) (fun g=>[(0,xY b6 g.2)]) (fun g=>g.1≤l.length∧(∀i (h:i<l.length),i<g.1→eF l[i]=true∧tZ l[i] (l.take i)=false)∧∀s,(jV s g.2).getD 0=if tZ s (l.take g.1)=true then 1 else 0) (fun g=>l.length - g.1) (0,[]) aH aD (⟨qn _,fun i h h2=>absurd h2 (Nat.not_lt_zero _),fun s=>U⟩) ?_
 rintro ⟨k,es⟩ ⟨hk,hn,hm⟩
 try dsimp only at *
 refine ae<|ax U U<|z6<|zd<|zu U (fun ck=>?_) (fun ck=>?_)
 ·have hk2:k<l.length:=by omega
  have hmk:=hm l[k]
  have hz:=hs _ (qo hk2)
  refine zg<|zd<|zj<|ae<|za (bh k Yd Y3 U U U (qk hk2))<|za (yn (c:=.str _) Y9 U)<|za (qc (v:=.str _) U)<|z6<|zd<|ae<|za (yt (v:=.str _) U)<|ze (vJ _ hz hL) U<|aB U<|aj U<|zo (s:=16) U (fun c1=>?_) (fun c1=>?_)
  ·refine z7 U U c1<|z7 U U c1<|z7 U U c1<|z7 U U c1<|aq U c1 U<|z6<|yl U U<|ae<|ab U<|z6<|zi<|zm (x:=.bool _) U ?_
   exact jb (qy fun h=>by have h:=h k hk2;simp_all).symm
  ·refine z8 U U c1<|za (yt (v:=dw _) U)<|z8 U U c1<|za (yt (v:=.str _) U)<|z8 U U c1<|za (Gv.lookup1S underlying274 Zr Zs U U ⟨_,.head⟩)<|z8 U U c1<|bb U U<|au U c1 U<|z6<|zy U (fun c2=>?_) (fun c2=>?_)
   ·refine ae<|ab U<|z6<|zi<|zm (x:=.bool _) U ?_
    exact jb (qy fun h=>by have h:=h k hk2;simp_all).symm
   ·refine zg<|aO<|za (yt (v:=dw _) U)<|za (yt (v:=.str _) U)<|za (Gv.lookup1S underlying274 Zr Zs U U ⟨_,.head⟩)<|za (Gv.add U U (by first|(unfold lj;omega)|(unfold lj;rw[hmk];split<;>omega)))<|az.mapSet underlying274 Zr U U U .head<|z6<|aO<|za (Gv.add U U (by first|(unfold lj;omega)|(unfold lj;rw[hmk];split<;>omega)))<|aa U<|z6 ?_
    exact ⟨(k+1,nw l[k] ((jV l[k] es).getD 0+1) es),de,aH,aD,⟨hk2,Bq hn hk2 (by simpa using c1) (xi hmk (by assumption)),fun s=>by dsimp only;rw[tn,ql hk2,Bo];exact Bp (hm s) hmk (by assumption)⟩,by dsimp only;omega⟩
 ·have hkn:k=l.length:=by omega
  refine y7<|ae<|ab U<|z6<|zi<|zm (x:=.bool _) U ?_
  exact jb (qx fun i h=>hn i h (by omega)).symm
theorem map_take {α:Type} {g:α→ByteArray} {l:List α} {k:Nat} (h:k<l.length):(l.map g).take (k+1)=(l.map g).take k++[g l[k]]:=by
 rw[ql (by simpa using h)];simp
def dO (f:ad):List ByteArray:=f.vars.map tF.name
def dX (f:ad):List ByteArray:=f.blocks.map aY.name
@[simp] theorem G3 (f:ad):(dO f).length=f.vars.length:=by unfold dO;simp
@[simp] theorem G4 (f:ad):(dX f).length=f.blocks.length:=by unfold dX;simp
theorem Dl {f:ad} {k:Nat} (h:k<f.vars.length):(dO f).take (k+1)=(dO f).take k++[f.vars[k].name]:=map_take h
theorem Dm {f:ad} {k:Nat} (h:k<f.blocks.length):(dX f).take (k+1)=(dX f).take k++[f.blocks[k].name]:=map_take h
def Dn (f:ad):Prop:=∀i (h:i<f.params.length),f.params[i]=(i:Int)
instance (f:ad):Decidable (Dn f):=by unfold Dn;infer_instance
def Do (f:ad):Prop:=∀i (h:i<f.vars.length),¬iW f.vars[i].ty=⟨#[]⟩
instance (f:ad):Decidable (Do f):=by unfold Do;infer_instance
def lk (f:ad):Prop:=f.vars.length≤512∧f.params.length≤8∧f.params.length≤f.vars.length∧1≤f.blocks.length∧f.blocks.length≤64
instance (f:ad):Decidable (lk f):=by unfold lk;infer_instance
def fP (f:ad):Prop:=Do f∧Dn f∧lk f∧vL (dO f)∧vL (dX f)
instance (f:ad):Decidable (fP f):=by unfold fP;infer_instance
theorem ua (f:ad) (h1:f.vars.length≤100000000) (h2:f.blocks.length≤100000000) (hp:f.params.length≤100000000) (hn:mf f) (hL:bB E):aK prog E 139 [.agg (bD f)] (.bool (decide (fP f))):=by
 have hnv:(dO f).length=f.vars.length:=by unfold dO;simp
 have hnb:(dX f).length=f.blocks.length:=by unfold dX;simp
 refine zq func139 U (by decide) U<|ae<|y9 (cs:=_) U U U<|ab U<|z6<|ae<|bF U<|bF U<|z6<|fo (t:=3) (k:=1) (T:=9) U<|fun i3=>fo (t:=4) (k:=1) (T:=9) U<|fun i4=>zd<|ae<|ao jg U Y4 U U<|aI Yb U<|ar Z7 U<|aa U<|z6<|zj<|y8 (γ:=Nat × Nat) [1,4,12,13] (fun g=>[(3,.own g.2 g.1),(14,.int .i64 g.1)]) (fun g=>[(i4,.grow 1 9 []),(g.2,.grow 1 9 ((((dO f).take g.1).map qB).flatten))]) (fun g=>g.1≤f.vars.length∧∀i (h:i<f.vars.length),i<g.1→¬iW f.vars[i].ty=⟨#[]⟩) (fun g=>f.vars.length - g.1) (0,i3) cV aD (⟨qn _,fun i h h2=>absurd h2 (Nat.not_lt_zero _)⟩) ?_
 rintro ⟨k,i⟩ ⟨hk,hT⟩
 try dsimp only at *
 refine ae<|ax U U<|z6<|zd<|zu U (fun ck=>?_) (fun ck=>?_)
 ·have hk2:k<f.vars.length:=by simp at ck;omega
  refine zg<|zd<|zj<|ae<|za (bh k Z7 Y1 U U U (qk hk2))<|ac isAgg61 Y1 U U<|y6 (cs:=[.str ⟨#[]⟩,.int .i64 0]) X7 U U<|fun i6=>y1 Y1 U U U U U U .head U<|z6<|ae<|bz U<|za (zn Zi U Y3 (by decide) U U)<|za (zt (c:=.str _) Y9 U ⟨_,.head⟩ U)<|y4 (rows:=[[_]]) xg U U U U U<|yj (k:=1) Yd type9 U U U U U (fun _=>.t2) (by rw[l5 (k:=1) (fun _=>rfl),List.length_take];omega) (by decide) U (by show (_+1)*16≤_;omega) (by show _+1≤_;omega)<|fun i22=>za (gZ U)<|z6<|ae<|za (zn Zi U Yq (by decide) U U)<|za (zt (c:=.int _ _) X4 U ⟨_,.head⟩ U)<|ze (tY _) U<|za (Gv.eqlT U U)<|z6<|zu U (fun ct=>?_) (fun ct=>?_)
  ·refine ae<|ab U<|z6<|zi<|zm (x:=.bool _) U ?_
   exact jb (qy fun h=>h.1 k hk2 (by simpa using ct)).symm
  ·refine zg<|aO<|aC U U<|aa U<|z6 ?_
   exact ⟨(k+1,i22),fl,cV,⟨_,(.drop (.refl _)),by dsimp only;rw[←kM (enc:=qB) (Dl hk2)];rfl⟩,⟨hk2,fun i h h2=>by by_cases e:i=k;(subst e;simpa using ct);exact hT i h (by dsimp only at h2;omega)⟩,by dsimp only;omega⟩
 ·have hkn:k=f.vars.length:=by simp at ck;omega
  subst hkn
  rw[List.take_of_length_le (by omega:(dO f).length≤f.vars.length)]
  have hTys:Do f:=fun i h=>hT i h h
  refine y7<|zd<|ae<|ao jg U Z6 U U<|aI Zd U<|ar jk U<|aa U<|z6<|zj<|y8 (γ:=Nat × Nat) [1,3,29,30] (fun g=>[(4,.own g.2 g.1),(31,.int .i64 g.1)]) (fun g=>[(g.2,.grow 1 9 ((((dX f).take g.1).map qB).flatten)),(i,.grow 1 9 (((dO f).map qB).flatten))]) (fun g=>g.1≤f.blocks.length) (fun g=>f.blocks.length - g.1) (0,i4) cV aD (qn _) ?_
  rintro ⟨k,j⟩ hk
  try dsimp only at *
  refine ae<|ax U U<|z6<|zd<|zu U (fun ck=>?_) (fun ck=>?_)
  ·have hk2:k<f.blocks.length:=by simp at ck;omega
   refine zg<|zd<|zj<|ae<|za (bh k jk Z0 U U U (qk hk2))<|ac Yk Z0 U U<|y6 (cs:=[.str ⟨#[]⟩,.raw (.slice none 0 0),.raw (.slice none 0 0),.int .i64 0,.int .i64 0,.int .i64 0,.int .i64 0]) Zn U U<|fun i8=>y1 Z0 U U U U U U .head U<|z6<|aO<|bz U<|za (zn jj U Y3 (by decide) U U)<|za (zt (c:=.str _) Y9 U ⟨_,.head⟩ U)<|y4 (rows:=[[_]]) xg U U U U U<|yj (k:=1) Yd type9 U U U U U (fun _=>.t1) (by rw[l5 (k:=1) (fun _=>rfl),List.length_take];omega) (by decide) U (by show (_+1)*16≤_;omega) (by show _+1≤_;omega)<|fun i39=>za (gZ U)<|z6<|aO<|aC U U<|aa U<|z6 ?_
   exact ⟨(k+1,i39),fl,cV,⟨_,(.drop (.refl _)),by dsimp only;rw[←kM (enc:=qB) (Dm hk2)];rfl⟩,hk2,by dsimp only;omega⟩
  ·have hkn:k=f.blocks.length:=by simp at ck;omega
   subst hkn
   rw[List.take_of_length_le (by omega:(dX f).length≤f.blocks.length)]
   refine y7<|zd<|ae<|ao jg U j8 U U<|aI j9 U<|ar wz U<|aa U<|z6<|zj<|y8 (γ:=Nat) [1,3,4,42,43] (fun k=>[(44,.int .i64 k)]) (fun k=>[(j,.grow 1 9 (((dX f).map qB).flatten)),(i,.grow 1 9 (((dO f).map qB).flatten))]) (fun k=>k≤f.params.length∧∀i (h:i<f.params.length),i<k→f.params[i]=(i:Int)) (fun k=>f.params.length - k) 0 aH aD (⟨qn _,fun i h h2=>absurd h2 (Nat.not_lt_zero _)⟩) ?_
   rintro k ⟨hk,hP⟩
   refine ae<|ax U U<|z6<|zd<|zu U (fun ck=>?_) (fun ck=>?_)
   ·have hk2:k<f.params.length:=by simp at ck;omega
    refine zg<|zd<|zj<|ae<|aa U<|za (bh k wz j6 U U U (qk hk2))<|ay j7 U<|ap U<|ap U<|z6<|ae<|aa U<|aa U<|aM U U<|z6<|zy U (fun cp=>?_) (fun cp=>?_)
    ·refine ae<|ab U<|z6<|zi<|zm (x:=.bool _) U ?_
     exact jb (qy fun h=>by have:=h.2.1 k hk2;simp[this] at cp).symm
    ·refine zg<|aO<|aC U U<|aa U<|z6 ?_
     exact ⟨k+1,iO,aH,aD,⟨hk2,fun i h h2=>by by_cases e:i=k;(subst e;simpa using cp);exact hP i h (by omega)⟩,by omega⟩
   ·have hkn:k=f.params.length:=by simp at ck;omega
    subst hkn
    have hPar:Dn f:=fun i h=>hP i h h
    refine y3 (aX.know (t:=3) (rows:=(dO f).map qB) U .t1 (by intro r hr;obtain ⟨x,_,rfl⟩:=List.mem_map.1 hr;rfl) (by decide) (by simp))<|y3 (aX.know (t:=4) (rows:=(dX f).map qB) U .head (by intro r hr;obtain ⟨x,_,rfl⟩:=List.mem_map.1 hr;rfl) (by decide) (by simp))<|y7<|ae<|aT U<|ar Yd U<|za (qb U U)<|aj U<|zo (s:=56) U (fun c3=>?_) (fun c3=>?_)
    ·refine z8 U U c3<|ao jg U j8 U U<|z8 U U c3<|aI j9 U<|z8 U U c3<|ar wz U<|z8 U U c3<|aT U<|z8 U U c3<|ar Yd U<|z8 U U c3<|za (Gv.minI U U)<|z8 U U c3<|za (qb U U)<|aq U c3 U<|aj U<|zo (s:=65) U (fun c4=>?_) (fun c4=>?_)
     ·refine z8 U U c4<|aT U<|z8 U U c4<|ar Yd U<|z8 U U c4<|za (yy U U)<|aq U c4 U<|aj U<|zo (s:=70) U (fun c5=>?_) (fun c5=>?_)
      ·refine z8 U U c5<|aT U<|z8 U U c5<|ar Yd U<|z8 U U c5<|za (qb U U)<|aq U c5 U<|aj U<|zo (s:=75) U (fun c6=>?_) (fun c6=>?_)
       ·refine z8 U U c6<|aT U<|z8 U U c6<|ze (nd (dO f) (by omega) (fun s hs=>by obtain ⟨v,hv,rfl⟩:=List.mem_map.1 hs;exact hn.1 v hv) hL) U<|aq U c6 U<|aj U<|zo (s:=79) U (fun c7=>?_) (fun c7=>?_)
        ·refine z8 U U c7<|aT U<|z8 U U c7<|ze (nd (dX f) (by omega) (fun s hs=>by obtain ⟨v,hv,rfl⟩:=List.mem_map.1 hs;exact hn.2 v hv) hL) U<|aq U c7 U<|ab U<|z6<|zi<|zm (x:=.bool _) U ?_
         exact jb (by unfold fP lk;simp_all<;>grind)
        ·refine z7 U U c7<|z7 U U c7<|au U c7 U<|ab U<|z6<|zi<|zm (x:=.bool _) U ?_
         exact jb (by unfold fP lk;simp_all<;>grind)
       ·refine z7 U U c6<|z7 U U c6<|au U c6 U<|aj U<|z7 U U U<|z7 U U U<|au U U U<|ab U<|z6<|zi<|zm (x:=.bool _) U ?_
        exact jb (by unfold fP lk;simp_all<;>grind)
      ·refine z7 U U c5<|z7 U U c5<|z7 U U c5<|au U c5 U<|aj U<|z7 U U U<|z7 U U U<|au U U U<|aj U<|z7 U U U<|z7 U U U<|au U U U<|ab U<|z6<|zi<|zm (x:=.bool _) U ?_
       exact jb (by unfold fP lk;simp_all<;>grind)
     ·refine z7 U U c4<|z7 U U c4<|z7 U U c4<|au U c4 U<|aj U<|z7 U U U<|z7 U U U<|z7 U U U<|au U U U<|aj U<|z7 U U U<|z7 U U U<|au U U U<|aj U<|z7 U U U<|z7 U U U<|au U U U<|ab U<|z6<|zi<|zm (x:=.bool _) U ?_
      exact jb (by unfold fP lk;simp_all<;>grind)
    ·refine z7 U U c3<|z7 U U c3<|z7 U U c3<|z7 U U c3<|z7 U U c3<|z7 U U c3<|z7 U U c3<|au U c3 U<|aj U<|z7 U U U<|z7 U U U<|z7 U U U<|au U U U<|aj U<|z7 U U U<|z7 U U U<|z7 U U U<|au U U U<|aj U<|z7 U U U<|z7 U U U<|au U U U<|aj U<|z7 U U U<|z7 U U U<|au U U U<|ab U<|z6<|zi<|zm (x:=.bool _) U ?_
     exact jb (by unfold fP lk;simp_all<;>grind)
def jS (f:ad) (p:e7):Bool:=!decide (p.args.length=0)&&decide (p.args.length=p.from_.length)&&aZ f p.dst&&p.args.all (aZ f)&&p.from_.all (eO f)
theorem yS (f:ad) (v:Int):aK prog E 179 ([.int .i64 v]++[.pf (bD f)]) (.bool (!eO f v)):=by
 refine zq func179 U (by decide) U<|ae<|ab U<|z6<|ae<|ac ju jf U U<|aa U<|ze (nP _ _) U<|aB U<|ab U<|z6<|zi<|zm (x:=.bool _) U ?_
 rfl
theorem Br (f:ad) (p:e7) (hp:wU p):aK prog E 142 [.agg (bD f),.agg (eN p)] (.bool (jS f p)):=by
 have hl1:=hp.1.lt
 have hl2:=hp.2.lt
 refine zq func142 U (by decide) U<|ae<|y9 (cs:=_) U U U<|y9 (cs:=_) U U U<|ab U<|z6<|zd<|ae<|ao Z3 U j8 U U<|aI j9 U<|ar wz U<|ai U U<|aj U<|zo (s:=9) U (fun c8=>?_) (fun c8=>?_)
 ·refine z7 U U c8<|z7 U U c8<|z7 U U c8<|z7 U U c8<|z7 U U c8<|z7 U U c8<|z7 U U c8<|aq U c8 U<|aj U<|z7 U U U<|z7 U U U<|z7 U U U<|z7 U U U<|z7 U U U<|aq U U U<|aj U<|z7 U U U<|z7 U U U<|z7 U U U<|z7 U U U<|z7 U U U<|aq U U U<|z6<|yl U U<|ae<|ab U<|z6<|zi<|zm (x:=.bool _) U ?_
  exact jb (by have:=List.any_eq_not_all_not (l:=p.from_) (p:=fun x=>!eO f x);simp_all[jS,Int.ofNat_inj]<;>grind)
 ·refine z8 U U c8<|ao Z3 U j8 U U<|z8 U U c8<|aI j9 U<|z8 U U c8<|ar wz U<|z8 U U c8<|ao Z3 U j8 U U<|z8 U U c8<|aI j9 U<|z8 U U c8<|ar wz U<|z8 U U c8<|aM U U<|au U c8 U<|aj U<|zo (s:=18) U (fun c9=>?_) (fun c9=>?_)
  ·refine z7 U U c9<|z7 U U c9<|z7 U U c9<|z7 U U c9<|z7 U U c9<|aq U c9 U<|aj U<|z7 U U U<|z7 U U U<|z7 U U U<|z7 U U U<|z7 U U U<|aq U U U<|z6<|yl U U<|ae<|ab U<|z6<|zi<|zm (x:=.bool _) U ?_
   exact jb (by have:=List.any_eq_not_all_not (l:=p.from_) (p:=fun x=>!eO f x);simp_all[jS,Int.ofNat_inj]<;>grind)
  ·refine z8 U U c9<|ac ju jf U U<|z8 U U c9<|ao Z3 U j6 U U<|z8 U U c9<|ay j7 U<|z8 U U c9<|ze (kj _ _) U<|z8 U U c9<|aB U<|au U c9 U<|aj U<|zo (s:=25) U (fun c10=>?_) (fun c10=>?_)
   ·refine z7 U U c10<|z7 U U c10<|z7 U U c10<|z7 U U c10<|z7 U U c10<|aq U c10 U<|z6<|yl U U<|ae<|ab U<|z6<|zi<|zm (x:=.bool _) U ?_
    exact jb (by have:=List.any_eq_not_all_not (l:=p.from_) (p:=fun x=>!eO f x);simp_all[jS,Int.ofNat_inj]<;>grind)
   ·refine z8 U U c10<|ac ju jf U U<|z8 U U c10<|ao Z3 U j8 U U<|z8 U U c10<|aI j9 U<|z8 U U c10<|ze (qZ f p.args (by omega)) U<|z8 U U c10<|aB U<|au U c10 U<|z6<|zy U (fun c11=>?_) (fun c11=>?_)
    ·refine ae<|ab U<|z6<|zi<|zm (x:=.bool _) U ?_
     exact jb (by have:=List.any_eq_not_all_not (l:=p.from_) (p:=fun x=>!eO f x);simp_all[jS,Int.ofNat_inj]<;>grind)
    ·refine zg<|ae<|ao Z3 U j8 U U<|aI j9 U<|za (Gv.func U U)<|ze (gE p.from_ (by omega) (yS f)) U<|aB U<|ab U<|z6<|zi<|zm (x:=.bool _) U ?_
     exact jb (by have:=List.any_eq_not_all_not (l:=p.from_) (p:=fun x=>!eO f x);simp_all[jS,Int.ofNat_inj]<;>grind)
end Go.Proofs.YtdilpodccjlkgaaGreatDoor
namespace Go.Proofs.YtdilpodccjlkgaaGreatDoor
open Go.Proofs.Tryz
open Go.Proofs Go.Lib Go.Shelf Go.RowKit
set_option maxRecDepth 20000
variable {E:World}
theorem nD {p:e7→Bool} {fn:FuncId} {c:List AV} (xs:List e7) (hl:xs.length≤281474976710656) (hp:∀x∈xs,aK prog E fn ([.agg (eN x)]++c) (.bool (p x))) :
  aK prog E 176 [.fro 3 (xs.map eN),.fn fn [] c] (.int .i64 (cK p xs 0)):=by
 refine zq func176 U (by decide) U<|ae<|ap U<|z6<|zd<|ae<|aT U<|ar Z5 U<|aa U<|z6<|zj<|y8 (γ:=Nat) [0,1,7] (fun k=>[(8,.int .i64 k)]) (fun k=>[]) (fun k=>k≤xs.length∧(xs.take k).all (fun x=>!p x)) (fun k=>xs.length - k) 0 aH aD (⟨qn _,U⟩) ?_
 rintro k ⟨hk,hall⟩
 refine ae<|ax U U<|z6<|zd<|zu U (fun ck=>?_) (fun ck=>?_)
 ·have hk2:k<xs.length:=by omega
  refine zg<|zd<|zj<|ae<|aa U<|ap U<|z6<|ae<|za (yt (v:=.fn _ _ _) U)<|aT U<|aa U<|za (qa Z5 Zf U U U (qk (by omega)))<|ac X0 Zf U U<|az.callVP U (hp _ (qo hk2)) U<|z6<|zy U (fun cp=>?_) (fun cp=>?_)
  ·refine ae<|aa U<|ap U<|z6<|zi<|zm (x:=.int _ _) U ?_
   rw[bK p xs k hk hall,List.drop_eq_getElem_cons hk2,cK,if_pos cp]
  ·refine zg<|aO<|aC U U<|aa U<|z6 ?_
   exact ⟨k+1,de,aH,aD,⟨hk2,by rw[ql hk2,List.all_append,hall];simp[cp]⟩,by omega⟩
 ·have hkn:k=xs.length:=by omega
  refine y7<|ae<|ap U<|z6<|zi<|zm (x:=.int _ _) U ?_
  rw[bK p xs k hk hall,hkn,List.drop_length,cK]
theorem lF {p:e7→Bool} {fn:FuncId} {c:List AV} (xs:List e7) (hl:xs.length≤281474976710656) (hp:∀x∈xs,aK prog E fn ([.agg (eN x)]++c) (.bool (p x))) :
  aK prog E 140 [.fro 3 (xs.map eN),.fn fn [] c] (.bool (xs.any p)):=by
 refine zq func140 U (by decide) U<|ae<|ab U<|z6<|ae<|aT U<|za (yt (v:=.fn _ _ _) U)<|ze (nD xs hl hp) U<|za (yy U U)<|ab U<|z6<|zi<|zm (x:=.bool _) U ?_
 rw[eK]
theorem nE {p:aF→Bool} {fn:FuncId} {c:List AV} (xs:List aF) (hl:xs.length≤281474976710656) (hp:∀x∈xs,aK prog E fn ([.agg (aP x)]++c) (.bool (p x))) :
  aK prog E 97 [.fro 4 (xs.map aP),.fn fn [] c] (.int .i64 (cK p xs 0)):=by
 refine zq func97 U (by decide) U<|ae<|ap U<|z6<|zd<|ae<|aT U<|ar jz U<|aa U<|z6<|zj<|y8 (γ:=Nat) [0,1,7] (fun k=>[(8,.int .i64 k)]) (fun k=>[]) (fun k=>k≤xs.length∧(xs.take k).all (fun x=>!p x)) (fun k=>xs.length - k) 0 aH aD (⟨qn _,U⟩) ?_
 rintro k ⟨hk,hall⟩
 refine ae<|ax U U<|z6<|zd<|zu U (fun ck=>?_) (fun ck=>?_)
 ·have hk2:k<xs.length:=by omega
  refine zg<|zd<|zj<|ae<|aa U<|ap U<|z6<|ae<|za (yt (v:=.fn _ _ _) U)<|aT U<|aa U<|za (qa jz jv U U U (qk (by omega)))<|ac Zk jv U U<|az.callVP U (hp _ (qo hk2)) U<|z6<|zy U (fun cp=>?_) (fun cp=>?_)
  ·refine ae<|aa U<|ap U<|z6<|zi<|zm (x:=.int _ _) U ?_
   rw[bK p xs k hk hall,List.drop_eq_getElem_cons hk2,cK,if_pos cp]
  ·refine zg<|aO<|aC U U<|aa U<|z6 ?_
   exact ⟨k+1,de,aH,aD,⟨hk2,by rw[ql hk2,List.all_append,hall];simp[cp]⟩,by omega⟩
 ·have hkn:k=xs.length:=by omega
  refine y7<|ae<|ap U<|z6<|zi<|zm (x:=.int _ _) U ?_
  rw[bK p xs k hk hall,hkn,List.drop_length,cK]
theorem gJ {p:aF→Bool} {fn:FuncId} {c:List AV} (xs:List aF) (hl:xs.length≤281474976710656) (hp:∀x∈xs,aK prog E fn ([.agg (aP x)]++c) (.bool (p x))) :
  aK prog E 56 [.fro 4 (xs.map aP),.fn fn [] c] (.bool (xs.any p)):=by
 refine zq func56 U (by decide) U<|ae<|ab U<|z6<|ae<|aT U<|za (yt (v:=.fn _ _ _) U)<|ze (nE xs hl hp) U<|za (yy U U)<|ab U<|z6<|zi<|zm (x:=.bool _) U ?_
 rw[eK]
theorem sr (f:ad) (p:e7) (hp:wU p):aK prog E 141 ([.agg (eN p)]++[.pf (bD f)]) (.bool (!jS f p)):=by
 refine zq func141 U (by decide) U<|ae<|y9 (cs:=_) U U U<|ab U<|z6<|ae<|ac ju jf U U<|ac X0 Zf U U<|ze (Br _ _ (by assumption)) U<|aB U<|ab U<|z6<|zi<|zm (x:=.bool _) U ?_
 rfl
theorem ss (f:ad) (x:aF) (hx:oA x.args):aK prog E 143 ([.agg (aP x)]++[.pf (bD f)]) (.bool (!dF f x)):=by
 refine zq func143 U (by decide) U<|ae<|y9 (cs:=_) U U U<|ab U<|z6<|ae<|ac ju jf U U<|ac Zk jv U U<|ze (yL _ _ (by assumption)) U<|aB U<|ab U<|z6<|zi<|zm (x:=.bool _) U ?_
 rfl
def gK (f:ad) (b:aY):Bool:=!(b.phis.any fun p=>!jS f p)&&!(b.insts.any fun x=>!dF f x)&&bM f b.term
theorem oS {f:ad} {b:aY} (h:(b.phis.any fun p=>!jS f p)=true):gK f b=false:=by unfold gK;rw[h];rfl
theorem oT {f:ad} {b:aY} (h:(b.insts.any fun x=>!dF f x)=true):gK f b=false:=by unfold gK;rw[h];simp
theorem oU {f:ad} {b:aY} (h:(!bM f b.term)=true):gK f b=false:=by unfold gK;rw[show bM f b.term=false by simpa using h];simp
theorem Bs {f:ad} {b:aY} (h1:(b.phis.any fun p=>!jS f p)=false) (h2:(b.insts.any fun x=>!dF f x)=false) (h3:(!bM f b.term)=false):gK f b=true:=by unfold gK;rw[h1,h2,show bM f b.term=true by simpa using h3];rfl
def eZ (f:ad):Bool:=decide (fP f)&&(f.blocks.all (gK f)&&decide (fh f.blocks≤1024))
theorem ub (f:ad) (hf:sd f) (h1:f.vars.length≤100000000) (h2:f.blocks.length≤100000000) (hp:f.params.length≤100000000) (hn:mf f) (hL:bB E):aK prog E 103 [.agg (bD f)] (.bool (eZ f)):=by
 refine zq func103 U (by decide) U<|ae<|y9 (cs:=_) U U U<|ab U<|z6<|zd<|ae<|ac ju jf U U<|ze (ua _ (by omega) (by omega) (by omega) (by assumption) hL) U<|aB U<|z6<|zy U (fun cn=>?_) (fun cn=>?_)
 ·refine ae<|ab U<|z6<|zi<|zm (x:=.bool _) U ?_
  exact jb (by unfold eZ;rw[show decide (fP f)=false by simpa using cn];rfl)
 ·have hN:fP f:=by simpa using cn
  have hbl:=hN.2.2.1.2.2.2.2
  refine zg<|ae<|ap U<|z6<|zd<|ae<|ao jg U Z6 U U<|aI Zd U<|ar jk U<|aa U<|z6<|zj<|y8 (γ:=Nat) [1,11,12] (fun k=>[(3,.int .i64 (fh (f.blocks.take k))),(13,.int .i64 k)]) (fun k=>[]) (fun k=>k≤f.blocks.length∧fh (f.blocks.take k)≤k*562949953421312∧(f.blocks.take k).all (gK f)=true) (fun k=>f.blocks.length - k) 0 cV aD (⟨qn _,qn _,U⟩) ?_
  rintro k ⟨hk,hsum,hall⟩
  refine ae<|ax U U<|z6<|zd<|zu U (fun ck=>?_) (fun ck=>?_)
  ·have hk2:k<f.blocks.length:=by simp at ck;omega
   obtain ⟨b,hbk⟩:∃b,f.blocks[k]=b:=⟨_,rfl⟩
   have hget:f.blocks[k]?=some b:=by rw[qk hk2,hbk]
   have hb:=hf.2.2.2 b (hbk▸qo hk2)
   have hb1:=hb.1.lt
   have hb2:=hb.2.1.lt
   have hsucc:=oN f.blocks k hk2
   rw[hbk] at hsucc
   refine zg<|zd<|zj<|ae<|za (bh k jk Z0 U U U hget)<|ac Yk Z0 U U<|y6 (cs:=[.str ⟨#[]⟩,.raw (.slice none 0 0),.raw (.slice none 0 0),.int .i64 0,.int .i64 0,.int .i64 0,.int .i64 0]) Zn U U<|fun i5=>y1 Z0 U U U U U U .head U<|z6<|ae<|aa U<|za (zn jj U Yg (by decide) U U)<|za (zt (c:=.fro _ _) Ys U ⟨_,.head⟩ U)<|ar Z5 U<|za (zn jj U Zo (by decide) U U)<|za (zt (c:=.fro _ _) Zx U ⟨_,.head⟩ U)<|ar jz U<|aC U U<|aC U U<|ap U<|z6<|ae<|za (zn jj U Yg (by decide) U U)<|za (zt (c:=.fro _ _) Ys U ⟨_,.head⟩ U)<|za (Gv.func U U)<|ze (lF b.phis (by omega) (fun p hp=>sr f p (hb.2.2.1 p hp))) U<|aj U<|zo (s:=30) U (fun c1=>?_) (fun c1=>?_)
   ·refine z7 U U c1<|z7 U U c1<|z7 U U c1<|z7 U U c1<|aq U c1 U<|ab U<|z6<|ae<|aj U<|aj U<|z7 U U U<|z7 U U U<|z7 U U U<|z7 U U U<|z7 U U U<|aq U U U<|z6<|yl U U<|ae<|ab U<|z6<|zi<|zm (x:=.bool _) U ?_
    exact jb (by unfold eZ;rw[show f.blocks.all (gK f)=false from Bool.eq_false_iff.2 (dh hk2 (by rw[hbk];first|exact oS (by assumption)|exact oT (by assumption)|exact oU (by assumption)))];simp)
   ·refine z8 U U c1<|za (zn jj U Zo (by decide) U U)<|z8 U U c1<|za (zt (c:=.fro _ _) Zx U ⟨_,.head⟩ U)<|z8 U U c1<|za (Gv.func U U)<|z8 U U c1<|ze (gJ b.insts (by omega) (fun x hx=>ss f x (hb.2.2.2 x hx))) U<|au U c1 U<|ab U<|z6<|ae<|aj U<|aj U<|zo (s:=37) U (fun c2=>?_) (fun c2=>?_)
    ·refine z7 U U c2<|z7 U U c2<|z7 U U c2<|z7 U U c2<|z7 U U c2<|aq U c2 U<|z6<|yl U U<|ae<|ab U<|z6<|zi<|zm (x:=.bool _) U ?_
     exact jb (by unfold eZ;rw[show f.blocks.all (gK f)=false from Bool.eq_false_iff.2 (dh hk2 (by rw[hbk];first|exact oS (by assumption)|exact oT (by assumption)|exact oU (by assumption)))];simp)
    ·refine z8 U U c2<|ac ju jf U U<|z8 U U c2<|za (zn jj U Zm (by decide) U U)<|z8 U U c2<|za (Gv.loadAC (l:=[_,_,_,_]) isAgg49 Zm U ⟨_,.head⟩ U U)<|z8 U U c2<|ze (yM _ _) U<|z8 U U c2<|aB U<|au U c2 U<|z6<|zy U (fun c3=>?_) (fun c3=>?_)
     ·refine ae<|ab U<|z6<|zi<|zm (x:=.bool _) U ?_
      exact jb (by unfold eZ;rw[show f.blocks.all (gK f)=false from Bool.eq_false_iff.2 (dh hk2 (by rw[hbk];first|exact oS (by assumption)|exact oT (by assumption)|exact oU (by assumption)))];simp)
     ·refine zg<|aO<|aC U U<|aa U<|z6 ?_
      exact ⟨k+1,de,⟨congrArg (AV.int .i64) (by rw[hsucc];omega),rfl,trivial⟩,⟨_,(.drop (.refl _)),rfl⟩,⟨hk2,by rw[hsucc];omega,bN hk2 hall (by rw[hbk];exact Bs (by assumption) (by assumption) (by assumption))⟩,by omega⟩
  ·have hkn:k=f.blocks.length:=by simp at ck;omega
   subst hkn
   rw[qp] at hall ⊢
   refine y7<|ae<|aa U<|za (qb U U)<|ab U<|z6<|zi<|zm (x:=.bool _) U ?_
   exact jb (by unfold eZ;rw[qx hN,hall];simp;omega)
theorem rx (f:ad) (p:e7):jS f p=true↔vE f p:=by
 unfold jS vE
 simp only[qz,Bool.not_eq_true',decide_eq_false_iff_not,w6]
 constructor
 ·rintro ⟨⟨⟨⟨h1,h2⟩,h3⟩,h4⟩,h5⟩;exact ⟨h3,h2,by omega,h4,h5⟩
 ·rintro ⟨h3,h2,h1,h4,h5⟩;exact ⟨⟨⟨⟨by omega,h2⟩,h3⟩,h4⟩,h5⟩
theorem ry (t:Int):¬iW t=⟨#[]⟩↔0≤t∧t≤2:=by
 unfold iW
 constructor
 ·intro h
  by_cases h0:t=0
  ·omega
  ·by_cases h1:t=1
   ·omega
   ·by_cases h2:t=2
    ·omega
    ·rw[if_neg h0,if_neg h1,if_neg h2] at h;exact absurd rfl h
 ·intro h e
  have:t=0∨t=1∨t=2:=by omega
  rcases this with rfl|rfl|rfl<;>exact absurd e (by decide)
theorem yT (f:ad) (b:aY):gK f b=true↔yN f b:=by
 unfold gK yN
 simp only[qz,Bool.not_eq_true',List.any_eq_false,Bool.not_eq_false]
 constructor
 ·rintro ⟨⟨h1,h2⟩,h3⟩
  exact ⟨fun p hp=>(rx f p).1 (by simpa using h1 p hp),fun x hx=>(oP f x).1 (by simpa using h2 x hx),h3⟩
 ·rintro ⟨h1,h2,h3⟩
  exact ⟨⟨fun p hp=>by simpa using (rx f p).2 (h1 p hp),fun x hx=>by simpa using (oP f x).2 (h2 x hx)⟩,h3⟩
theorem Bt {l:List ByteArray}:vL l↔∀i (h:i<l.length),eF l[i]=true∧l[i] ∉ l.take i:=by
 unfold vL
 constructor<;>intro h i hi
 ·exact ⟨(h i hi).1,fun hm=>by have:=xh.2 hm;rw[(h i hi).2] at this;cases this⟩
 ·exact ⟨(h i hi).1,Bool.eq_false_iff.2 fun hm=>(h i hi).2 (xh.1 hm)⟩
theorem xj {f:ad} {i:Nat} (h:i<(dO f).length) (h':i<f.vars.length):(dO f)[i]=f.vars[i].name:=by
 have:(dO f)[i]?=some f.vars[i].name:=by unfold dO;rw[qs,qk h'];rfl
 rw[qk h] at this
 simpa using this
theorem xk {f:ad} {i:Nat} (h:i<(dX f).length) (h':i<f.blocks.length):(dX f)[i]=f.blocks[i].name:=by
 have:(dX f)[i]?=some f.blocks[i].name:=by unfold dX;rw[qs,qk h'];rfl
 rw[qk h] at this
 simpa using this
theorem gL (f:ad):eZ f=decide (b8 f):=by
 rw[qt,decide_eq_true_iff]
 unfold eZ
 simp only[qz,decide_eq_true_iff,w3,yT]
 unfold fP lk b8 nC
 simp only[Bt]
 constructor
 ·rintro ⟨⟨h1,h2,⟨g1,g2,g3,g4,g5⟩,h4,h5⟩,h6,h7⟩
  refine ⟨?_,h2,fun i h=>?_,fun i h=>?_,h7,h6⟩
  ·simp;omega
  ·have ht:=(ry _).1 (h1 i h)
   have hu:=h4 i (by unfold dO;simpa using h)
   have e:=xj (f:=f) (i:=i) (by unfold dO;simpa using h) h
   rw[e] at hu
   exact ⟨by rw[nR];exact hu.1,ht.1,ht.2,fun s hs e2=>hu.2 (by unfold dO;rw[←List.map_take,←e2];exact hs)⟩
  ·have hu:=h5 i (by unfold dX;simpa using h)
   have e:=xk (f:=f) (i:=i) (by unfold dX;simpa using h) h
   rw[e] at hu
   exact ⟨by rw[nR];exact hu.1,fun s hs e2=>hu.2 (by unfold dX;rw[←List.map_take,←e2];exact hs)⟩
 ·rintro ⟨h1,h2,h3,h4,h7,h6⟩
  simp at h1
  refine ⟨⟨fun i h=>(ry _).2 ⟨(h3 i h).2.1,(h3 i h).2.2.1⟩,h2,by omega,fun i h=>?_,fun i h=>?_⟩,h6,h7⟩
  ·have h':i<f.vars.length:=by simpa using h
   have e:=xj h h'
   rw[e]
   exact ⟨by rw[←nR];exact (h3 i h').1,fun hm=>(h3 i h').2.2.2 _ (by unfold dO at hm;rw[←List.map_take] at hm;exact hm) rfl⟩
  ·have h':i<f.blocks.length:=by simpa using h
   have e:=xk h h'
   rw[e]
   exact ⟨by rw[←nR];exact (h4 i h').1,fun hm=>(h4 i h').2 _ (by unfold dX at hm;rw[←List.map_take] at hm;exact hm) rfl⟩
end Go.Proofs.YtdilpodccjlkgaaGreatDoor
namespace Go.Proofs.YtdilpodccjlkgaaGreatDoor
open Go.Proofs.Tryz
open Go.Proofs Go.Lib Go.Shelf Go.RowKit
variable {E:World}
set_option maxRecDepth 20000
theorem b8.ends {f:ad} (h:b8 f):bV f:=by
 obtain ⟨h1,_,_,_,_,h6⟩:=h
 unfold nC at h1
 simp only[Bool.or_eq_false_iff,decide_eq_false_iff_not] at h1
 refine ⟨by omega,fun b hb c hc=>?_⟩
 have ht:=(h6 b hb).2.2
 unfold bM at ht
 unfold df at hc
 split at hc
 ·rename_i hk
  rw[if_pos hk] at ht
  simp only[qz,eO,w6] at ht
  simp at hc;subst hc;exact ht.1.1
 ·rename_i hk
  rw[if_neg hk] at ht
  split at hc
  ·rename_i hk1
   rw[if_pos hk1] at ht
   simp only[qz,eO,w6] at ht
   split at hc
   ·simp at hc;subst hc;exact ht.1.2
   ·simp at hc;rcases hc with rfl|rfl
    ·exact ht.1.2
    ·exact ht.2
  ·cases hc
def ii (f:ad) (b:aY):Bool:=b.phis.all (se f)&&b.insts.all (ft f)&&d4 f b.term
def bj (f:ad):Bool:=eZ f&&f.blocks.all (ii f)
theorem small.shaped {f:ad} (hf:small f) (hL:bB E):aK prog E 103 [.agg (bD f)] (.bool (eZ f)):=
 ub f hf.ok (by have:=hf.1;omega) (by have:=hf.2.2.1;omega) (by have:=hf.2.1;omega) hf.names hL
theorem iD {f:ad} {t:fH} (h:bM f t=true) (hk:¬t.kind=0):aZ f t.var=true:=by
 unfold bM at h
 rw[if_neg hk] at h
 split at h
 ·simp only[qz] at h;exact h.1.1
 ·split at h
  ·simp only[qz] at h;exact h.1
  ·cases h
theorem oV (f:ad) (hf:small f) (hL:bB E):aK prog E 62 [.agg (bD f)] (.int .i64 (if bj f then 0 else 3)):=by
 have hok:=hf.ok
 refine zq func62 U (by decide) U<|ae<|y9 (cs:=_) U U U<|ap U<|z6<|zd<|ae<|ac ju jf U U<|ze (hf.shaped hL) U<|aB U<|z6<|zy U (fun cs=>?_) (fun cs=>?_)
 ·refine ae<|ap U<|z6<|zi<|zm (x:=.int _ _) U ?_
  unfold bj;rw[show eZ f=false by simpa using cs];rfl
 ·have hsb:eZ f=true:=by simpa using cs
  have hS:b8 f:=by rw[gL] at hsb;exact w4 hsb
  have hB:=hS.2.2.2.2.2
  have hfl:=hok.2.2.1.lt
  refine zg<|zd<|ae<|ao jg U Z6 U U<|aI Zd U<|ar jk U<|aa U<|z6<|zj<|y8 (γ:=Nat) [1,13,14] (fun k=>[(15,.int .i64 k)]) (fun k=>[]) (fun k=>k≤f.blocks.length∧(f.blocks.take k).all (ii f)=true) (fun k=>f.blocks.length - k) 0 aH aD (⟨qn _,U⟩) ?_
  rintro k ⟨hk,hall⟩
  refine ae<|ax U U<|z6<|zd<|zu U (fun ck=>?_) (fun ck=>?_)
  ·have hk2:k<f.blocks.length:=by simp at ck;omega
   obtain ⟨b,hbk⟩:∃b,f.blocks[k]=b:=⟨_,rfl⟩
   have hget:f.blocks[k]?=some b:=by rw[qk hk2,hbk]
   have hmem:b∈f.blocks:=hbk▸qo hk2
   obtain ⟨hph,hin,htm⟩:=hB b hmem
   have hbad:ii f b=false→bj f=false:=fun h=>by unfold bj;rw[Bool.eq_false_iff.2 (dh hk2 (by rw[hbk];exact h))];simp
   have hs5:=hok.2.2.2 b hmem
   have hpl:=hs5.1.lt
   have hil:=hs5.2.1.lt
   refine zg<|zd<|zj<|ae<|za (bh k jk Z0 U U U hget)<|ac Yk Z0 U U<|y6 (cs:=[.str ⟨#[]⟩,.raw (.slice none 0 0),.raw (.slice none 0 0),.int .i64 0,.int .i64 0,.int .i64 0,.int .i64 0]) Zn U U<|fun i4=>y1 Z0 U U U U U U .head U<|zf (yf (t:=4) U .head)<|z6<|zd<|ae<|ao jj U Yg U U<|aI Ys U<|ar Z5 U<|aa U<|z6<|zj<|y8 (γ:=Nat) [1,4,13,14,15,20,21] (fun p=>[(22,.int .i64 p)]) (fun p=>[]) (fun p=>p≤b.phis.length∧(b.phis.take p).all (se f)=true) (fun p=>b.phis.length - p) 0 aH aD (⟨qn _,U⟩) ?_
   rintro p ⟨hp,hpall⟩
   refine ae<|ax U U<|z6<|zd<|zu U (fun cp=>?_) (fun cp=>?_)
   ·have hp2:p<b.phis.length:=by simp at cp;omega
    have hpm:=qo hp2
    have hP:=hph _ hpm
    refine zg<|zd<|zj<|ae<|za (bh p Z5 Zf U U U (qk hp2))<|ac X0 Zf U U<|y6 (cs:=[.int .i64 0,.raw (.slice none 0 0),.raw (.slice none 0 0)]) Yc U U<|fun i6=>y1 Zf U U U U U U .head U<|zf (yf (t:=6) U .head)<|z6<|ae<|ac ju jf U U<|ac X0 Zf U U<|ze (yE f b.phis[p] (hs5.2.2.1 _ hpm) hP.2.2.2.1 hP.1) U<|aB U<|z6<|zy U (fun cq=>?_) (fun cq=>?_)
    ·refine ae<|ap U<|z6<|zi<|zm (x:=.int _ _) U ?_
     rw[hbad (by unfold ii;rw[Bool.eq_false_iff.2 (dh hp2 (by simpa using cq))];rfl)];rfl
    ·refine zg<|aO<|aC U U<|aa U<|z6 ?_
     exact ⟨p+1,lf,aH,aD,⟨hp2,bN hp2 hpall (by simpa using cq)⟩,by omega⟩
   ·have hpn:p=b.phis.length:=by simp at cp;omega
    subst hpn
    rw[qp] at hpall
    refine y7<|zd<|ae<|ao jj U Zo U U<|aI Zx U<|ar jz U<|aa U<|z6<|zj<|y8 (γ:=Nat) [1,4,13,14,15,32,33] (fun q=>[(34,.int .i64 q)]) (fun q=>[]) (fun q=>q≤b.insts.length∧(b.insts.take q).all (ft f)=true) (fun q=>b.insts.length - q) 0 aH aD (⟨qn _,U⟩) ?_
    rintro q ⟨hq,hqall⟩
    refine ae<|ax U U<|z6<|zd<|zu U (fun cp2=>?_) (fun cp2=>?_)
    ·have hq2:q<b.insts.length:=by simp at cp2;omega
     have hqm:=qo hq2
     have hI:=gp (hin _ hqm)
     have hId:dV b.insts[q].op=true→aZ f b.insts[q].dst=true:=fun h=>by
      rcases hI.dst with ⟨d1,_⟩|⟨_,_,d3⟩
      ·rw[h] at d1;cases d1
      ·exact d3
     refine zg<|zd<|zj<|ae<|za (bh q jz jv U U U (qk hq2))<|ac Zk jv U U<|y6 (cs:=[.int .i64 0,.int .i64 0,.raw (.slice none 0 0),.int .i64 0]) Z4 U U<|fun i8=>y1 jv U U U U U U .head U<|zf (yf (t:=8) U .head)<|z6<|ae<|ac ju jf U U<|ac Zk jv U U<|ze (vw f b.insts[q] (List.all_eq_true.2 hI.args) hI.len hId) U<|aB U<|z6<|zy U (fun cq=>?_) (fun cq=>?_)
     ·refine ae<|ap U<|z6<|zi<|zm (x:=.int _ _) U ?_
      rw[hbad (by unfold ii;rw[hpall,Bool.eq_false_iff.2 (dh hq2 (by simpa using cq))];rfl)];rfl
     ·refine zg<|aO<|aC U U<|aa U<|z6 ?_
      exact ⟨q+1,lf,aH,aD,⟨hq2,bN hq2 hqall (by simpa using cq)⟩,by omega⟩
    ·have hqn:q=b.insts.length:=by simp at cp2;omega
     subst hqn
     rw[qp] at hqall
     refine y7<|ae<|ac ju jf U U<|ao jj U Zm U U<|ac isAgg49 Zm U U<|ze (vy f b.term (iD htm)) U<|aB U<|z6<|zy U (fun ct=>?_) (fun ct=>?_)
     ·refine ae<|ap U<|z6<|zi<|zm (x:=.int _ _) U ?_
      rw[hbad (by unfold ii;rw[hpall,hqall];simpa using ct)];rfl
     ·refine zg<|aO<|aC U U<|aa U<|z6 ?_
      exact ⟨k+1,de,aH,aD,⟨hk2,bN hk2 hall (by rw[hbk];unfold ii;rw[hpall,hqall];simpa using ct)⟩,by omega⟩
  ·have hkn:k=f.blocks.length:=by simp at ck;omega
   subst hkn
   rw[qp] at hall
   refine y7<|ae<|ap U<|z6<|zi<|zm (x:=.int _ _) U ?_
   unfold bj;rw[hsb,hall];rfl
end Go.Proofs.YtdilpodccjlkgaaGreatDoor
