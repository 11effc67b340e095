/- Typed; which blocks are reached; joined. Of programs that are little. -/
import Derived.Test.YtbanfokidalbaaaGreatDoorJg
import Derived.Test.YtbanfokidalbaaaGreatDoorJd
import Derived.Test.YtbanfokidalbaaaGreatDoorJh
import Derived.Lib.MapLaws
import Derived.Test.YtbanfokidalbaaaGreatDoorJf
set_option linter.unusedVariables false
set_option linter.unusedSimpArgs false
set_option linter.unusedSectionVars false
namespace Go.Proofs.YtbanfokidalbaaaGreatDoor
section
open Go.Proofs.Tryz
open Go.Proofs Go.Lib Go.Shelf Go.RowKit
set_option maxRecDepth 20000
variable {E:World}
def eA (c:Int):Bool:=isLetterU c&&!decide (c=65533)
def rn (c:Int):Bool:=decide (48≤c)&&decide (c≤57)
def eO (c:Int):Bool:=eA c||(rn c||(decide (c=46)||decide (c=95)))
theorem nt (c:Int) (h1:-2147483648≤c) (h2:c≤2147483647) (hL:aE E):aJ prog E 230 [.int .i32 c] (.bool (eA c)):=by
 refine zo func230 Z (by decide) Z<|ah<|ac Z<|z6<|ah<|aa Z<|ze (lq c h1 h2 hL) Z<|ai Z<|zm (s:=5) Z (fun c1=>?_) (fun c1=>?_)
 ·refine z8 Z Z c1<|aa Z<|z8 Z Z c1<|aH Z Z<|ap Z c1 Z<|ac Z<|z6<|zg<|zk (x:=.bool _) Z ?_
  exact jb (by simp_all[eA])
 ·refine z7 Z Z c1<|z7 Z Z c1<|aq Z c1 Z<|ac Z<|z6<|zg<|zk (x:=.bool _) Z ?_
  exact jb (by simp_all[eA])
theorem wr (c:Int):aJ prog E 243 [.int .i32 c] (.bool (rn c)):=by
 refine zo func243 Z (by decide) Z<|ah<|ac Z<|z6<|ah<|aa Z<|za (qa Z Z)<|ai Z<|zm (s:=5) Z (fun c2=>?_) (fun c2=>?_)
 ·refine z8 Z Z c2<|aa Z<|z8 Z Z c2<|za (Gv.leq Z Z)<|ap Z c2 Z<|ac Z<|z6<|zg<|zk (x:=.bool _) Z ?_
  exact jb (by simp_all[rn]<;>(intros;omega))
 ·refine z7 Z Z c2<|z7 Z Z c2<|aq Z c2 Z<|ac Z<|z6<|zg<|zk (x:=.bool _) Z ?_
  exact jb (by simp_all[rn]<;>(intros;omega))
theorem oF (c:Int) (h1:-2147483648≤c) (h2:c≤2147483647) (hL:aE E):aJ prog E 231 [.int .i32 c] (.bool (eO c)):=by
 refine zo func231 Z (by decide) Z<|ah<|ac Z<|z6<|ah<|aa Z<|ze (nt c h1 h2 hL) Z<|ai Z<|zm (s:=5) Z (fun c3=>?_) (fun c3=>?_)
 ·refine z7 Z Z c3<|z7 Z Z c3<|ap Z c3 Z<|ai Z<|z7 Z Z Z<|z7 Z Z Z<|ap Z Z Z<|ai Z<|z7 Z Z Z<|z7 Z Z Z<|ap Z Z Z<|ac Z<|z6<|zg<|zk (x:=.bool _) Z ?_
  exact jb (by simp_all[eO])
 ·refine z8 Z Z c3<|aa Z<|z8 Z Z c3<|ze (wr _) Z<|aq Z c3 Z<|ai Z<|zm (s:=9) Z (fun c4=>?_) (fun c4=>?_)
  ·refine z7 Z Z c4<|z7 Z Z c4<|ap Z c4 Z<|ai Z<|z7 Z Z Z<|z7 Z Z Z<|ap Z Z Z<|ac Z<|z6<|zg<|zk (x:=.bool _) Z ?_
   exact jb (by simp_all[eO])
  ·refine z8 Z Z c4<|aa Z<|z8 Z Z c4<|aj Z Z<|aq Z c4 Z<|ai Z<|zm (s:=13) Z (fun c5=>?_) (fun c5=>?_)
   ·refine z7 Z Z c5<|z7 Z Z c5<|ap Z c5 Z<|ac Z<|z6<|zg<|zk (x:=.bool _) Z ?_
    exact jb (by simp_all[eO])
   ·refine z8 Z Z c5<|aa Z<|z8 Z Z c5<|aj Z Z<|aq Z c5 Z<|ac Z<|z6<|zg<|zk (x:=.bool _) Z ?_
    exact jb (by simp_all[eO])
def bN (s:ByteArray) (p:Nat):List Int:=if h:p<s.size then ((Utf8.decode s p).1:Int)::bN s (p+(Utf8.decode s p).2) else[]
termination_by s.size - p
decreasing_by have:=(ei s p).1;omega
theorem eV {s:ByteArray} {p:Nat} (h:p<s.size):bN s p=((Utf8.decode s p).1:Int)::bN s (p+(Utf8.decode s p).2):=by rw[bN,dif_pos h]
theorem dp {s:ByteArray} {p:Nat} (h:¬p<s.size):bN s p=[]:=by rw[bN,dif_neg h]
theorem sP (s:ByteArray):∀k p,s.size - p≤k→(bN s p).length≤k:=by
 intro k
 induction k with
 |zero=>intro p h;rw[dp (by omega)];simp
 |succ k ih=>
  intro p h
  by_cases hp:p<s.size
  ·rw[eV hp]
   have:=(ei s p).1
   have:=ih (p+(Utf8.decode s p).2) (by omega)
   simp;omega
  ·rw[dp hp];simp
theorem Af (s:ByteArray) (hs:s.size≤140737488355328):aJ prog E 232 [.str s] (.int .i64 (bN s 0).length):=by
 have h0:=sP s s.size 0 (by omega)
 refine zo func232 Z (by decide) Z<|ah<|ay Z<|z6<|ah<|ay Z<|z6<|zc<|ah<|za (yl (v:=.str _) Z)<|az.rangeT Zw Z<|fun i5=>z6<|zh<|ya (γ:=Nat × Nat) [5] (fun g=>[(3,.int .i64 g.2)]) (fun g=>[(i5,.iter s g.1)]) (fun g=>g.2+(bN s g.1).length=(bN s 0).length) (fun g=>s.size - g.1) (0,0) aG aC (by simp) ?_
 rintro ⟨p,n⟩ hp
 try dsimp only at *
 by_cases hlt:p<s.size
 ·have hd:=(ei s p).1
  rw[eV hlt] at hp
  simp only[List.length_cons] at hp
  refine ah<|az.nextT Z .head hlt<|za (sH Z Z)<|z6<|zc<|yt Z Z<|zd<|zh<|aM<|aa Z<|aA Z Z<|ay Z<|z6 ?_
  exact ⟨(p+(Utf8.decode s p).2,n+1),aG,aG,aC,by dsimp only;omega,by dsimp only;omega⟩
 ·rw[dp hlt] at hp
  simp only[List.length_nil] at hp
  refine ah<|az.nextTover Z .head hlt<|za (sH Z Z)<|z6<|zc<|yj Z Z<|y9<|ah<|aa Z<|ay Z<|z6<|zg<|zk (x:=.int _ _) Z ?_
  exact congrArg (AV.int .i64) (by omega)
def rp (s:ByteArray) (p:Nat):Bool:=if h:p<s.size then (if (decide (p=0)&&!eA ((Utf8.decode s p).1:Int))||!eO ((Utf8.decode s p).1:Int) then false else rp s (p+(Utf8.decode s p).2)) else (decide (¬s=⟨#[]⟩)&&decide (((bN s 0).length:Int)≤16))
termination_by s.size - p
decreasing_by have:=(ei s p).1;omega
def eQ (s:ByteArray):Bool:=rp s 0
theorem Ag (s:ByteArray) (hs:s.size≤140737488355328) (hL:aE E):aJ prog E 219 [.str s] (.bool (eQ s)):=by
 refine zo func219 Z (by decide) Z<|ah<|ac Z<|z6<|zc<|ah<|za (yl (v:=.str _) Z)<|az.rangeT Zw Z<|fun i6=>z6<|zh<|ya (γ:=Nat) [0,6] (fun p=>[]) (fun p=>[(i6,.iter s p)]) (fun p=>rp s p=eQ s) (fun p=>s.size - p) 0 trivial aC (Z) ?_
 rintro p hp
 by_cases hlt:p<s.size
 ·obtain ⟨hd1,hd2⟩:=ei s p
  have hstep:=hp
  rw[rp,dif_pos hlt] at hstep
  refine ah<|az.nextT Z .head hlt<|za (sH Z Z)<|z6<|zc<|yt Z Z<|zd<|zh<|ah<|za (mq Z Z)<|za (mq Z Z)<|ay Z<|ay Z<|z6<|ah<|aa Z<|aj Z Z<|ai Z<|zm (s:=13) Z (fun c6=>?_) (fun c6=>?_)
  ·refine z8 Z Z c6<|aa Z<|z8 Z Z c6<|ze (nt _ (by omega) (by omega) hL) Z<|z8 Z Z c6<|aF Z<|ap Z c6 Z<|ai Z<|zm (s:=18) Z (fun c7=>?_) (fun c7=>?_)
   ·refine z7 Z Z c7<|z7 Z Z c7<|z7 Z Z c7<|ap Z c7 Z<|z6<|yt Z Z<|ah<|ac Z<|z6<|zg<|zk (x:=.bool _) Z ?_
    rw[if_pos (by simp_all<;>omega)] at hstep;exact jb hstep
   ·refine z8 Z Z c7<|aa Z<|z8 Z Z c7<|ze (oF _ (by omega) (by omega) hL) Z<|z8 Z Z c7<|aF Z<|aq Z c7 Z<|z6<|zt Z (fun c8=>?_) (fun c8=>?_)
    ·refine ah<|ac Z<|z6<|zg<|zk (x:=.bool _) Z ?_
     rw[if_pos (by simp_all<;>omega)] at hstep;exact jb hstep
    ·refine zd ?_
     exact ⟨p+(Utf8.decode s p).2,di,trivial,aC,by rw[if_neg (by simp_all<;>omega)] at hstep;exact hstep,by omega⟩
  ·refine z7 Z Z c6<|z7 Z Z c6<|z7 Z Z c6<|aq Z c6 Z<|ai Z<|z8 Z Z Z<|aa Z<|z8 Z Z Z<|ze (oF _ (by omega) (by omega) hL) Z<|z8 Z Z Z<|aF Z<|aq Z Z Z<|z6<|zt Z (fun c9=>?_) (fun c9=>?_)
   ·refine ah<|ac Z<|z6<|zg<|zk (x:=.bool _) Z ?_
    rw[if_pos (by simp_all<;>omega)] at hstep;exact jb hstep
   ·refine zd ?_
    exact ⟨p+(Utf8.decode s p).2,di,trivial,aC,by rw[if_neg (by simp_all<;>omega)] at hstep;exact hstep,by omega⟩
 ·rw[rp,dif_neg hlt] at hp
  refine ah<|az.nextTover Z .head hlt<|za (sH Z Z)<|z6<|zc<|yj Z Z<|y9<|ah<|za (yl (v:=.str _) Z)<|za (Gv.neqT Z Z)<|ai Z<|zm (s:=25) Z (fun c10=>?_) (fun c10=>?_)
  ·refine z8 Z Z c10<|za (yl (v:=.str _) Z)<|z8 Z Z c10<|ze (Af _ (by assumption)) Z<|z8 Z Z c10<|za (Gv.leq Z Z)<|ap Z c10 Z<|ac Z<|z6<|zg<|zk (x:=.bool _) Z ?_
   rw[←hp];exact jb (by simp_all<;>(try omega))
  ·refine z7 Z Z c10<|z7 Z Z c10<|z7 Z Z c10<|aq Z c10 Z<|ac Z<|z6<|zg<|zk (x:=.bool _) Z ?_
   rw[←hp];exact jb (by simp_all<;>(try omega))
end
section
open Go.Proofs.Tryz
open Go.Proofs Go.Lib Go.Shelf Go.RowKit
set_option maxRecDepth 20000
variable {E:World}
def kz (t:Int):ByteArray:=if t=0 then ⟨#[105,110,116]⟩ else if t=1 then ⟨#[98,111,111,108]⟩ else if t=2 then ⟨#[97,114,114]⟩ else ⟨#[]⟩
theorem IE (s:ByteArray):LZ s.data.toList=s:=by unfold LZ;simp
def BH:List Int→Bool
 |[]=>false
 |c::rs=>eA c&&(rs.all eO&&decide (rs.length+1≤16))
theorem uJ {c:Int} (h:eA c=true):eO c=true:=by unfold eO;rw[h];rfl
theorem F5 (s:ByteArray):∀(n p:Nat),s.size - p≤n→0<p→p≤s.size→rp s p=((bN s p).all eO&&decide ((bN s 0).length≤16)):=by
 intro n
 induction n with
 |zero=>
  intro p h hp hps
  have hne:¬s=⟨#[]⟩:=fun e=>by subst e;have:p≤0:=hps;omega
  rw[rp,dif_neg (by omega),dp (p:=p) (by omega)]
  simp[hne];omega
 |succ n ih=>
  intro p h hp hps
  by_cases hlt:p<s.size
  ·have hd:=(ei s p).1
   have hw:p+(Utf8.decode s p).2≤s.size:=by
    have:=decodeL_le (s.data.toList.drop p) (by intro e;have:=congrArg List.length e;rw[List.length_drop] at this;have h2:s.data.toList.length=s.size:=Array.length_toList;simp only[List.length_nil] at this;omega)
    rw[decodeL_drop,List.length_drop] at this
    have h2:s.data.toList.length=s.size:=Array.length_toList
    omega
   rw[rp,dif_pos hlt,eV hlt,List.all_cons]
   have hp0:decide (p=0)=false:=w8 (by omega)
   rw[hp0,Bool.false_and,Bool.false_or]
   cases hi:eO ((Utf8.decode s p).1:Int) with
   |false=>simp
   |true=>rw[if_neg (by simp),ih _ (by omega) (by omega) hw];simp
  ·have hne:¬s=⟨#[]⟩:=fun e=>by subst e;have:p≤0:=hps;omega
   rw[rp,dif_neg hlt,dp (p:=p) hlt]
   simp[hne];omega
theorem IF {s:ByteArray} {p:Nat} (hlt:p<s.size):p+(Utf8.decode s p).2≤s.size:=by
 have h2:s.data.toList.length=s.size:=Array.length_toList
 have:=decodeL_le (s.data.toList.drop p) (by intro e;have:=congrArg List.length e;rw[List.length_drop] at this;simp only[List.length_nil] at this;omega)
 rw[decodeL_drop,List.length_drop] at this
 omega
theorem Ah (s:ByteArray):eQ s=BH (bN s 0):=by
 unfold eQ
 by_cases hlt:0<s.size
 ·have hd:=(ei s 0).1
  have hw:=IF hlt
  have hr:=eV hlt
  have hl:=congrArg List.length hr
  rw[List.length_cons] at hl
  rw[rp,dif_pos hlt]
  have h2:BH (bN s 0)=(eA ((Utf8.decode s 0).1:Int)&&((bN s (0+(Utf8.decode s 0).2)).all eO&&decide ((bN s (0+(Utf8.decode s 0).2)).length+1≤16))):=by rw[hr];rfl
  rw[h2]
  cases hc:eA ((Utf8.decode s 0).1:Int) with
  |false=>simp
  |true=>
   rw[uJ hc,if_neg (by simp),F5 s _ _ (Nat.le_refl _) (by omega) hw,hl];rfl
 ·rw[rp,dif_neg hlt,dp hlt]
  have:s=⟨#[]⟩:=by
   have h2:s.data.toList.length=s.size:=Array.length_toList
   have h3:s.data.toList=[]:=List.eq_nil_of_length_eq_zero (by omega)
   rw[←IE s,h3];rfl
  simp[this,BH]
theorem BI (k:Nat):(decide ((1:Int)≤((k+1:Nat):Int))&&decide (((k+1:Nat):Int)≤16))=(([]:List Int).all eO&&decide (k+1+([]:List Int).length≤16)):=by
 rw[w7 (by omega),Bool.true_and]
 show _=(true&&_)
 rw[Bool.true_and,decide_eq_decide]
 show ((k+1:Nat):Int)≤16↔k+1+0≤16
 omega
theorem uK (s:ByteArray):∀(n p k:Nat),s.size - p≤n→eM s p (k+1)=((bN s p).all eO&&decide (k+1+(bN s p).length≤16)):=by
 intro n
 induction n with
 |zero=>
  intro p k h
  rw[eM,dif_neg (by omega),dp (by omega)]
  exact BI k
 |succ n ih=>
  intro p k h
  by_cases hlt:p<s.size
  ·have hd:=(ei s p).1
   rw[eM,dif_pos hlt,eV hlt,List.all_cons]
   have ho:dK ((Utf8.decode s p).1:Int) (k+1)=eO ((Utf8.decode s p).1:Int):=by
    unfold dK eO eA rn
    have:decide (((k+1:Nat):Int)=0)=false:=w8 (by omega)
    rw[this];simp[Bool.or_assoc]
   rw[ho]
   cases hi:eO ((Utf8.decode s p).1:Int) with
   |false=>simp
   |true=>rw[if_pos rfl,ih _ _ (by omega),Bool.true_and,List.length_cons];congr 2;simp;omega
  ·rw[eM,dif_neg hlt,dp hlt]
   exact BI k
theorem IG (s:ByteArray):no s=BH (bN s 0):=by
 unfold no
 by_cases hlt:0<s.size
 ·rw[eM,dif_pos hlt,eV hlt]
  have ho:dK ((Utf8.decode s 0).1:Int) 0=eA ((Utf8.decode s 0).1:Int):=by unfold dK eA;simp
  rw[ho]
  show _=(eA ((Utf8.decode s 0).1:Int)&&_)
  cases hc:eA ((Utf8.decode s 0).1:Int) with
  |false=>simp
  |true=>rw[if_pos rfl,uK s _ _ _ (Nat.le_refl _),Bool.true_and];congr 2;simp;omega
 ·rw[eM,dif_neg hlt,dp hlt];rfl
theorem py (s:ByteArray):no s=eQ s:=by rw[IG,Ah]
structure tJ (f:ad) (x:aN):Prop where
 op:0≤x.op∧x.op≤26
 len:x.args.length=(bq x.op).length
 dst:(eK x.op=false∧x.dst=-1)∨(eK x.op=true∧x.dst≠-1∧bz f x.dst=true)
 num:pT x.op=false→x.num=0
 args:∀a∈x.args,bz f a=true
theorem fk {f:ad} {x:aN} (h:ri f x):tJ f x:=by
 obtain ⟨h1,h2,h3,h4⟩:=h
 have hw:=tI ⟨h1,h2⟩
 unfold n9 at h3
 simp only[Bool.or_eq_false_iff,Bool.not_eq_false',wc,Bool.and_eq_false_iff,beq_iff_eq] at h3
 obtain ⟨g1,g2,g3,g4⟩:=h3
 refine ⟨⟨h1,h2⟩,by rw[ob];omega,?_,fun hn=>?_,List.all_eq_true.1 h4⟩
 ·rw[lQ]
  by_cases hd:x.dst=-1
  ·left
   rw[w7 hd] at g2
   exact ⟨by rw[g2];rfl,hd⟩
  ·right
   rw[w8 hd] at g2
   refine ⟨by rw[g2];rfl,hd,?_⟩
   rcases g3 with g|g
   ·exact absurd g hd
   ·exact g
 ·rcases g4 with g|g
  ·exact g
  ·rw[hw,hn] at g;cases g
theorem wt (t:Int):aJ prog E 195 [.int .i64 t] (.str (kz t)):=by
 refine zo func195 Z (by decide) Z<|ah<|za (yi (v:=.str _) Z)<|z6<|zc<|ah<|aa Z<|z6<|zh<|ah<|aj Z Z<|ac Z<|z6<|zt Z (fun c1=>?_) (fun c1=>?_)
 ·refine ah<|za (yi (v:=.str _) Z)<|z6<|zg<|zk (x:=.str _) Z ?_
  exact congrArg AV.str (by simp_all[kz])
 ·refine ah<|aj Z Z<|ac Z<|z6<|zt Z (fun c2=>?_) (fun c2=>?_)
  ·refine ah<|za (yi (v:=.str _) Z)<|z6<|zg<|zk (x:=.str _) Z ?_
   exact congrArg AV.str (by simp_all[kz])
  ·refine ah<|aj Z Z<|ac Z<|z6<|zt Z (fun c3=>?_) (fun c3=>?_)
   ·refine ah<|za (yi (v:=.str _) Z)<|z6<|zg<|zk (x:=.str _) Z ?_
    exact congrArg AV.str (by simp_all[kz])
   ·refine zd<|ah<|za (yi (v:=.str _) Z)<|z6<|zg<|zk (x:=.str _) Z ?_
    exact congrArg AV.str (by simp_all[kz])
end
section
open Go.Proofs.Tryz
open Go.Proofs Go.Lib Go.Shelf Go.RowKit
theorem BJ:dM prog 176 9 1 1 [.str ⟨#[]⟩]:=⟨_,Yq,Y6,zeroValue9,by decide,by decide,by kernel_rfl⟩
set_option maxRecDepth 20000
variable {E:World}
def wu (s:ByteArray) (l:List ByteArray):Bool:=l.any fun t=>decide (t=s)
theorem BK {s:ByteArray} {l:List ByteArray}:wu s l=true↔s∈l:=by
 unfold wu;rw[List.any_eq_true]
 constructor
 ·rintro ⟨x,hx,h⟩;have h:x=s:=by simpa using h
  exact h▸hx
 ·intro h;exact ⟨s,h,by simp⟩
theorem F6 {s t:ByteArray} {l:List ByteArray}:wu s (l++[t])=(wu s l||decide (t=s)):=by unfold wu;rw[List.any_append];simp
def Ai (l:List ByteArray):Prop:=∀i (h:i<l.length),eQ l[i]=true∧wu l[i] (l.take i)=false
instance (l:List ByteArray):Decidable (Ai l):=by unfold Ai;infer_instance
theorem BL {t:ByteArray} {l:List ByteArray} {mt:Int} (ht:mt=if wu t l=true then 1 else 0) (hc:decide (0<mt)=false):wu t l=false:=by
 have hc:=of_decide_eq_false hc
 cases h:wu t l with
 |true=>rw[h] at ht;simp at ht;omega
 |false=>rfl
theorem F7 {s t:ByteArray} {l:List ByteArray} {m:Option Int} {mt:Int} (hs:m.getD 0=if wu s l=true then 1 else 0) (ht:mt=if wu t l=true then 1 else 0) (hc:decide (0<mt)=false) :
  (if s=t then some (mt+1) else m).getD 0=if (wu s l||decide (t=s))=true then 1 else 0:=by
 have h:=BL ht hc
 rw[h] at ht
 have ht:mt=0:=by simpa using ht
 by_cases e:s=t
 ·subst e;simp[ht]
 ·rw[if_neg e,hs]
  have e2:¬t=s:=fun h=>e h.symm
  simp[e2]
theorem F8 {l:List ByteArray} {k:Nat} (hn:∀i (h:i<l.length),i<k→eQ l[i]=true∧wu l[i] (l.take i)=false) (hk:k<l.length) (h1:eQ l[k]=true) (h2:wu l[k] (l.take k)=false) :
  ∀i (h:i<l.length),i<k+1→eQ l[i]=true∧wu l[i] (l.take i)=false:=fun i h hi=>by
 by_cases e:i=k
 ·subst e;exact ⟨h1,h2⟩
 ·exact hn i h (by omega)
theorem oG (l:List ByteArray) (hl:l.length≤100000000) (hs:∀s∈l,s.size≤140737488355328) (hL:aE E):aJ prog E 196 [.fro 1 (l.map sN)] (.bool (decide (Ai l))):=by
 refine zo func196 Z (by decide) Z<|ah<|ac Z<|z6<|ah<|az.makeMap<|fun b6=>za (yi (v:=nc _) Z)<|z6<|zc<|ah<|aU Z<|ak Yq Z<|aa Z<|z6<|zh<|ya (γ:=Nat × List (ByteArray × Int)) [3,7,8] (fun g=>[(9,.int .i64 g.1)]) (fun g=>[(0,Dm b6 g.2)]) (fun g=>g.1≤l.length∧(∀i (h:i<l.length),i<g.1→eQ l[i]=true∧wu l[i] (l.take i)=false)∧∀s,(kV s g.2).getD 0=if wu s (l.take g.1)=true then 1 else 0) (fun g=>l.length - g.1) (0,[]) aG aC (⟨qt _,fun i h h2=>absurd h2 (Nat.not_lt_zero _),fun s=>Z⟩) ?_
 rintro ⟨k,es⟩ ⟨hk,hn,hm⟩
 try dsimp only at *
 refine ah<|aw Z Z<|z6<|zc<|zp Z (fun ck=>?_) (fun ck=>?_)
 ·have hk2:k<l.length:=by omega
  have hmk:=hm l[k]
  have hz:=hs _ (qu hk2)
  refine zd<|zc<|zh<|ah<|za (bD k Yq Y6 Z Z Z (qq hk2))<|za (yo (c:=.str _) Ym Z)<|za (yi (v:=.str _) Z)<|z6<|zc<|ah<|za (yl (v:=.str _) Z)<|ze (Ag _ hz hL) Z<|aF Z<|ai Z<|zm (s:=16) Z (fun c1=>?_) (fun c1=>?_)
  ·refine z7 Z Z c1<|z7 Z Z c1<|z7 Z Z c1<|z7 Z Z c1<|ap Z c1 Z<|z6<|yt Z Z<|ah<|ac Z<|z6<|zg<|zk (x:=.bool _) Z ?_
   exact jb (w8 fun h=>by have h:=h k hk2;simp_all).symm
  ·refine z8 Z Z c1<|za (yl (v:=nc _) Z)<|z8 Z Z c1<|za (yl (v:=.str _) Z)<|z8 Z Z c1<|za (Gv.lookup1S underlying261 Zw X2 Z Z ⟨_,.head⟩)<|z8 Z Z c1<|aO Z Z<|aq Z c1 Z<|z6<|zt Z (fun c2=>?_) (fun c2=>?_)
   ·refine ah<|ac Z<|z6<|zg<|zk (x:=.bool _) Z ?_
    exact jb (w8 fun h=>by have h:=h k hk2;simp_all).symm
   ·refine zd<|aM<|za (yl (v:=nc _) Z)<|za (yl (v:=.str _) Z)<|za (Gv.lookup1S underlying261 Zw X2 Z Z ⟨_,.head⟩)<|za (Gv.add Z Z (by first|(unfold nN;omega)|(unfold nN;rw[hmk];split<;>omega)))<|az.mapSet underlying261 Zw Z Z Z .head<|z6<|aM<|za (Gv.add Z Z (by first|(unfold nN;omega)|(unfold nN;rw[hmk];split<;>omega)))<|aa Z<|z6 ?_
    exact ⟨(k+1,oX l[k] ((kV l[k] es).getD 0+1) es),dC,aG,aC,⟨hk2,F8 hn hk2 (by simpa using c1) (BL hmk (by assumption)),fun s=>by dsimp only;rw[vU,qr hk2,F6];exact F7 (hm s) hmk (by assumption)⟩,by dsimp only;omega⟩
 ·have hkn:k=l.length:=by omega
  refine y9<|ah<|ac Z<|z6<|zg<|zk (x:=.bool _) Z ?_
  exact jb (w7 fun i h=>hn i h (by omega)).symm
theorem map_take {α:Type} {g:α→ByteArray} {l:List α} {k:Nat} (h:k<l.length):(l.map g).take (k+1)=(l.map g).take k++[g l[k]]:=by
 rw[qr (by simpa using h)];simp
def dO (f:ad):List ByteArray:=f.vars.map vJ.name
def dY (f:ad):List ByteArray:=f.blocks.map bc.name
@[simp] theorem Nl (f:ad):(dO f).length=f.vars.length:=by unfold dO;simp
@[simp] theorem Nm (f:ad):(dY f).length=f.blocks.length:=by unfold dY;simp
theorem IH {f:ad} {k:Nat} (h:k<f.vars.length):(dO f).take (k+1)=(dO f).take k++[f.vars[k].name]:=map_take h
theorem II {f:ad} {k:Nat} (h:k<f.blocks.length):(dY f).take (k+1)=(dY f).take k++[f.blocks[k].name]:=map_take h
def IJ (f:ad):Prop:=∀i (h:i<f.params.length),f.params[i]=(i:Int)
instance (f:ad):Decidable (IJ f):=by unfold IJ;infer_instance
def IK (f:ad):Prop:=∀i (h:i<f.vars.length),¬kz f.vars[i].ty=⟨#[]⟩
instance (f:ad):Decidable (IK f):=by unfold IK;infer_instance
def l8 (f:ad):Prop:=f.vars.length≤512∧f.params.length≤8∧f.params.length≤f.vars.length∧1≤f.blocks.length∧f.blocks.length≤64
instance (f:ad):Decidable (l8 f):=by unfold l8;infer_instance
def gl (f:ad):Prop:=IK f∧IJ f∧l8 f∧Ai (dO f)∧Ai (dY f)
instance (f:ad):Decidable (gl f):=by unfold gl;infer_instance
theorem wv (f:ad) (h1:f.vars.length≤100000000) (h2:f.blocks.length≤100000000) (hp:f.params.length≤100000000) (hn:nq f) (hL:aE E):aJ prog E 158 [.agg (bL f)] (.bool (decide (gl f))):=by
 have hnv:(dO f).length=f.vars.length:=by unfold dO;simp
 have hnb:(dY f).length=f.blocks.length:=by unfold dY;simp
 refine zo func158 Z (by decide) Z<|ah<|yb (cs:=_) Z Z Z<|ac Z<|z6<|ah<|bV Z<|bV Z<|z6<|dh (t:=3) (k:=1) (T:=9) Z<|fun i3=>dh (t:=4) (k:=1) (T:=9) Z<|fun i4=>zc<|ah<|ae je Z Zg Z Z<|aI Zp Z<|ak js Z<|aa Z<|z6<|zh<|ya (γ:=Nat × Nat) [1,4,12,13] (fun g=>[(3,.own g.2 g.1),(14,.int .i64 g.1)]) (fun g=>[(i4,.grow 1 9 []),(g.2,.grow 1 9 ((((dO f).take g.1).map sN).flatten))]) (fun g=>g.1≤f.vars.length∧∀i (h:i<f.vars.length),i<g.1→¬kz f.vars[i].ty=⟨#[]⟩) (fun g=>f.vars.length - g.1) (0,i3) di aC (⟨qt _,fun i h h2=>absurd h2 (Nat.not_lt_zero _)⟩) ?_
 rintro ⟨k,i⟩ ⟨hk,hT⟩
 try dsimp only at *
 refine ah<|aw Z Z<|z6<|zc<|zp Z (fun ck=>?_) (fun ck=>?_)
 ·have hk2:k<f.vars.length:=by simp at ck;omega
  refine zd<|zc<|zh<|ah<|za (bD k js Zx Z Z Z (qq hk2))<|ab isAgg40 Zx Z Z<|zy (cs:=[.str ⟨#[]⟩,.int .i64 0]) zeroValue40 Z Z<|fun i6=>zq Zx Z Z Z Z Z Z .head Z<|z6<|ah<|bw Z<|za (zr Zd Z Y6 (by decide) Z Z)<|za (zw (c:=.str _) Ym Z ⟨_,.head⟩ Z)<|y8 (rows:=[[_]]) BJ Z Z Z Z Z<|yn (k:=1) Yq type9 Z Z Z Z Z (fun _=>.t2) (by rw[mZ (k:=1) (fun _=>rfl),w6];omega) (by decide) Z (by show (_+1)*16≤_;omega) (by show _+1≤_;omega)<|fun i22=>bM Z<|z6<|ah<|za (zr Zd Z Yj (by decide) Z Z)<|za (zw (c:=.int _ _) Yv Z ⟨_,.head⟩ Z)<|ze (wt _) Z<|za (Gv.eqlT Z Z)<|z6<|zp Z (fun ct=>?_) (fun ct=>?_)
  ·refine ah<|ac Z<|z6<|zg<|zk (x:=.bool _) Z ?_
   exact jb (w8 fun h=>h.1 k hk2 (by simpa using ct)).symm
  ·refine zd<|aM<|aA Z Z<|aa Z<|z6 ?_
   exact ⟨(k+1,i22),e7,di,⟨_,(.drop (.refl _)),by dsimp only;rw[←lE (enc:=sN) (IH hk2)];rfl⟩,⟨hk2,fun i h h2=>by by_cases e:i=k;(subst e;simpa using ct);exact hT i h (by dsimp only at h2;omega)⟩,by dsimp only;omega⟩
 ·have hkn:k=f.vars.length:=by simp at ck;omega
  subst hkn
  rw[List.take_of_length_le (by omega:(dO f).length≤f.vars.length)]
  have hTys:IK f:=fun i h=>hT i h h
  refine y9<|zc<|ah<|ae je Z Ze Z Z<|aI Zl Z<|ak jk Z<|aa Z<|z6<|zh<|ya (γ:=Nat × Nat) [1,3,29,30] (fun g=>[(4,.own g.2 g.1),(31,.int .i64 g.1)]) (fun g=>[(g.2,.grow 1 9 ((((dY f).take g.1).map sN).flatten)),(i,.grow 1 9 (((dO f).map sN).flatten))]) (fun g=>g.1≤f.blocks.length) (fun g=>f.blocks.length - g.1) (0,i4) di aC (qt _) ?_
  rintro ⟨k,j⟩ hk
  try dsimp only at *
  refine ah<|aw Z Z<|z6<|zc<|zp Z (fun ck=>?_) (fun ck=>?_)
  ·have hk2:k<f.blocks.length:=by simp at ck;omega
   refine zd<|zc<|zh<|ah<|za (bD k jk jv Z Z Z (qq hk2))<|ab Yk jv Z Z<|zy (cs:=[.str ⟨#[]⟩,.raw (.slice none 0 0),.raw (.slice none 0 0),.int .i64 0,.int .i64 0,.int .i64 0,.int .i64 0]) Zn Z Z<|fun i8=>zq jv Z Z Z Z Z Z .head Z<|z6<|aM<|bw Z<|za (zr jl Z Y6 (by decide) Z Z)<|za (zw (c:=.str _) Ym Z ⟨_,.head⟩ Z)<|y8 (rows:=[[_]]) BJ Z Z Z Z Z<|yn (k:=1) Yq type9 Z Z Z Z Z (fun _=>.t1) (by rw[mZ (k:=1) (fun _=>rfl),w6];omega) (by decide) Z (by show (_+1)*16≤_;omega) (by show _+1≤_;omega)<|fun i39=>bM Z<|z6<|aM<|aA Z Z<|aa Z<|z6 ?_
   exact ⟨(k+1,i39),e7,di,⟨_,(.drop (.refl _)),by dsimp only;rw[←lE (enc:=sN) (II hk2)];rfl⟩,hk2,by dsimp only;omega⟩
  ·have hkn:k=f.blocks.length:=by simp at ck;omega
   subst hkn
   rw[List.take_of_length_le (by omega:(dY f).length≤f.blocks.length)]
   refine y9<|zc<|ah<|ae je Z jg Z Z<|aI jn Z<|ak j9 Z<|aa Z<|z6<|zh<|ya (γ:=Nat) [1,3,4,42,43] (fun k=>[(44,.int .i64 k)]) (fun k=>[(j,.grow 1 9 (((dY f).map sN).flatten)),(i,.grow 1 9 (((dO f).map sN).flatten))]) (fun k=>k≤f.params.length∧∀i (h:i<f.params.length),i<k→f.params[i]=(i:Int)) (fun k=>f.params.length - k) 0 aG aC (⟨qt _,fun i h h2=>absurd h2 (Nat.not_lt_zero _)⟩) ?_
   rintro k ⟨hk,hP⟩
   refine ah<|aw Z Z<|z6<|zc<|zp Z (fun ck=>?_) (fun ck=>?_)
   ·have hk2:k<f.params.length:=by simp at ck;omega
    refine zd<|zc<|zh<|ah<|aa Z<|za (bD k j9 ja Z Z Z (qq hk2))<|ax jc Z<|ay Z<|ay Z<|z6<|ah<|aa Z<|aa Z<|aH Z Z<|z6<|zt Z (fun cp=>?_) (fun cp=>?_)
    ·refine ah<|ac Z<|z6<|zg<|zk (x:=.bool _) Z ?_
     exact jb (w8 fun h=>by have:=h.2.1 k hk2;simp[this] at cp).symm
    ·refine zd<|aM<|aA Z Z<|aa Z<|z6 ?_
     exact ⟨k+1,iT,aG,aC,⟨hk2,fun i h h2=>by by_cases e:i=k;(subst e;simpa using cp);exact hP i h (by omega)⟩,by omega⟩
   ·have hkn:k=f.params.length:=by simp at ck;omega
    subst hkn
    have hPar:IJ f:=fun i h=>hP i h h
    refine yg (aK.know (t:=3) (rows:=(dO f).map sN) Z .t1 (by intro r hr;obtain ⟨x,_,rfl⟩:=List.mem_map.1 hr;rfl) (by decide) (by simp))<|yg (aK.know (t:=4) (rows:=(dY f).map sN) Z .head (by intro r hr;obtain ⟨x,_,rfl⟩:=List.mem_map.1 hr;rfl) (by decide) (by simp))<|y9<|ah<|aU Z<|ak Yq Z<|za (Gv.leq Z Z)<|ai Z<|zm (s:=56) Z (fun c3=>?_) (fun c3=>?_)
    ·refine z8 Z Z c3<|ae je Z jg Z Z<|z8 Z Z c3<|aI jn Z<|z8 Z Z c3<|ak j9 Z<|z8 Z Z c3<|aU Z<|z8 Z Z c3<|ak Yq Z<|z8 Z Z c3<|za (Gv.minI Z Z)<|z8 Z Z c3<|za (Gv.leq Z Z)<|ap Z c3 Z<|ai Z<|zm (s:=65) Z (fun c4=>?_) (fun c4=>?_)
     ·refine z8 Z Z c4<|aU Z<|z8 Z Z c4<|ak Yq Z<|z8 Z Z c4<|za (qa Z Z)<|ap Z c4 Z<|ai Z<|zm (s:=70) Z (fun c5=>?_) (fun c5=>?_)
      ·refine z8 Z Z c5<|aU Z<|z8 Z Z c5<|ak Yq Z<|z8 Z Z c5<|za (Gv.leq Z Z)<|ap Z c5 Z<|ai Z<|zm (s:=75) Z (fun c6=>?_) (fun c6=>?_)
       ·refine z8 Z Z c6<|aU Z<|z8 Z Z c6<|ze (oG (dO f) (by omega) (fun s hs=>by obtain ⟨v,hv,rfl⟩:=List.mem_map.1 hs;exact hn.1 v hv) hL) Z<|ap Z c6 Z<|ai Z<|zm (s:=79) Z (fun c7=>?_) (fun c7=>?_)
        ·refine z8 Z Z c7<|aU Z<|z8 Z Z c7<|ze (oG (dY f) (by omega) (fun s hs=>by obtain ⟨v,hv,rfl⟩:=List.mem_map.1 hs;exact hn.2 v hv) hL) Z<|ap Z c7 Z<|ac Z<|z6<|zg<|zk (x:=.bool _) Z ?_
         exact jb (by unfold gl l8;simp_all<;>grind)
        ·refine z7 Z Z c7<|z7 Z Z c7<|aq Z c7 Z<|ac Z<|z6<|zg<|zk (x:=.bool _) Z ?_
         exact jb (by unfold gl l8;simp_all<;>grind)
       ·refine z7 Z Z c6<|z7 Z Z c6<|aq Z c6 Z<|ai Z<|z7 Z Z Z<|z7 Z Z Z<|aq Z Z Z<|ac Z<|z6<|zg<|zk (x:=.bool _) Z ?_
        exact jb (by unfold gl l8;simp_all<;>grind)
      ·refine z7 Z Z c5<|z7 Z Z c5<|z7 Z Z c5<|aq Z c5 Z<|ai Z<|z7 Z Z Z<|z7 Z Z Z<|aq Z Z Z<|ai Z<|z7 Z Z Z<|z7 Z Z Z<|aq Z Z Z<|ac Z<|z6<|zg<|zk (x:=.bool _) Z ?_
       exact jb (by unfold gl l8;simp_all<;>grind)
     ·refine z7 Z Z c4<|z7 Z Z c4<|z7 Z Z c4<|aq Z c4 Z<|ai Z<|z7 Z Z Z<|z7 Z Z Z<|z7 Z Z Z<|aq Z Z Z<|ai Z<|z7 Z Z Z<|z7 Z Z Z<|aq Z Z Z<|ai Z<|z7 Z Z Z<|z7 Z Z Z<|aq Z Z Z<|ac Z<|z6<|zg<|zk (x:=.bool _) Z ?_
      exact jb (by unfold gl l8;simp_all<;>grind)
    ·refine z7 Z Z c3<|z7 Z Z c3<|z7 Z Z c3<|z7 Z Z c3<|z7 Z Z c3<|z7 Z Z c3<|z7 Z Z c3<|aq Z c3 Z<|ai Z<|z7 Z Z Z<|z7 Z Z Z<|z7 Z Z Z<|aq Z Z Z<|ai Z<|z7 Z Z Z<|z7 Z Z Z<|z7 Z Z Z<|aq Z Z Z<|ai Z<|z7 Z Z Z<|z7 Z Z Z<|aq Z Z Z<|ai Z<|z7 Z Z Z<|z7 Z Z Z<|aq Z Z Z<|ac Z<|z6<|zg<|zk (x:=.bool _) Z ?_
     exact jb (by unfold gl l8;simp_all<;>grind)
def kQ (f:ad) (p:cS):Bool:=!decide (p.args.length=0)&&decide (p.args.length=p.from_.length)&&bz f p.dst&&p.args.all (bz f)&&p.from_.all (eZ f)
theorem DI (f:ad) (v:Int):aJ prog E 200 ([.int .i64 v]++[.pf (bL f)]) (.bool (!eZ f v)):=by
 refine zo func200 Z (by decide) Z<|ah<|ac Z<|z6<|ah<|ab jm jh Z Z<|aa Z<|ze (pq _ _) Z<|aF Z<|ac Z<|z6<|zg<|zk (x:=.bool _) Z ?_
 rfl
theorem F9 (f:ad) (p:cS) (hp:BA p):aJ prog E 161 [.agg (bL f),.agg (dg p)] (.bool (kQ f p)):=by
 have hl1:=hp.1.lt
 have hl2:=hp.2.lt
 refine zo func161 Z (by decide) Z<|ah<|yb (cs:=_) Z Z Z<|yb (cs:=_) Z Z Z<|ac Z<|z6<|zc<|ah<|ae jt Z jg Z Z<|aI jn Z<|ak j9 Z<|aj Z Z<|ai Z<|zm (s:=9) Z (fun c8=>?_) (fun c8=>?_)
 ·refine z7 Z Z c8<|z7 Z Z c8<|z7 Z Z c8<|z7 Z Z c8<|z7 Z Z c8<|z7 Z Z c8<|z7 Z Z c8<|ap Z c8 Z<|ai Z<|z7 Z Z Z<|z7 Z Z Z<|z7 Z Z Z<|z7 Z Z Z<|z7 Z Z Z<|ap Z Z Z<|ai Z<|z7 Z Z Z<|z7 Z Z Z<|z7 Z Z Z<|z7 Z Z Z<|z7 Z Z Z<|ap Z Z Z<|z6<|yt Z Z<|ah<|ac Z<|z6<|zg<|zk (x:=.bool _) Z ?_
  exact jb (by have:=List.any_eq_not_all_not (l:=p.from_) (p:=fun x=>!eZ f x);simp_all[kQ,Int.ofNat_inj]<;>grind)
 ·refine z8 Z Z c8<|ae jt Z jg Z Z<|z8 Z Z c8<|aI jn Z<|z8 Z Z c8<|ak j9 Z<|z8 Z Z c8<|ae jt Z jg Z Z<|z8 Z Z c8<|aI jn Z<|z8 Z Z c8<|ak j9 Z<|z8 Z Z c8<|aH Z Z<|aq Z c8 Z<|ai Z<|zm (s:=18) Z (fun c9=>?_) (fun c9=>?_)
  ·refine z7 Z Z c9<|z7 Z Z c9<|z7 Z Z c9<|z7 Z Z c9<|z7 Z Z c9<|ap Z c9 Z<|ai Z<|z7 Z Z Z<|z7 Z Z Z<|z7 Z Z Z<|z7 Z Z Z<|z7 Z Z Z<|ap Z Z Z<|z6<|yt Z Z<|ah<|ac Z<|z6<|zg<|zk (x:=.bool _) Z ?_
   exact jb (by have:=List.any_eq_not_all_not (l:=p.from_) (p:=fun x=>!eZ f x);simp_all[kQ,Int.ofNat_inj]<;>grind)
  ·refine z8 Z Z c9<|ab jm jh Z Z<|z8 Z Z c9<|ae jt Z ja Z Z<|z8 Z Z c9<|ax jc Z<|z8 Z Z c9<|ze (k8 _ _) Z<|z8 Z Z c9<|aF Z<|aq Z c9 Z<|ai Z<|zm (s:=25) Z (fun c10=>?_) (fun c10=>?_)
   ·refine z7 Z Z c10<|z7 Z Z c10<|z7 Z Z c10<|z7 Z Z c10<|z7 Z Z c10<|ap Z c10 Z<|z6<|yt Z Z<|ah<|ac Z<|z6<|zg<|zk (x:=.bool _) Z ?_
    exact jb (by have:=List.any_eq_not_all_not (l:=p.from_) (p:=fun x=>!eZ f x);simp_all[kQ,Int.ofNat_inj]<;>grind)
   ·refine z8 Z Z c10<|ab jm jh Z Z<|z8 Z Z c10<|ae jt Z jg Z Z<|z8 Z Z c10<|aI jn Z<|z8 Z Z c10<|ze (tj f p.args (by omega)) Z<|z8 Z Z c10<|aF Z<|aq Z c10 Z<|z6<|zt Z (fun c11=>?_) (fun c11=>?_)
    ·refine ah<|ac Z<|z6<|zg<|zk (x:=.bool _) Z ?_
     exact jb (by have:=List.any_eq_not_all_not (l:=p.from_) (p:=fun x=>!eZ f x);simp_all[kQ,Int.ofNat_inj]<;>grind)
    ·refine zd<|ah<|ae jt Z jg Z Z<|aI jn Z<|za (Gv.func Z Z)<|ze (ip p.from_ (by omega) (DI f)) Z<|aF Z<|ac Z<|z6<|zg<|zk (x:=.bool _) Z ?_
     exact jb (by have:=List.any_eq_not_all_not (l:=p.from_) (p:=fun x=>!eZ f x);simp_all[kQ,Int.ofNat_inj]<;>grind)
end
section
open Go.Proofs.Tryz
open Go.Proofs Go.Lib Go.Shelf Go.RowKit
set_option maxRecDepth 20000
variable {E:World}
theorem o8 {p:cS→Bool} {fn:FuncId} {c:List AV} (xs:List cS) (hl:xs.length≤281474976710656) (hp:∀x∈xs,aJ prog E fn ([.agg (dg x)]++c) (.bool (p x))) :
  aJ prog E 197 [.fro 3 (xs.map dg),.fn fn [] c] (.int .i64 (cU p xs 0)):=by
 refine zo func197 Z (by decide) Z<|ah<|ay Z<|z6<|zc<|ah<|aU Z<|ak Z2 Z<|aa Z<|z6<|zh<|ya (γ:=Nat) [0,1,7] (fun k=>[(8,.int .i64 k)]) (fun k=>[]) (fun k=>k≤xs.length∧(xs.take k).all (fun x=>!p x)) (fun k=>xs.length - k) 0 aG aC (⟨qt _,Z⟩) ?_
 rintro k ⟨hk,hall⟩
 refine ah<|aw Z Z<|z6<|zc<|zp Z (fun ck=>?_) (fun ck=>?_)
 ·have hk2:k<xs.length:=by omega
  refine zd<|zc<|zh<|ah<|aa Z<|ay Z<|z6<|ah<|za (yl (v:=.fn _ _ _) Z)<|aU Z<|aa Z<|za (q9 Z2 jz Z Z Z (qq (by omega)))<|ab Yl jz Z Z<|az.callVP Z (hp _ (qu hk2)) Z<|z6<|zt Z (fun cp=>?_) (fun cp=>?_)
  ·refine ah<|aa Z<|ay Z<|z6<|zg<|zk (x:=.int _ _) Z ?_
   rw[bR p xs k hk hall,List.drop_eq_getElem_cons hk2,cU,if_pos cp]
  ·refine zd<|aM<|aA Z Z<|aa Z<|z6 ?_
   exact ⟨k+1,dC,aG,aC,⟨hk2,by rw[qr hk2,List.all_append,hall];simp[cp]⟩,by omega⟩
 ·have hkn:k=xs.length:=by omega
  refine y9<|ah<|ay Z<|z6<|zg<|zk (x:=.int _ _) Z ?_
  rw[bR p xs k hk hall,hkn,List.drop_length,cU]
theorem mE {p:cS→Bool} {fn:FuncId} {c:List AV} (xs:List cS) (hl:xs.length≤281474976710656) (hp:∀x∈xs,aJ prog E fn ([.agg (dg x)]++c) (.bool (p x))) :
  aJ prog E 159 [.fro 3 (xs.map dg),.fn fn [] c] (.bool (xs.any p)):=by
 refine zo func159 Z (by decide) Z<|ah<|ac Z<|z6<|ah<|aU Z<|za (yl (v:=.fn _ _ _) Z)<|ze (o8 xs hl hp) Z<|za (qa Z Z)<|ac Z<|z6<|zg<|zk (x:=.bool _) Z ?_
 rw[fz]
theorem o9 {p:aN→Bool} {fn:FuncId} {c:List AV} (xs:List aN) (hl:xs.length≤281474976710656) (hp:∀x∈xs,aJ prog E fn ([.agg (cK x)]++c) (.bool (p x))) :
  aJ prog E 202 [.fro 4 (xs.map cK),.fn fn [] c] (.int .i64 (cU p xs 0)):=by
 refine zo func202 Z (by decide) Z<|ah<|ay Z<|z6<|zc<|ah<|aU Z<|ak jx Z<|aa Z<|z6<|zh<|ya (γ:=Nat) [0,1,7] (fun k=>[(8,.int .i64 k)]) (fun k=>[]) (fun k=>k≤xs.length∧(xs.take k).all (fun x=>!p x)) (fun k=>xs.length - k) 0 aG aC (⟨qt _,Z⟩) ?_
 rintro k ⟨hk,hall⟩
 refine ah<|aw Z Z<|z6<|zc<|zp Z (fun ck=>?_) (fun ck=>?_)
 ·have hk2:k<xs.length:=by omega
  refine zd<|zc<|zh<|ah<|aa Z<|ay Z<|z6<|ah<|za (yl (v:=.fn _ _ _) Z)<|aU Z<|aa Z<|za (q9 jx Z9 Z Z Z (qq (by omega)))<|ab Ye Z9 Z Z<|az.callVP Z (hp _ (qu hk2)) Z<|z6<|zt Z (fun cp=>?_) (fun cp=>?_)
  ·refine ah<|aa Z<|ay Z<|z6<|zg<|zk (x:=.int _ _) Z ?_
   rw[bR p xs k hk hall,List.drop_eq_getElem_cons hk2,cU,if_pos cp]
  ·refine zd<|aM<|aA Z Z<|aa Z<|z6 ?_
   exact ⟨k+1,dC,aG,aC,⟨hk2,by rw[qr hk2,List.all_append,hall];simp[cp]⟩,by omega⟩
 ·have hkn:k=xs.length:=by omega
  refine y9<|ah<|ay Z<|z6<|zg<|zk (x:=.int _ _) Z ?_
  rw[bR p xs k hk hall,hkn,List.drop_length,cU]
theorem mF {p:aN→Bool} {fn:FuncId} {c:List AV} (xs:List aN) (hl:xs.length≤281474976710656) (hp:∀x∈xs,aJ prog E fn ([.agg (cK x)]++c) (.bool (p x))) :
  aJ prog E 162 [.fro 4 (xs.map cK),.fn fn [] c] (.bool (xs.any p)):=by
 refine zo func162 Z (by decide) Z<|ah<|ac Z<|z6<|ah<|aU Z<|za (yl (v:=.fn _ _ _) Z)<|ze (o9 xs hl hp) Z<|za (qa Z Z)<|ac Z<|z6<|zg<|zk (x:=.bool _) Z ?_
 rw[fz]
theorem uL (f:ad) (p:cS) (hp:BA p):aJ prog E 160 ([.agg (dg p)]++[.pf (bL f)]) (.bool (!kQ f p)):=by
 refine zo func160 Z (by decide) Z<|ah<|yb (cs:=_) Z Z Z<|ac Z<|z6<|ah<|ab jm jh Z Z<|ab Yl jz Z Z<|ze (F9 _ _ (by assumption)) Z<|aF Z<|ac Z<|z6<|zg<|zk (x:=.bool _) Z ?_
 rfl
theorem uM (f:ad) (x:aN) (hx:sv x.args):aJ prog E 163 ([.agg (cK x)]++[.pf (bL f)]) (.bool (!dJ f x)):=by
 refine zo func163 Z (by decide) Z<|ah<|yb (cs:=_) Z Z Z<|ac Z<|z6<|ah<|ab jm jh Z Z<|ab Ye Z9 Z Z<|ze (DA _ _ (by assumption)) Z<|aF Z<|ac Z<|z6<|zg<|zk (x:=.bool _) Z ?_
 rfl
def iE (f:ad) (b:bc):Bool:=!(b.phis.any fun p=>!kQ f p)&&!(b.insts.any fun x=>!dJ f x)&&cC f b.term
theorem rq {f:ad} {b:bc} (h:(b.phis.any fun p=>!kQ f p)=true):iE f b=false:=by unfold iE;rw[h];rfl
theorem rt {f:ad} {b:bc} (h:(b.insts.any fun x=>!dJ f x)=true):iE f b=false:=by unfold iE;rw[h];simp
theorem ru {f:ad} {b:bc} (h:(!cC f b.term)=true):iE f b=false:=by unfold iE;rw[show cC f b.term=false by simpa using h];simp
theorem Ga {f:ad} {b:bc} (h1:(b.phis.any fun p=>!kQ f p)=false) (h2:(b.insts.any fun x=>!dJ f x)=false) (h3:(!cC f b.term)=false):iE f b=true:=by unfold iE;rw[h1,h2,show cC f b.term=true by simpa using h3];rfl
def fm (f:ad):Bool:=decide (gl f)&&(f.blocks.all (iE f)&&decide (gP f.blocks≤1024))
theorem ww (f:ad) (hf:uG f) (h1:f.vars.length≤100000000) (h2:f.blocks.length≤100000000) (hp:f.params.length≤100000000) (hn:nq f) (hL:aE E):aJ prog E 120 [.agg (bL f)] (.bool (fm f)):=by
 refine zo func120 Z (by decide) Z<|ah<|yb (cs:=_) Z Z Z<|ac Z<|z6<|zc<|ah<|ab jm jh Z Z<|ze (wv _ (by omega) (by omega) (by omega) (by assumption) hL) Z<|aF Z<|z6<|zt Z (fun cn=>?_) (fun cn=>?_)
 ·refine ah<|ac Z<|z6<|zg<|zk (x:=.bool _) Z ?_
  exact jb (by unfold fm;rw[show decide (gl f)=false by simpa using cn];rfl)
 ·have hN:gl f:=by simpa using cn
  have hbl:=hN.2.2.1.2.2.2.2
  refine zd<|ah<|ay Z<|z6<|zc<|ah<|ae je Z Ze Z Z<|aI Zl Z<|ak jk Z<|aa Z<|z6<|zh<|ya (γ:=Nat) [1,11,12] (fun k=>[(3,.int .i64 (gP (f.blocks.take k))),(13,.int .i64 k)]) (fun k=>[]) (fun k=>k≤f.blocks.length∧gP (f.blocks.take k)≤k*562949953421312∧(f.blocks.take k).all (iE f)=true) (fun k=>f.blocks.length - k) 0 di aC (⟨qt _,qt _,Z⟩) ?_
  rintro k ⟨hk,hsum,hall⟩
  refine ah<|aw Z Z<|z6<|zc<|zp Z (fun ck=>?_) (fun ck=>?_)
  ·have hk2:k<f.blocks.length:=by simp at ck;omega
   obtain ⟨b,hbk⟩:∃b,f.blocks[k]=b:=⟨_,rfl⟩
   have hget:f.blocks[k]?=some b:=by rw[qq hk2,hbk]
   have hb:=hf.2.2.2 b (hbk▸qu hk2)
   have hb1:=hb.1.lt
   have hb2:=hb.2.1.lt
   have hsucc:=rj f.blocks k hk2
   rw[hbk] at hsucc
   refine zd<|zc<|zh<|ah<|za (bD k jk jv Z Z Z hget)<|ab Yk jv Z Z<|zy (cs:=[.str ⟨#[]⟩,.raw (.slice none 0 0),.raw (.slice none 0 0),.int .i64 0,.int .i64 0,.int .i64 0,.int .i64 0]) Zn Z Z<|fun i5=>zq jv Z Z Z Z Z Z .head Z<|z6<|ah<|aa Z<|za (zr jl Z Yh (by decide) Z Z)<|za (zw (c:=.fro _ _) Yt Z ⟨_,.head⟩ Z)<|ak Z2 Z<|za (zr jl Z Y8 (by decide) Z Z)<|za (zw (c:=.fro _ _) Yi Z ⟨_,.head⟩ Z)<|ak jx Z<|aA Z Z<|aA Z Z<|ay Z<|z6<|ah<|za (zr jl Z Yh (by decide) Z Z)<|za (zw (c:=.fro _ _) Yt Z ⟨_,.head⟩ Z)<|za (Gv.func Z Z)<|ze (mE b.phis (by omega) (fun p hp=>uL f p (hb.2.2.1 p hp))) Z<|ai Z<|zm (s:=30) Z (fun c1=>?_) (fun c1=>?_)
   ·refine z7 Z Z c1<|z7 Z Z c1<|z7 Z Z c1<|z7 Z Z c1<|ap Z c1 Z<|ac Z<|z6<|ah<|ai Z<|ai Z<|z7 Z Z Z<|z7 Z Z Z<|z7 Z Z Z<|z7 Z Z Z<|z7 Z Z Z<|ap Z Z Z<|z6<|yt Z Z<|ah<|ac Z<|z6<|zg<|zk (x:=.bool _) Z ?_
    exact jb (by unfold fm;rw[show f.blocks.all (iE f)=false from Bool.eq_false_iff.2 (dD hk2 (by rw[hbk];first|exact rq (by assumption)|exact rt (by assumption)|exact ru (by assumption)))];simp)
   ·refine z8 Z Z c1<|za (zr jl Z Y8 (by decide) Z Z)<|z8 Z Z c1<|za (zw (c:=.fro _ _) Yi Z ⟨_,.head⟩ Z)<|z8 Z Z c1<|za (Gv.func Z Z)<|z8 Z Z c1<|ze (mF b.insts (by omega) (fun x hx=>uM f x (hb.2.2.2 x hx))) Z<|aq Z c1 Z<|ac Z<|z6<|ah<|ai Z<|ai Z<|zm (s:=37) Z (fun c2=>?_) (fun c2=>?_)
    ·refine z7 Z Z c2<|z7 Z Z c2<|z7 Z Z c2<|z7 Z Z c2<|z7 Z Z c2<|ap Z c2 Z<|z6<|yt Z Z<|ah<|ac Z<|z6<|zg<|zk (x:=.bool _) Z ?_
     exact jb (by unfold fm;rw[show f.blocks.all (iE f)=false from Bool.eq_false_iff.2 (dD hk2 (by rw[hbk];first|exact rq (by assumption)|exact rt (by assumption)|exact ru (by assumption)))];simp)
    ·refine z8 Z Z c2<|ab jm jh Z Z<|z8 Z Z c2<|za (zr jl Z Ya (by decide) Z Z)<|z8 Z Z c2<|za (Gv.loadAC (l:=[_,_,_,_]) isAgg49 Ya Z ⟨_,.head⟩ Z Z)<|z8 Z Z c2<|ze (DB _ _) Z<|z8 Z Z c2<|aF Z<|aq Z c2 Z<|z6<|zt Z (fun c3=>?_) (fun c3=>?_)
     ·refine ah<|ac Z<|z6<|zg<|zk (x:=.bool _) Z ?_
      exact jb (by unfold fm;rw[show f.blocks.all (iE f)=false from Bool.eq_false_iff.2 (dD hk2 (by rw[hbk];first|exact rq (by assumption)|exact rt (by assumption)|exact ru (by assumption)))];simp)
     ·refine zd<|aM<|aA Z Z<|aa Z<|z6 ?_
      exact ⟨k+1,dC,⟨congrArg (AV.int .i64) (by rw[hsucc];omega),rfl,trivial⟩,⟨_,(.drop (.refl _)),rfl⟩,⟨hk2,by rw[hsucc];omega,bZ hk2 hall (by rw[hbk];exact Ga (by assumption) (by assumption) (by assumption))⟩,by omega⟩
  ·have hkn:k=f.blocks.length:=by simp at ck;omega
   subst hkn
   rw[qv] at hall ⊢
   refine y9<|ah<|aa Z<|za (Gv.leq Z Z)<|ac Z<|z6<|zg<|zk (x:=.bool _) Z ?_
   exact jb (by unfold fm;rw[w7 hN,hall];simp;omega)
theorem tK (f:ad) (p:cS):kQ f p=true↔DC f p:=by
 unfold kQ DC
 simp only[w9,Bool.not_eq_true',decide_eq_false_iff_not,wc]
 constructor
 ·rintro ⟨⟨⟨⟨h1,h2⟩,h3⟩,h4⟩,h5⟩;exact ⟨h3,h2,by omega,h4,h5⟩
 ·rintro ⟨h3,h2,h1,h4,h5⟩;exact ⟨⟨⟨⟨by omega,h2⟩,h3⟩,h4⟩,h5⟩
theorem tL (t:Int):¬kz t=⟨#[]⟩↔0≤t∧t≤2:=by
 unfold kz
 constructor
 ·intro h
  by_cases h0:t=0
  ·omega
  ·by_cases h1:t=1
   ·omega
   ·by_cases h2:t=2
    ·omega
    ·rw[if_neg h0,if_neg h1,if_neg h2] at h;exact absurd rfl h
 ·intro h e
  have:t=0∨t=1∨t=2:=by omega
  rcases this with rfl|rfl|rfl<;>exact absurd e (by decide)
theorem DJ (f:ad) (b:bc):iE f b=true↔DD f b:=by
 unfold iE DD
 simp only[w9,Bool.not_eq_true',List.any_eq_false,Bool.not_eq_false]
 constructor
 ·rintro ⟨⟨h1,h2⟩,h3⟩
  exact ⟨fun p hp=>(tK f p).1 (by simpa using h1 p hp),fun x hx=>(rm f x).1 (by simpa using h2 x hx),h3⟩
 ·rintro ⟨h1,h2,h3⟩
  exact ⟨⟨fun p hp=>by simpa using (tK f p).2 (h1 p hp),fun x hx=>by simpa using (rm f x).2 (h2 x hx)⟩,h3⟩
theorem Gb {l:List ByteArray}:Ai l↔∀i (h:i<l.length),eQ l[i]=true∧l[i] ∉ l.take i:=by
 unfold Ai
 constructor<;>intro h i hi
 ·exact ⟨(h i hi).1,fun hm=>by have:=BK.2 hm;rw[(h i hi).2] at this;cases this⟩
 ·exact ⟨(h i hi).1,Bool.eq_false_iff.2 fun hm=>(h i hi).2 (BK.1 hm)⟩
theorem BM {f:ad} {i:Nat} (h:i<(dO f).length) (h':i<f.vars.length):(dO f)[i]=f.vars[i].name:=by
 have:(dO f)[i]?=some f.vars[i].name:=by unfold dO;rw[qy,qq h'];rfl
 rw[qq h] at this
 simpa using this
theorem BN {f:ad} {i:Nat} (h:i<(dY f).length) (h':i<f.blocks.length):(dY f)[i]=f.blocks[i].name:=by
 have:(dY f)[i]?=some f.blocks[i].name:=by unfold dY;rw[qy,qq h'];rfl
 rw[qq h] at this
 simpa using this
theorem iF (f:ad):fm f=decide (bx f):=by
 rw[qz,decide_eq_true_iff]
 unfold fm
 simp only[w9,decide_eq_true_iff,List.all_eq_true,DJ]
 unfold gl l8 bx sO
 simp only[Gb]
 constructor
 ·rintro ⟨⟨h1,h2,⟨g1,g2,g3,g4,g5⟩,h4,h5⟩,h6,h7⟩
  refine ⟨?_,h2,fun i h=>?_,fun i h=>?_,h7,h6⟩
  ·simp;omega
  ·have ht:=(tL _).1 (h1 i h)
   have hu:=h4 i (by unfold dO;simpa using h)
   have e:=BM (f:=f) (i:=i) (by unfold dO;simpa using h) h
   rw[e] at hu
   exact ⟨by rw[py];exact hu.1,ht.1,ht.2,fun s hs e2=>hu.2 (by unfold dO;rw[←List.map_take,←e2];exact hs)⟩
  ·have hu:=h5 i (by unfold dY;simpa using h)
   have e:=BN (f:=f) (i:=i) (by unfold dY;simpa using h) h
   rw[e] at hu
   exact ⟨by rw[py];exact hu.1,fun s hs e2=>hu.2 (by unfold dY;rw[←List.map_take,←e2];exact hs)⟩
 ·rintro ⟨h1,h2,h3,h4,h7,h6⟩
  simp at h1
  refine ⟨⟨fun i h=>(tL _).2 ⟨(h3 i h).2.1,(h3 i h).2.2.1⟩,h2,by omega,fun i h=>?_,fun i h=>?_⟩,h6,h7⟩
  ·have h':i<f.vars.length:=by simpa using h
   have e:=BM h h'
   rw[e]
   exact ⟨by rw[←py];exact (h3 i h').1,fun hm=>(h3 i h').2.2.2 _ (by unfold dO at hm;rw[←List.map_take] at hm;exact hm) rfl⟩
  ·have h':i<f.blocks.length:=by simpa using h
   have e:=BN h h'
   rw[e]
   exact ⟨by rw[←py];exact (h4 i h').1,fun hm=>(h4 i h').2 _ (by unfold dY at hm;rw[←List.map_take] at hm;exact hm) rfl⟩
end
section
open Go.Proofs.Tryz
open Go.Proofs Go.Lib Go.Shelf Go.RowKit
variable {E:World}
set_option maxRecDepth 20000
theorem bx.ends {f:ad} (h:bx f):bF f:=by
 obtain ⟨h1,_,_,_,_,h6⟩:=h
 unfold sO at h1
 simp only[Bool.or_eq_false_iff,decide_eq_false_iff_not] at h1
 refine ⟨by omega,fun b hb c hc=>?_⟩
 have ht:=(h6 b hb).2.2
 unfold cC at ht
 unfold cX at hc
 split at hc
 ·rename_i hk
  rw[if_pos hk] at ht
  simp only[w9,eZ,wc] at ht
  simp at hc;subst hc;exact ht.1.1
 ·rename_i hk
  rw[if_neg hk] at ht
  split at hc
  ·rename_i hk1
   rw[if_pos hk1] at ht
   simp only[w9,eZ,wc] at ht
   split at hc
   ·simp at hc;subst hc;exact ht.1.2
   ·simp at hc;rcases hc with rfl|rfl
    ·exact ht.1.2
    ·exact ht.2
  ·cases hc
def kA (f:ad) (b:bc):Bool:=b.phis.all (uH f)&&b.insts.all (iC f)&&eg f b.term
def aR (f:ad):Bool:=fm f&&f.blocks.all (kA f)
theorem small.shaped {f:ad} (hf:small f) (hL:aE E):aJ prog E 120 [.agg (bL f)] (.bool (fm f)):=
 ww f hf.ok (by have:=hf.1;omega) (by have:=hf.2.2.1;omega) (by have:=hf.2.1;omega) hf.names hL
theorem jV {f:ad} {t:gA} (h:cC f t=true) (hk:¬t.kind=0):bz f t.var=true:=by
 unfold cC at h
 rw[if_neg hk] at h
 split at h
 ·simp only[w9] at h;exact h.1.1
 ·split at h
  ·simp only[w9] at h;exact h.1
  ·cases h
theorem rv (f:ad) (hf:small f) (hL:aE E):aJ prog E 77 [.agg (bL f)] (.int .i64 (if aR f then 0 else 3)):=by
 have hok:=hf.ok
 refine zo func77 Z (by decide) Z<|ah<|yb (cs:=_) Z Z Z<|ay Z<|z6<|zc<|ah<|ab jm jh Z Z<|ze (hf.shaped hL) Z<|aF Z<|z6<|zt Z (fun cs=>?_) (fun cs=>?_)
 ·refine ah<|ay Z<|z6<|zg<|zk (x:=.int _ _) Z ?_
  unfold aR;rw[show fm f=false by simpa using cs];rfl
 ·have hsb:fm f=true:=by simpa using cs
  have hS:bx f:=by rw[iF] at hsb;exact wb hsb
  have hB:=hS.2.2.2.2.2
  have hfl:=hok.2.2.1.lt
  refine zd<|zc<|ah<|ae je Z Ze Z Z<|aI Zl Z<|ak jk Z<|aa Z<|z6<|zh<|ya (γ:=Nat) [1,13,14] (fun k=>[(15,.int .i64 k)]) (fun k=>[]) (fun k=>k≤f.blocks.length∧(f.blocks.take k).all (kA f)=true) (fun k=>f.blocks.length - k) 0 aG aC (⟨qt _,Z⟩) ?_
  rintro k ⟨hk,hall⟩
  refine ah<|aw Z Z<|z6<|zc<|zp Z (fun ck=>?_) (fun ck=>?_)
  ·have hk2:k<f.blocks.length:=by simp at ck;omega
   obtain ⟨b,hbk⟩:∃b,f.blocks[k]=b:=⟨_,rfl⟩
   have hget:f.blocks[k]?=some b:=by rw[qq hk2,hbk]
   have hmem:b∈f.blocks:=hbk▸qu hk2
   obtain ⟨hph,hin,htm⟩:=hB b hmem
   have hbad:kA f b=false→aR f=false:=fun h=>by unfold aR;rw[Bool.eq_false_iff.2 (dD hk2 (by rw[hbk];exact h))];simp
   have hs5:=hok.2.2.2 b hmem
   have hpl:=hs5.1.lt
   have hil:=hs5.2.1.lt
   refine zd<|zc<|zh<|ah<|za (bD k jk jv Z Z Z hget)<|ab Yk jv Z Z<|zy (cs:=[.str ⟨#[]⟩,.raw (.slice none 0 0),.raw (.slice none 0 0),.int .i64 0,.int .i64 0,.int .i64 0,.int .i64 0]) Zn Z Z<|fun i4=>zq jv Z Z Z Z Z Z .head Z<|zf (yd (t:=4) Z .head)<|z6<|zc<|ah<|ae jl Z Yh Z Z<|aI Yt Z<|ak Z2 Z<|aa Z<|z6<|zh<|ya (γ:=Nat) [1,4,13,14,15,20,21] (fun p=>[(22,.int .i64 p)]) (fun p=>[]) (fun p=>p≤b.phis.length∧(b.phis.take p).all (uH f)=true) (fun p=>b.phis.length - p) 0 aG aC (⟨qt _,Z⟩) ?_
   rintro p ⟨hp,hpall⟩
   refine ah<|aw Z Z<|z6<|zc<|zp Z (fun cp=>?_) (fun cp=>?_)
   ·have hp2:p<b.phis.length:=by simp at cp;omega
    have hpm:=qu hp2
    have hP:=hph _ hpm
    refine zd<|zc<|zh<|ah<|za (bD p Z2 jz Z Z Z (qq hp2))<|ab Yl jz Z Z<|zy (cs:=[.int .i64 0,.raw (.slice none 0 0),.raw (.slice none 0 0)]) Zb Z Z<|fun i6=>zq jz Z Z Z Z Z Z .head Z<|zf (yd (t:=6) Z .head)<|z6<|ah<|ab jm jh Z Z<|ab Yl jz Z Z<|ze (Dv f b.phis[p] (hs5.2.2.1 _ hpm) hP.2.2.2.1 hP.1) Z<|aF Z<|z6<|zt Z (fun cq=>?_) (fun cq=>?_)
    ·refine ah<|ay Z<|z6<|zg<|zk (x:=.int _ _) Z ?_
     rw[hbad (by unfold kA;rw[Bool.eq_false_iff.2 (dD hp2 (by simpa using cq))];rfl)];rfl
    ·refine zd<|aM<|aA Z Z<|aa Z<|z6 ?_
     exact ⟨p+1,km,aG,aC,⟨hp2,bZ hp2 hpall (by simpa using cq)⟩,by omega⟩
   ·have hpn:p=b.phis.length:=by simp at cp;omega
    subst hpn
    rw[qv] at hpall
    refine y9<|zc<|ah<|ae jl Z Y8 Z Z<|aI Yi Z<|ak jx Z<|aa Z<|z6<|zh<|ya (γ:=Nat) [1,4,13,14,15,32,33] (fun q=>[(34,.int .i64 q)]) (fun q=>[]) (fun q=>q≤b.insts.length∧(b.insts.take q).all (iC f)=true) (fun q=>b.insts.length - q) 0 aG aC (⟨qt _,Z⟩) ?_
    rintro q ⟨hq,hqall⟩
    refine ah<|aw Z Z<|z6<|zc<|zp Z (fun cp2=>?_) (fun cp2=>?_)
    ·have hq2:q<b.insts.length:=by simp at cp2;omega
     have hqm:=qu hq2
     have hI:=fk (hin _ hqm)
     have hId:eK b.insts[q].op=true→bz f b.insts[q].dst=true:=fun h=>by
      rcases hI.dst with ⟨d1,_⟩|⟨_,_,d3⟩
      ·rw[h] at d1;cases d1
      ·exact d3
     refine zd<|zc<|zh<|ah<|za (bD q jx Z9 Z Z Z (qq hq2))<|ab Ye Z9 Z Z<|zy (cs:=[.int .i64 0,.int .i64 0,.raw (.slice none 0 0),.int .i64 0]) Yf Z Z<|fun i8=>zq Z9 Z Z Z Z Z Z .head Z<|zf (yd (t:=8) Z .head)<|z6<|ah<|ab jm jh Z Z<|ab Ye Z9 Z Z<|ze (zX f b.insts[q] (List.all_eq_true.2 hI.args) hI.len hId) Z<|aF Z<|z6<|zt Z (fun cq=>?_) (fun cq=>?_)
     ·refine ah<|ay Z<|z6<|zg<|zk (x:=.int _ _) Z ?_
      rw[hbad (by unfold kA;rw[hpall,Bool.eq_false_iff.2 (dD hq2 (by simpa using cq))];rfl)];rfl
     ·refine zd<|aM<|aA Z Z<|aa Z<|z6 ?_
      exact ⟨q+1,km,aG,aC,⟨hq2,bZ hq2 hqall (by simpa using cq)⟩,by omega⟩
    ·have hqn:q=b.insts.length:=by simp at cp2;omega
     subst hqn
     rw[qv] at hqall
     refine y9<|ah<|ab jm jh Z Z<|ae jl Z Ya Z Z<|ab isAgg49 Ya Z Z<|ze (zZ f b.term (jV htm)) Z<|aF Z<|z6<|zt Z (fun ct=>?_) (fun ct=>?_)
     ·refine ah<|ay Z<|z6<|zg<|zk (x:=.int _ _) Z ?_
      rw[hbad (by unfold kA;rw[hpall,hqall];simpa using ct)];rfl
     ·refine zd<|aM<|aA Z Z<|aa Z<|z6 ?_
      exact ⟨k+1,dC,aG,aC,⟨hk2,bZ hk2 hall (by rw[hbk];unfold kA;rw[hpall,hqall];simpa using ct)⟩,by omega⟩
  ·have hkn:k=f.blocks.length:=by simp at ck;omega
   subst hkn
   rw[qv] at hall
   refine y9<|ah<|ay Z<|z6<|zg<|zk (x:=.int _ _) Z ?_
   unfold aR;rw[hsb,hall];rfl
end
end Go.Proofs.YtbanfokidalbaaaGreatDoor
