/- Typed; which blocks are reached; joined. Of programs that are little. -/
import Derived.Test.YtbbonnfjealmpaaGreatDoorZg
import Derived.Test.YtbbonnfjealmpaaGreatDoorZc
import Derived.Test.YtbbonnfjealmpaaGreatDoorZh
import Derived.Lib.MapLaws
import Derived.Test.YtbbonnfjealmpaaGreatDoorZf
set_option linter.unusedVariables false
set_option linter.unusedSimpArgs false
set_option linter.unusedSectionVars false
namespace Go.Proofs.YtbbonnfjealmpaaGreatDoor
section
open Go.Proofs.Tryz
open Go.Proofs Go.Lib Go.Shelf Go.RowKit
set_option maxRecDepth 20000
variable {E:World}
def fd (c:Int):Bool:=isLetterU c&&!decide (c=65533)
def rE (c:Int):Bool:=decide (48≤c)&&decide (c≤57)
def fm (c:Int):Bool:=fd c||(rE c||(decide (c=46)||decide (c=95)))
theorem nW (c:Int) (h1:-2147483648≤c) (h2:c≤2147483647) (hL:bx E):aP prog E 232 [.int .i32 c] (.bool (fd c)):=by
 refine zp func232 U (by decide) U<|ae<|ad U<|z2<|ae<|aa U<|ze (pp c h1 h2 hL) U<|aq U<|zt (s:=5) U (fun c1=>?_) (fun c1=>?_)
 ·refine z7 U U c1<|aa U<|z7 U U c1<|aO U U<|au U c1 U<|ad U<|z2<|zg<|zm (x:=.bool _) U ?_
  exact jb (by simp_all[fd])
 ·refine z6 U U c1<|z6 U U c1<|aw U c1 U<|ad U<|z2<|zg<|zm (x:=.bool _) U ?_
  exact jb (by simp_all[fd])
theorem xu (c:Int):aP prog E 243 [.int .i32 c] (.bool (rE c)):=by
 refine zp func243 U (by decide) U<|ae<|ad U<|z2<|ae<|aa U<|z8 (q9 U U)<|aq U<|zt (s:=5) U (fun c2=>?_) (fun c2=>?_)
 ·refine z7 U U c2<|aa U<|z7 U U c2<|z8 (Gv.leq U U)<|au U c2 U<|ad U<|z2<|zg<|zm (x:=.bool _) U ?_
  exact jb (by simp_all[rE]<;>(intros;omega))
 ·refine z6 U U c2<|z6 U U c2<|aw U c2 U<|ad U<|z2<|zg<|zm (x:=.bool _) U ?_
  exact jb (by simp_all[rE]<;>(intros;omega))
theorem pq (c:Int) (h1:-2147483648≤c) (h2:c≤2147483647) (hL:bx E):aP prog E 233 [.int .i32 c] (.bool (fm c)):=by
 refine zp func233 U (by decide) U<|ae<|ad U<|z2<|ae<|aa U<|ze (nW c h1 h2 hL) U<|aq U<|zt (s:=5) U (fun c3=>?_) (fun c3=>?_)
 ·refine z6 U U c3<|z6 U U c3<|au U c3 U<|aq U<|z6 U U U<|z6 U U U<|au U U U<|aq U<|z6 U U U<|z6 U U U<|au U U U<|ad U<|z2<|zg<|zm (x:=.bool _) U ?_
  exact jb (by simp_all[fm])
 ·refine z7 U U c3<|aa U<|z7 U U c3<|ze (xu _) U<|aw U c3 U<|aq U<|zt (s:=9) U (fun c4=>?_) (fun c4=>?_)
  ·refine z6 U U c4<|z6 U U c4<|au U c4 U<|aq U<|z6 U U U<|z6 U U U<|au U U U<|ad U<|z2<|zg<|zm (x:=.bool _) U ?_
   exact jb (by simp_all[fm])
  ·refine z7 U U c4<|aa U<|z7 U U c4<|ao U U<|aw U c4 U<|aq U<|zt (s:=13) U (fun c5=>?_) (fun c5=>?_)
   ·refine z6 U U c5<|z6 U U c5<|au U c5 U<|ad U<|z2<|zg<|zm (x:=.bool _) U ?_
    exact jb (by simp_all[fm])
   ·refine z7 U U c5<|aa U<|z7 U U c5<|ao U U<|aw U c5 U<|ad U<|z2<|zg<|zm (x:=.bool _) U ?_
    exact jb (by simp_all[fm])
def bU (s:ByteArray) (p:Nat):List Int:=if h:p<s.size then ((Utf8.decode s p).1:Int)::bU s (p+(Utf8.decode s p).2) else[]
termination_by s.size - p
decreasing_by have:=(eT s p).1;omega
theorem fx {s:ByteArray} {p:Nat} (h:p<s.size):bU s p=((Utf8.decode s p).1:Int)::bU s (p+(Utf8.decode s p).2):=by rw[bU,dif_pos h]
theorem dJ {s:ByteArray} {p:Nat} (h:¬p<s.size):bU s p=[]:=by rw[bU,dif_neg h]
theorem tE (s:ByteArray):∀k p,s.size - p≤k→(bU s p).length≤k:=by
 intro k
 induction k with
 |zero=>intro p h;rw[dJ (by omega)];simp
 |succ k ih=>
  intro p h
  by_cases hp:p<s.size
  ·rw[fx hp]
   have:=(eT s p).1
   have:=ih (p+(Utf8.decode s p).2) (by omega)
   simp;omega
  ·rw[dJ hp];simp
theorem AD (s:ByteArray) (hs:s.size≤140737488355328):aP prog E 234 [.str s] (.int .i64 (bU s 0).length):=by
 have h0:=tE s s.size 0 (by omega)
 refine zp func234 U (by decide) U<|ae<|am U<|z2<|ae<|am U<|z2<|zb<|ae<|z8 (yt (v:=.str _) U)<|ay.rangeT Zy U<|fun i5=>z2<|zi<|y5 (γ:=Nat × Nat) [5] (fun g=>[(3,.i g.2)]) (fun g=>[(i5,.iter s g.1)]) (fun g=>g.2+(bU s g.1).length=(bU s 0).length) (fun g=>s.size - g.1) (0,0) aL aE (by simp) ?_
 rintro ⟨p,n⟩ hp
 try dsimp only at *
 by_cases hlt:p<s.size
 ·have hd:=(eT s p).1
  rw[fx hlt] at hp
  simp only[List.length_cons] at hp
  refine ae<|ay.nextT U .head hlt<|z8 (wz U U)<|z2<|zb<|yr U U<|zf<|zi<|aW<|aa U<|aC U U<|am U<|z2 ?_
  exact ⟨(p+(Utf8.decode s p).2,n+1),aL,aL,aE,by dsimp only;omega,by dsimp only;omega⟩
 ·rw[dJ hlt] at hp
  simp only[List.length_nil] at hp
  refine ae<|ay.nextTover U .head hlt<|z8 (wz U U)<|z2<|zb<|yq U U<|y4<|ae<|aa U<|am U<|z2<|zg<|zm (x:=.int _ _) U ?_
  exact congrArg (AV.int .i64) (by omega)
def rF (s:ByteArray) (p:Nat):Bool:=if h:p<s.size then (if (decide (p=0)&&!fd ((Utf8.decode s p).1:Int))||!fm ((Utf8.decode s p).1:Int) then false else rF s (p+(Utf8.decode s p).2)) else (decide (¬s=⟨#[]⟩)&&decide (((bU s 0).length:Int)≤16))
termination_by s.size - p
decreasing_by have:=(eT s p).1;omega
def fo (s:ByteArray):Bool:=rF s 0
theorem AE (s:ByteArray) (hs:s.size≤140737488355328) (hL:bx E):aP prog E 215 [.str s] (.bool (fo s)):=by
 refine zp func215 U (by decide) U<|ae<|ad U<|z2<|zb<|ae<|z8 (yt (v:=.str _) U)<|ay.rangeT Zy U<|fun i6=>z2<|zi<|y5 (γ:=Nat) [0,6] (fun p=>[]) (fun p=>[(i6,.iter s p)]) (fun p=>rF s p=fo s) (fun p=>s.size - p) 0 trivial aE (U) ?_
 rintro p hp
 by_cases hlt:p<s.size
 ·obtain ⟨hd1,hd2⟩:=eT s p
  have hstep:=hp
  rw[rF,dif_pos hlt] at hstep
  refine ae<|ay.nextT U .head hlt<|z8 (wz U U)<|z2<|zb<|yr U U<|zf<|zi<|ae<|z8 (nC U U)<|z8 (nC U U)<|am U<|am U<|z2<|ae<|aa U<|ao U U<|aq U<|zt (s:=13) U (fun c6=>?_) (fun c6=>?_)
  ·refine z7 U U c6<|aa U<|z7 U U c6<|ze (nW _ (by omega) (by omega) hL) U<|z7 U U c6<|aJ U<|au U c6 U<|aq U<|zt (s:=18) U (fun c7=>?_) (fun c7=>?_)
   ·refine z6 U U c7<|z6 U U c7<|z6 U U c7<|au U c7 U<|z2<|yr U U<|ae<|ad U<|z2<|zg<|zm (x:=.bool _) U ?_
    rw[if_pos (by simp_all<;>omega)] at hstep;exact jb hstep
   ·refine z7 U U c7<|aa U<|z7 U U c7<|ze (pq _ (by omega) (by omega) hL) U<|z7 U U c7<|aJ U<|aw U c7 U<|z2<|zw U (fun c8=>?_) (fun c8=>?_)
    ·refine ae<|ad U<|z2<|zg<|zm (x:=.bool _) U ?_
     rw[if_pos (by simp_all<;>omega)] at hstep;exact jb hstep
    ·refine zf ?_
     exact ⟨p+(Utf8.decode s p).2,b7,trivial,aE,by rw[if_neg (by simp_all<;>omega)] at hstep;exact hstep,by omega⟩
  ·refine z6 U U c6<|z6 U U c6<|z6 U U c6<|aw U c6 U<|aq U<|z7 U U U<|aa U<|z7 U U U<|ze (pq _ (by omega) (by omega) hL) U<|z7 U U U<|aJ U<|aw U U U<|z2<|zw U (fun c9=>?_) (fun c9=>?_)
   ·refine ae<|ad U<|z2<|zg<|zm (x:=.bool _) U ?_
    rw[if_pos (by simp_all<;>omega)] at hstep;exact jb hstep
   ·refine zf ?_
    exact ⟨p+(Utf8.decode s p).2,b7,trivial,aE,by rw[if_neg (by simp_all<;>omega)] at hstep;exact hstep,by omega⟩
 ·rw[rF,dif_neg hlt] at hp
  refine ae<|ay.nextTover U .head hlt<|z8 (wz U U)<|z2<|zb<|yq U U<|y4<|ae<|z8 (yt (v:=.str _) U)<|z8 (Gv.neqT U U)<|aq U<|zt (s:=25) U (fun c10=>?_) (fun c10=>?_)
  ·refine z7 U U c10<|z8 (yt (v:=.str _) U)<|z7 U U c10<|ze (AD _ (by assumption)) U<|z7 U U c10<|z8 (Gv.leq U U)<|au U c10 U<|ad U<|z2<|zg<|zm (x:=.bool _) U ?_
   rw[←hp];exact jb (by simp_all<;>(try omega))
  ·refine z6 U U c10<|z6 U U c10<|z6 U U c10<|aw U c10 U<|ad U<|z2<|zg<|zm (x:=.bool _) U ?_
   rw[←hp];exact jb (by simp_all<;>(try omega))
end
section
open Go.Proofs.Tryz
open Go.Proofs Go.Lib Go.Shelf Go.RowKit
set_option maxRecDepth 20000
variable {E:World}
def kQ (t:Int):ByteArray:=if t=0 then ⟨#[105,110,116]⟩ else if t=1 then ⟨#[98,111,111,108]⟩ else if t=2 then ⟨#[97,114,114]⟩ else ⟨#[]⟩
theorem H0 (s:ByteArray):oI s.data.toList=s:=by unfold oI;simp
def B7:List Int→Bool
 |[]=>false
 |c::rs=>fd c&&(rs.all fm&&decide (rs.length+1≤16))
theorem vu {c:Int} (h:fd c=true):fm c=true:=by unfold fm;rw[h];rfl
theorem Fd (s:ByteArray):∀(n p:Nat),s.size - p≤n→0<p→p≤s.size→rF s p=((bU s p).all fm&&decide ((bU s 0).length≤16)):=by
 intro n
 induction n with
 |zero=>
  intro p h hp hps
  have hne:¬s=⟨#[]⟩:=fun e=>by subst e;have:p≤0:=hps;omega
  rw[rF,dif_neg (by omega),dJ (p:=p) (by omega)]
  simp[hne];omega
 |succ n ih=>
  intro p h hp hps
  by_cases hlt:p<s.size
  ·have hd:=(eT s p).1
   have hw:p+(Utf8.decode s p).2≤s.size:=by
    have:=decodeL_le (s.data.toList.drop p) (by intro e;have:=congrArg List.length e;rw[List.length_drop] at this;have h2:s.data.toList.length=s.size:=Array.length_toList;simp only[List.length_nil] at this;omega)
    rw[decodeL_drop,List.length_drop] at this
    have h2:s.data.toList.length=s.size:=Array.length_toList
    omega
   rw[rF,dif_pos hlt,fx hlt,List.all_cons]
   have hp0:decide (p=0)=false:=wg (by omega)
   rw[hp0,Bool.false_and,Bool.false_or]
   cases hi:fm ((Utf8.decode s p).1:Int) with
   |false=>simp
   |true=>rw[if_neg (by simp),ih _ (by omega) (by omega) hw];simp
  ·have hne:¬s=⟨#[]⟩:=fun e=>by subst e;have:p≤0:=hps;omega
   rw[rF,dif_neg hlt,dJ (p:=p) hlt]
   simp[hne];omega
theorem H1 {s:ByteArray} {p:Nat} (hlt:p<s.size):p+(Utf8.decode s p).2≤s.size:=by
 have h2:s.data.toList.length=s.size:=Array.length_toList
 have:=decodeL_le (s.data.toList.drop p) (by intro e;have:=congrArg List.length e;rw[List.length_drop] at this;simp only[List.length_nil] at this;omega)
 rw[decodeL_drop,List.length_drop] at this
 omega
theorem AF (s:ByteArray):fo s=B7 (bU s 0):=by
 unfold fo
 by_cases hlt:0<s.size
 ·have hd:=(eT s 0).1
  have hw:=H1 hlt
  have hr:=fx hlt
  have hl:=congrArg List.length hr
  rw[List.length_cons] at hl
  rw[rF,dif_pos hlt]
  have h2:B7 (bU s 0)=(fd ((Utf8.decode s 0).1:Int)&&((bU s (0+(Utf8.decode s 0).2)).all fm&&decide ((bU s (0+(Utf8.decode s 0).2)).length+1≤16))):=by rw[hr];rfl
  rw[h2]
  cases hc:fd ((Utf8.decode s 0).1:Int) with
  |false=>simp
  |true=>
   rw[vu hc,if_neg (by simp),Fd s _ _ (Nat.le_refl _) (by omega) hw,hl];rfl
 ·rw[rF,dif_neg hlt,dJ hlt]
  have:s=⟨#[]⟩:=by
   have h2:s.data.toList.length=s.size:=Array.length_toList
   have h3:s.data.toList=[]:=wa (by omega)
   rw[←H0 s,h3];rfl
  simp[this,B7]
theorem B8 (k:Nat):(decide ((1:Int)≤((k+1:Nat):Int))&&decide (((k+1:Nat):Int)≤16))=(([]:List Int).all fm&&decide (k+1+([]:List Int).length≤16)):=by
 rw[we (by omega),Bool.true_and]
 show _=(true&&_)
 rw[Bool.true_and,decide_eq_decide]
 show ((k+1:Nat):Int)≤16↔k+1+0≤16
 omega
theorem vv (s:ByteArray):∀(n p k:Nat),s.size - p≤n→fk s p (k+1)=((bU s p).all fm&&decide (k+1+(bU s p).length≤16)):=by
 intro n
 induction n with
 |zero=>
  intro p k h
  rw[fk,dif_neg (by omega),dJ (by omega)]
  exact B8 k
 |succ n ih=>
  intro p k h
  by_cases hlt:p<s.size
  ·have hd:=(eT s p).1
   rw[fk,dif_pos hlt,fx hlt,List.all_cons]
   have ho:dZ ((Utf8.decode s p).1:Int) (k+1)=fm ((Utf8.decode s p).1:Int):=by
    unfold dZ fm fd rE
    have:decide (((k+1:Nat):Int)=0)=false:=wg (by omega)
    rw[this];simp[Bool.or_assoc]
   rw[ho]
   cases hi:fm ((Utf8.decode s p).1:Int) with
   |false=>simp
   |true=>rw[if_pos rfl,ih _ _ (by omega),Bool.true_and,List.length_cons];congr 2;simp;omega
  ·rw[fk,dif_neg hlt,dJ hlt]
   exact B8 k
theorem H2 (s:ByteArray):nT s=B7 (bU s 0):=by
 unfold nT
 by_cases hlt:0<s.size
 ·rw[fk,dif_pos hlt,fx hlt]
  have ho:dZ ((Utf8.decode s 0).1:Int) 0=fd ((Utf8.decode s 0).1:Int):=by unfold dZ fd;simp
  rw[ho]
  show _=(fd ((Utf8.decode s 0).1:Int)&&_)
  cases hc:fd ((Utf8.decode s 0).1:Int) with
  |false=>simp
  |true=>rw[if_pos rfl,vv s _ _ _ (Nat.le_refl _),Bool.true_and];congr 2;simp;omega
 ·rw[fk,dif_neg hlt,dJ hlt];rfl
theorem qC (s:ByteArray):nT s=fo s:=by rw[H2,AF]
structure dC (f:ab) (x:aB):Prop where
 op:0≤x.op∧x.op≤26
 len:x.args.length=(aX x.op).length
 dst:(bE x.op=false∧x.dst=-1)∨(bE x.op=true∧x.dst≠-1∧bt f x.dst=true)
 num:qS x.op=false→x.num=0
 args:∀a∈x.args,bt f a=true
theorem gh {f:ab} {x:aB} (h:rA f x):dC f x:=by
 obtain ⟨h1,h2,h3,h4⟩:=h
 have hw:=uy ⟨h1,h2⟩
 unfold oK at h3
 simp only[Bool.or_eq_false_iff,Bool.not_eq_false',wm,Bool.and_eq_false_iff,beq_iff_eq] at h3
 obtain ⟨g1,g2,g3,g4⟩:=h3
 refine ⟨⟨h1,h2⟩,by rw[oL];omega,?_,fun hn=>?_,List.all_eq_true.1 h4⟩
 ·rw[mx]
  by_cases hd:x.dst=-1
  ·left
   rw[we hd] at g2
   exact ⟨by rw[g2];rfl,hd⟩
  ·right
   rw[wg hd] at g2
   refine ⟨by rw[g2];rfl,hd,?_⟩
   rcases g3 with g|g
   ·exact absurd g hd
   ·exact g
 ·rcases g4 with g|g
  ·exact g
  ·rw[hw,hn] at g;cases g
theorem xv (t:Int):aP prog E 189 [.int .i64 t] (.str (kQ t)):=by
 refine zp func189 U (by decide) U<|ae<|z8 (q8 (v:=.str _) U)<|z2<|zb<|ae<|aa U<|z2<|zi<|ae<|ao U U<|ad U<|z2<|zw U (fun c1=>?_) (fun c1=>?_)
 ·refine ae<|z8 (q8 (v:=.str _) U)<|z2<|zg<|zm (x:=.str _) U ?_
  exact congrArg AV.str (by simp_all[kQ])
 ·refine ae<|ao U U<|ad U<|z2<|zw U (fun c2=>?_) (fun c2=>?_)
  ·refine ae<|z8 (q8 (v:=.str _) U)<|z2<|zg<|zm (x:=.str _) U ?_
   exact congrArg AV.str (by simp_all[kQ])
  ·refine ae<|ao U U<|ad U<|z2<|zw U (fun c3=>?_) (fun c3=>?_)
   ·refine ae<|z8 (q8 (v:=.str _) U)<|z2<|zg<|zm (x:=.str _) U ?_
    exact congrArg AV.str (by simp_all[kQ])
   ·refine zf<|ae<|z8 (q8 (v:=.str _) U)<|z2<|zg<|zm (x:=.str _) U ?_
    exact congrArg AV.str (by simp_all[kQ])
end
section
open Go.Proofs.Tryz
open Go.Proofs Go.Lib Go.Shelf Go.RowKit
theorem B9:dn prog 246 9 1 1 [.e]:=⟨_,Yw,Y6,zeroValue9,by decide,by decide,by kernel_rfl⟩
set_option maxRecDepth 20000
variable {E:World}
def xw (s:ByteArray) (l:List ByteArray):Bool:=l.any fun t=>decide (t=s)
theorem Ca {s:ByteArray} {l:List ByteArray}:xw s l=true↔s∈l:=by
 unfold xw;rw[List.any_eq_true]
 constructor
 ·rintro ⟨x,hx,h⟩;have h:x=s:=by simpa using h
  exact h▸hx
 ·intro h;exact ⟨s,h,by simp⟩
theorem Fe {s t:ByteArray} {l:List ByteArray}:xw s (l++[t])=(xw s l||decide (t=s)):=by unfold xw;rw[List.any_append];simp
def AG (l:List ByteArray):Prop:=∀i (h:i<l.length),fo l[i]=true∧xw l[i] (l.take i)=false
instance (l:List ByteArray):Decidable (AG l):=by unfold AG;infer_instance
theorem Cb {t:ByteArray} {l:List ByteArray} {mt:Int} (ht:mt=if xw t l=true then 1 else 0) (hc:decide (0<mt)=false):xw t l=false:=by
 have hc:=wl hc
 cases h:xw t l with
 |true=>rw[h] at ht;simp at ht;omega
 |false=>rfl
theorem Ff {s t:ByteArray} {l:List ByteArray} {m:Option Int} {mt:Int} (hs:m.getD 0=if xw s l=true then 1 else 0) (ht:mt=if xw t l=true then 1 else 0) (hc:decide (0<mt)=false) :
  (if s=t then some (mt+1) else m).getD 0=if (xw s l||decide (t=s))=true then 1 else 0:=by
 have h:=Cb ht hc
 rw[h] at ht
 have ht:mt=0:=by simpa using ht
 by_cases e:s=t
 ·subst e;simp[ht]
 ·rw[if_neg e,hs]
  have e2:¬t=s:=fun h=>e h.symm
  simp[e2]
theorem Fg {l:List ByteArray} {k:Nat} (hn:∀i (h:i<l.length),i<k→fo l[i]=true∧xw l[i] (l.take i)=false) (hk:k<l.length) (h1:fo l[k]=true) (h2:xw l[k] (l.take k)=false) :
  ∀i (h:i<l.length),i<k+1→fo l[i]=true∧xw l[i] (l.take i)=false:=fun i h hi=>by
 by_cases e:i=k
 ·subst e;exact ⟨h1,h2⟩
 ·exact hn i h (by omega)
theorem pt (l:List ByteArray) (hl:l.length≤100000000) (hs:∀s∈l,s.size≤140737488355328) (hL:bx E):aP prog E 190 [.fro 1 (l.map tD)] (.bool (decide (AG l))):=by
 refine zp func190 U (by decide) U<|ae<|ad U<|z2<|ae<|ay.makeMap<|fun b6=>z8 (q8 (v:=kj _) U)<|z2<|zb<|ae<|bd U<|aj Yw U<|aa U<|z2<|zi<|y5 (γ:=Nat × List (ByteArray × Int)) [3,7,8] (fun g=>[(9,.i g.1)]) (fun g=>[(0,CS b6 g.2)]) (fun g=>g.1≤l.length∧(∀i (h:i<l.length),i<g.1→fo l[i]=true∧xw l[i] (l.take i)=false)∧∀s,(lB s g.2).getD 0=if xw s (l.take g.1)=true then 1 else 0) (fun g=>l.length - g.1) (0,[]) aL aE (⟨w2 _,fun i h h2=>absurd h2 (Nat.not_lt_zero _),fun s=>U⟩) ?_
 rintro ⟨k,es⟩ ⟨hk,hn,hm⟩
 try dsimp only at *
 refine ae<|ap U U<|z2<|zb<|zn U (fun ck=>?_) (fun ck=>?_)
 ·have hk2:k<l.length:=by omega
  have hmk:=hm l[k]
  have hz:=hs _ (w3 hk2)
  refine zf<|zb<|zi<|ae<|z8 (bB k Yw Y6 U U U (qx hk2))<|z8 (qe (c:=.str _) Yk U)<|z8 (q8 (v:=.str _) U)<|z2<|zb<|ae<|z8 (yt (v:=.str _) U)<|ze (AE _ hz hL) U<|aJ U<|aq U<|zt (s:=16) U (fun c1=>?_) (fun c1=>?_)
  ·refine z6 U U c1<|z6 U U c1<|z6 U U c1<|z6 U U c1<|au U c1 U<|z2<|yr U U<|ae<|ad U<|z2<|zg<|zm (x:=.bool _) U ?_
   exact jb (wg fun h=>by have h:=h k hk2;simp_all).symm
  ·refine z7 U U c1<|z8 (yt (v:=kj _) U)<|z7 U U c1<|z8 (yt (v:=.str _) U)<|z7 U U c1<|z8 (Gv.lookup1S underlying277 Zy Xe U U ⟨_,.head⟩)<|z7 U U c1<|be U U<|aw U c1 U<|z2<|zw U (fun c2=>?_) (fun c2=>?_)
   ·refine ae<|ad U<|z2<|zg<|zm (x:=.bool _) U ?_
    exact jb (wg fun h=>by have h:=h k hk2;simp_all).symm
   ·refine zf<|aW<|z8 (yt (v:=kj _) U)<|z8 (yt (v:=.str _) U)<|z8 (Gv.lookup1S underlying277 Zy Xe U U ⟨_,.head⟩)<|z8 (Gv.add U U (by first|(unfold lz;omega)|(unfold lz;rw[hmk];split<;>omega)))<|ay.mapSet underlying277 Zy U U U .head<|z2<|aW<|z8 (Gv.add U U (by first|(unfold lz;omega)|(unfold lz;rw[hmk];split<;>omega)))<|aa U<|z2 ?_
    exact ⟨(k+1,pL l[k] ((lB l[k] es).getD 0+1) es),bW,aL,aE,⟨hk2,Fg hn hk2 (by simpa using c1) (Cb hmk (by assumption)),fun s=>by dsimp only;rw[wM,qy hk2,Fe];exact Ff (hm s) hmk (by assumption)⟩,by dsimp only;omega⟩
 ·have hkn:k=l.length:=by omega
  refine y4<|ae<|ad U<|z2<|zg<|zm (x:=.bool _) U ?_
  exact jb (we fun i h=>hn i h (by omega)).symm
theorem map_take {α:Type} {g:α→ByteArray} {l:List α} {k:Nat} (h:k<l.length):(l.map g).take (k+1)=(l.map g).take k++[g l[k]]:=by
 rw[qy (by simpa using h)];simp
def d9 (f:ab):List ByteArray:=f.vars.map lA.name
def eu (f:ab):List ByteArray:=f.blocks.map aK.name
@[simp] theorem Mo (f:ab):(d9 f).length=f.vars.length:=by unfold d9;simp
@[simp] theorem Mp (f:ab):(eu f).length=f.blocks.length:=by unfold eu;simp
theorem H3 {f:ab} {k:Nat} (h:k<f.vars.length):(d9 f).take (k+1)=(d9 f).take k++[f.vars[k].name]:=map_take h
theorem H4 {f:ab} {k:Nat} (h:k<f.blocks.length):(eu f).take (k+1)=(eu f).take k++[f.blocks[k].name]:=map_take h
def H5 (f:ab):Prop:=∀i (h:i<f.params.length),f.params[i]=(i:Int)
instance (f:ab):Decidable (H5 f):=by unfold H5;infer_instance
def H6 (f:ab):Prop:=∀i (h:i<f.vars.length),¬kQ f.vars[i].ty=⟨#[]⟩
instance (f:ab):Decidable (H6 f):=by unfold H6;infer_instance
def mQ (f:ab):Prop:=f.vars.length≤512∧f.params.length≤8∧f.params.length≤f.vars.length∧1≤f.blocks.length∧f.blocks.length≤64
instance (f:ab):Decidable (mQ f):=by unfold mQ;infer_instance
def gF (f:ab):Prop:=H6 f∧H5 f∧mQ f∧AG (d9 f)∧AG (eu f)
instance (f:ab):Decidable (gF f):=by unfold gF;infer_instance
theorem xx (f:ab) (h1:f.vars.length≤100000000) (h2:f.blocks.length≤100000000) (hp:f.params.length≤100000000) (hn:nV f) (hL:bx E):aP prog E 149 [.agg (bw f)] (.bool (decide (gF f))):=by
 have hnv:(d9 f).length=f.vars.length:=by unfold d9;simp
 have hnb:(eu f).length=f.blocks.length:=by unfold eu;simp
 refine zp func149 U (by decide) U<|ae<|y6 (cs:=_) U U U<|ad U<|z2<|ae<|cE U<|cE U<|z2<|gc (t:=3) (k:=1) (T:=9) U<|fun i3=>gc (t:=4) (k:=1) (T:=9) U<|fun i4=>zb<|ae<|ak je U Zn U U<|aI Zz U<|aj Z7 U<|aa U<|z2<|zi<|y5 (γ:=Nat × Nat) [1,4,12,13] (fun g=>[(3,.own g.2 g.1),(14,.i g.1)]) (fun g=>[(i4,.grow 1 9 []),(g.2,.grow 1 9 ((((d9 f).take g.1).map tD).flatten))]) (fun g=>g.1≤f.vars.length∧∀i (h:i<f.vars.length),i<g.1→¬kQ f.vars[i].ty=⟨#[]⟩) (fun g=>f.vars.length - g.1) (0,i3) b7 aE (⟨w2 _,fun i h h2=>absurd h2 (Nat.not_lt_zero _)⟩) ?_
 rintro ⟨k,i⟩ ⟨hk,hT⟩
 try dsimp only at *
 refine ae<|ap U U<|z2<|zb<|zn U (fun ck=>?_) (fun ck=>?_)
 ·have hk2:k<f.vars.length:=by simp at ck;omega
  refine zf<|zb<|zi<|ae<|z8 (bB k Z7 Yf U U U (qx hk2))<|ac isAgg48 Yf U U<|zu (cs:=[.e,.int .i64 0]) zeroValue48 U U<|fun i6=>zj Yf U U U U U U .head U<|z2<|ae<|bL U<|z8 (zh Zt U Y6 (by decide) U U)<|z8 (zq (c:=.str _) Yk U ⟨_,.head⟩ U)<|zx (rows:=[[_]]) B9 U U U U U<|yg (k:=1) Yw type9 U U U U U (fun _=>.t2) (by rw[d6 (k:=1) (fun _=>rfl),wd];omega) (by decide) U (by show (_+1)*16≤_;omega) (by show _+1≤_;omega)<|fun i22=>z8 (ei U)<|z2<|ae<|z8 (zh Zt U X9 (by decide) U U)<|z8 (zq (c:=.int _ _) Xj U ⟨_,.head⟩ U)<|ze (xv _) U<|z8 (q7 U U)<|z2<|zn U (fun ct=>?_) (fun ct=>?_)
  ·refine ae<|ad U<|z2<|zg<|zm (x:=.bool _) U ?_
   exact jb (wg fun h=>h.1 k hk2 (by simpa using ct)).symm
  ·refine zf<|aW<|aC U U<|aa U<|z2 ?_
   exact ⟨(k+1,i22),fC,b7,⟨_,(.drop (.refl _)),by dsimp only;rw[←eS (enc:=tD) (H3 hk2)];rfl⟩,⟨hk2,fun i h h2=>by by_cases e:i=k;(subst e;simpa using ct);exact hT i h (by dsimp only at h2;omega)⟩,by dsimp only;omega⟩
 ·have hkn:k=f.vars.length:=by simp at ck;omega
  subst hkn
  rw[List.take_of_length_le (by omega:(d9 f).length≤f.vars.length)]
  have hTys:H6 f:=fun i h=>hT i h h
  refine y4<|zb<|ae<|ak je U Zd U U<|aI Zf U<|aj ju U<|aa U<|z2<|zi<|y5 (γ:=Nat × Nat) [1,3,29,30] (fun g=>[(4,.own g.2 g.1),(31,.i g.1)]) (fun g=>[(g.2,.grow 1 9 ((((eu f).take g.1).map tD).flatten)),(i,.grow 1 9 (((d9 f).map tD).flatten))]) (fun g=>g.1≤f.blocks.length) (fun g=>f.blocks.length - g.1) (0,i4) b7 aE (w2 _) ?_
  rintro ⟨k,j⟩ hk
  try dsimp only at *
  refine ae<|ap U U<|z2<|zb<|zn U (fun ck=>?_) (fun ck=>?_)
  ·have hk2:k<f.blocks.length:=by simp at ck;omega
   refine zf<|zb<|zi<|ae<|z8 (bB k ju Z2 U U U (qx hk2))<|ac Yc Z2 U U<|zu (cs:=[.e,.n,.n,.int .i64 0,.int .i64 0,.int .i64 0,.int .i64 0]) Zh U U<|fun i8=>zj Z2 U U U U U U .head U<|z2<|aW<|bL U<|z8 (zh jr U Y6 (by decide) U U)<|z8 (zq (c:=.str _) Yk U ⟨_,.head⟩ U)<|zx (rows:=[[_]]) B9 U U U U U<|yg (k:=1) Yw type9 U U U U U (fun _=>.t1) (by rw[d6 (k:=1) (fun _=>rfl),wd];omega) (by decide) U (by show (_+1)*16≤_;omega) (by show _+1≤_;omega)<|fun i39=>z8 (ei U)<|z2<|aW<|aC U U<|aa U<|z2 ?_
   exact ⟨(k+1,i39),fC,b7,⟨_,(.drop (.refl _)),by dsimp only;rw[←eS (enc:=tD) (H4 hk2)];rfl⟩,hk2,by dsimp only;omega⟩
  ·have hkn:k=f.blocks.length:=by simp at ck;omega
   subst hkn
   rw[List.take_of_length_le (by omega:(eu f).length≤f.blocks.length)]
   refine y4<|zb<|ae<|ak je U jh U U<|aI jx U<|aj j7 U<|aa U<|z2<|zi<|y5 (γ:=Nat) [1,3,4,42,43] (fun k=>[(44,.i k)]) (fun k=>[(j,.grow 1 9 (((eu f).map tD).flatten)),(i,.grow 1 9 (((d9 f).map tD).flatten))]) (fun k=>k≤f.params.length∧∀i (h:i<f.params.length),i<k→f.params[i]=(i:Int)) (fun k=>f.params.length - k) 0 aL aE (⟨w2 _,fun i h h2=>absurd h2 (Nat.not_lt_zero _)⟩) ?_
   rintro k ⟨hk,hP⟩
   refine ae<|ap U U<|z2<|zb<|zn U (fun ck=>?_) (fun ck=>?_)
   ·have hk2:k<f.params.length:=by simp at ck;omega
    refine zf<|zb<|zi<|ae<|aa U<|z8 (bB k j7 j9 U U U (qx hk2))<|aA jg U<|am U<|am U<|z2<|ae<|aa U<|aa U<|aO U U<|z2<|zw U (fun cp=>?_) (fun cp=>?_)
    ·refine ae<|ad U<|z2<|zg<|zm (x:=.bool _) U ?_
     exact jb (wg fun h=>by have:=h.2.1 k hk2;simp[this] at cp).symm
    ·refine zf<|aW<|aC U U<|aa U<|z2 ?_
     exact ⟨k+1,mI,aL,aE,⟨hk2,fun i h h2=>by by_cases e:i=k;(subst e;simpa using cp);exact hP i h (by omega)⟩,by omega⟩
   ·have hkn:k=f.params.length:=by simp at ck;omega
    subst hkn
    have hPar:H5 f:=fun i h=>hP i h h
    refine y7 (aR.know (t:=3) (rows:=(d9 f).map tD) U .t1 (by intro r hr;obtain ⟨x,_,rfl⟩:=List.mem_map.1 hr;rfl) (by decide) (by simp))<|y7 (aR.know (t:=4) (rows:=(eu f).map tD) U .head (by intro r hr;obtain ⟨x,_,rfl⟩:=List.mem_map.1 hr;rfl) (by decide) (by simp))<|y4<|ae<|bd U<|aj Yw U<|z8 (Gv.leq U U)<|aq U<|zt (s:=56) U (fun c3=>?_) (fun c3=>?_)
    ·refine z7 U U c3<|ak je U jh U U<|z7 U U c3<|aI jx U<|z7 U U c3<|aj j7 U<|z7 U U c3<|bd U<|z7 U U c3<|aj Yw U<|z7 U U c3<|z8 (Gv.minI U U)<|z7 U U c3<|z8 (Gv.leq U U)<|au U c3 U<|aq U<|zt (s:=65) U (fun c4=>?_) (fun c4=>?_)
     ·refine z7 U U c4<|bd U<|z7 U U c4<|aj Yw U<|z7 U U c4<|z8 (q9 U U)<|au U c4 U<|aq U<|zt (s:=70) U (fun c5=>?_) (fun c5=>?_)
      ·refine z7 U U c5<|bd U<|z7 U U c5<|aj Yw U<|z7 U U c5<|z8 (Gv.leq U U)<|au U c5 U<|aq U<|zt (s:=75) U (fun c6=>?_) (fun c6=>?_)
       ·refine z7 U U c6<|bd U<|z7 U U c6<|ze (pt (d9 f) (by omega) (fun s hs=>by obtain ⟨v,hv,rfl⟩:=List.mem_map.1 hs;exact hn.1 v hv) hL) U<|au U c6 U<|aq U<|zt (s:=79) U (fun c7=>?_) (fun c7=>?_)
        ·refine z7 U U c7<|bd U<|z7 U U c7<|ze (pt (eu f) (by omega) (fun s hs=>by obtain ⟨v,hv,rfl⟩:=List.mem_map.1 hs;exact hn.2 v hv) hL) U<|au U c7 U<|ad U<|z2<|zg<|zm (x:=.bool _) U ?_
         exact jb (by unfold gF mQ;simp_all<;>grind)
        ·refine z6 U U c7<|z6 U U c7<|aw U c7 U<|ad U<|z2<|zg<|zm (x:=.bool _) U ?_
         exact jb (by unfold gF mQ;simp_all<;>grind)
       ·refine z6 U U c6<|z6 U U c6<|aw U c6 U<|aq U<|z6 U U U<|z6 U U U<|aw U U U<|ad U<|z2<|zg<|zm (x:=.bool _) U ?_
        exact jb (by unfold gF mQ;simp_all<;>grind)
      ·refine z6 U U c5<|z6 U U c5<|z6 U U c5<|aw U c5 U<|aq U<|z6 U U U<|z6 U U U<|aw U U U<|aq U<|z6 U U U<|z6 U U U<|aw U U U<|ad U<|z2<|zg<|zm (x:=.bool _) U ?_
       exact jb (by unfold gF mQ;simp_all<;>grind)
     ·refine z6 U U c4<|z6 U U c4<|z6 U U c4<|aw U c4 U<|aq U<|z6 U U U<|z6 U U U<|z6 U U U<|aw U U U<|aq U<|z6 U U U<|z6 U U U<|aw U U U<|aq U<|z6 U U U<|z6 U U U<|aw U U U<|ad U<|z2<|zg<|zm (x:=.bool _) U ?_
      exact jb (by unfold gF mQ;simp_all<;>grind)
    ·refine z6 U U c3<|z6 U U c3<|z6 U U c3<|z6 U U c3<|z6 U U c3<|z6 U U c3<|z6 U U c3<|aw U c3 U<|aq U<|z6 U U U<|z6 U U U<|z6 U U U<|aw U U U<|aq U<|z6 U U U<|z6 U U U<|z6 U U U<|aw U U U<|aq U<|z6 U U U<|z6 U U U<|aw U U U<|aq U<|z6 U U U<|z6 U U U<|aw U U U<|ad U<|z2<|zg<|zm (x:=.bool _) U ?_
     exact jb (by unfold gF mQ;simp_all<;>grind)
def lm (f:ab) (p:cZ):Bool:=!decide (p.args.length=0)&&decide (p.args.length=p.from_.length)&&bt f p.dst&&p.args.all (bt f)&&p.from_.all (eX f)
theorem Dh (f:ab) (v:Int):aP prog E 193 ([.int .i64 v]++[.pf (bw f)]) (.bool (!eX f v)):=by
 refine zp func193 U (by decide) U<|ae<|ad U<|z2<|ae<|ac Z0 ji U U<|aa U<|ze (p8 _ _) U<|aJ U<|ad U<|z2<|zg<|zm (x:=.bool _) U ?_
 rfl
theorem Fh (f:ab) (p:cZ) (hp:BL p):aP prog E 152 [.agg (bw f),.agg (dA p)] (.bool (lm f p)):=by
 have hl1:=hp.1.lt
 have hl2:=hp.2.lt
 refine zp func152 U (by decide) U<|ae<|y6 (cs:=_) U U U<|y6 (cs:=_) U U U<|ad U<|z2<|zb<|ae<|ak Z4 U jh U U<|aI jx U<|aj j7 U<|ao U U<|aq U<|zt (s:=9) U (fun c8=>?_) (fun c8=>?_)
 ·refine z6 U U c8<|z6 U U c8<|z6 U U c8<|z6 U U c8<|z6 U U c8<|z6 U U c8<|z6 U U c8<|au U c8 U<|aq U<|z6 U U U<|z6 U U U<|z6 U U U<|z6 U U U<|z6 U U U<|au U U U<|aq U<|z6 U U U<|z6 U U U<|z6 U U U<|z6 U U U<|z6 U U U<|au U U U<|z2<|yr U U<|ae<|ad U<|z2<|zg<|zm (x:=.bool _) U ?_
  exact jb (by have:=List.any_eq_not_all_not (l:=p.from_) (p:=fun x=>!eX f x);simp_all[lm,Int.ofNat_inj]<;>grind)
 ·refine z7 U U c8<|ak Z4 U jh U U<|z7 U U c8<|aI jx U<|z7 U U c8<|aj j7 U<|z7 U U c8<|ak Z4 U jh U U<|z7 U U c8<|aI jx U<|z7 U U c8<|aj j7 U<|z7 U U c8<|aO U U<|aw U c8 U<|aq U<|zt (s:=18) U (fun c9=>?_) (fun c9=>?_)
  ·refine z6 U U c9<|z6 U U c9<|z6 U U c9<|z6 U U c9<|z6 U U c9<|au U c9 U<|aq U<|z6 U U U<|z6 U U U<|z6 U U U<|z6 U U U<|z6 U U U<|au U U U<|z2<|yr U U<|ae<|ad U<|z2<|zg<|zm (x:=.bool _) U ?_
   exact jb (by have:=List.any_eq_not_all_not (l:=p.from_) (p:=fun x=>!eX f x);simp_all[lm,Int.ofNat_inj]<;>grind)
  ·refine z7 U U c9<|ac Z0 ji U U<|z7 U U c9<|ak Z4 U j9 U U<|z7 U U c9<|aA jg U<|z7 U U c9<|ze (lN _ _) U<|z7 U U c9<|aJ U<|aw U c9 U<|aq U<|zt (s:=25) U (fun c10=>?_) (fun c10=>?_)
   ·refine z6 U U c10<|z6 U U c10<|z6 U U c10<|z6 U U c10<|z6 U U c10<|au U c10 U<|z2<|yr U U<|ae<|ad U<|z2<|zg<|zm (x:=.bool _) U ?_
    exact jb (by have:=List.any_eq_not_all_not (l:=p.from_) (p:=fun x=>!eX f x);simp_all[lm,Int.ofNat_inj]<;>grind)
   ·refine z7 U U c10<|ac Z0 ji U U<|z7 U U c10<|ak Z4 U jh U U<|z7 U U c10<|aI jx U<|z7 U U c10<|ze (ui f p.args (by omega)) U<|z7 U U c10<|aJ U<|aw U c10 U<|z2<|zw U (fun c11=>?_) (fun c11=>?_)
    ·refine ae<|ad U<|z2<|zg<|zm (x:=.bool _) U ?_
     exact jb (by have:=List.any_eq_not_all_not (l:=p.from_) (p:=fun x=>!eX f x);simp_all[lm,Int.ofNat_inj]<;>grind)
    ·refine zf<|ae<|ak Z4 U jh U U<|aI jx U<|z8 (Gv.func U U)<|ze (iT p.from_ (by omega) (Dh f)) U<|aJ U<|ad U<|z2<|zg<|zm (x:=.bool _) U ?_
     exact jb (by have:=List.any_eq_not_all_not (l:=p.from_) (p:=fun x=>!eX f x);simp_all[lm,Int.ofNat_inj]<;>grind)
end
section
open Go.Proofs.Tryz
open Go.Proofs Go.Lib Go.Shelf Go.RowKit
set_option maxRecDepth 20000
variable {E:World}
theorem ln {p:cZ→Bool} {fn:FuncId} {c:List AV} (xs:List cZ) (hl:xs.length≤281474976710656) (hp:∀x∈xs,aP prog E fn ([.agg (dA x)]++c) (.bool (p x))) :
  aP prog E 105 [.fro 3 (xs.map dA),.fn fn [] c] (.int .i64 (cS p xs 0)):=by
 refine zp func105 U (by decide) U<|ae<|am U<|z2<|zb<|ae<|bd U<|aj Z8 U<|aa U<|z2<|zi<|y5 (γ:=Nat) [0,1,7] (fun k=>[(8,.i k)]) (fun k=>[]) (fun k=>k≤xs.length∧(xs.take k).all (fun x=>!p x)) (fun k=>xs.length - k) 0 aL aE (⟨w2 _,U⟩) ?_
 rintro k ⟨hk,hall⟩
 refine ae<|ap U U<|z2<|zb<|zn U (fun ck=>?_) (fun ck=>?_)
 ·have hk2:k<xs.length:=by omega
  refine zf<|zb<|zi<|ae<|aa U<|am U<|z2<|ae<|z8 (yt (v:=.fn _ _ _) U)<|bd U<|aa U<|z8 (qh Z8 Ze U U U (qx (by omega)))<|ac Ys Ze U U<|ay.callVP U (hp _ (w3 hk2)) U<|z2<|zw U (fun cp=>?_) (fun cp=>?_)
  ·refine ae<|aa U<|am U<|z2<|zg<|zm (x:=.int _ _) U ?_
   rw[bZ p xs k hk hall,List.drop_eq_getElem_cons hk2,cS,if_pos cp]
  ·refine zf<|aW<|aC U U<|aa U<|z2 ?_
   exact ⟨k+1,bW,aL,aE,⟨hk2,by rw[qy hk2,List.all_append,hall];simp[cp]⟩,by omega⟩
 ·have hkn:k=xs.length:=by omega
  refine y4<|ae<|am U<|z2<|zg<|zm (x:=.int _ _) U ?_
  rw[bZ p xs k hk hall,hkn,List.drop_length,cS]
theorem nc {p:cZ→Bool} {fn:FuncId} {c:List AV} (xs:List cZ) (hl:xs.length≤281474976710656) (hp:∀x∈xs,aP prog E fn ([.agg (dA x)]++c) (.bool (p x))) :
  aP prog E 150 [.fro 3 (xs.map dA),.fn fn [] c] (.bool (xs.any p)):=by
 refine zp func150 U (by decide) U<|ae<|ad U<|z2<|ae<|bd U<|z8 (yt (v:=.fn _ _ _) U)<|ze (ln xs hl hp) U<|z8 (q9 U U)<|ad U<|z2<|zg<|zm (x:=.bool _) U ?_
 rw[fX]
theorem pP {p:aB→Bool} {fn:FuncId} {c:List AV} (xs:List aB) (hl:xs.length≤281474976710656) (hp:∀x∈xs,aP prog E fn ([.agg (bq x)]++c) (.bool (p x))) :
  aP prog E 195 [.fro 4 (xs.map bq),.fn fn [] c] (.int .i64 (cS p xs 0)):=by
 refine zp func195 U (by decide) U<|ae<|am U<|z2<|zb<|ae<|bd U<|aj Z6 U<|aa U<|z2<|zi<|y5 (γ:=Nat) [0,1,7] (fun k=>[(8,.i k)]) (fun k=>[]) (fun k=>k≤xs.length∧(xs.take k).all (fun x=>!p x)) (fun k=>xs.length - k) 0 aL aE (⟨w2 _,U⟩) ?_
 rintro k ⟨hk,hall⟩
 refine ae<|ap U U<|z2<|zb<|zn U (fun ck=>?_) (fun ck=>?_)
 ·have hk2:k<xs.length:=by omega
  refine zf<|zb<|zi<|ae<|aa U<|am U<|z2<|ae<|z8 (yt (v:=.fn _ _ _) U)<|bd U<|aa U<|z8 (qh Z6 Za U U U (qx (by omega)))<|ac Yj Za U U<|ay.callVP U (hp _ (w3 hk2)) U<|z2<|zw U (fun cp=>?_) (fun cp=>?_)
  ·refine ae<|aa U<|am U<|z2<|zg<|zm (x:=.int _ _) U ?_
   rw[bZ p xs k hk hall,List.drop_eq_getElem_cons hk2,cS,if_pos cp]
  ·refine zf<|aW<|aC U U<|aa U<|z2 ?_
   exact ⟨k+1,bW,aL,aE,⟨hk2,by rw[qy hk2,List.all_append,hall];simp[cp]⟩,by omega⟩
 ·have hkn:k=xs.length:=by omega
  refine y4<|ae<|am U<|z2<|zg<|zm (x:=.int _ _) U ?_
  rw[bZ p xs k hk hall,hkn,List.drop_length,cS]
theorem nf {p:aB→Bool} {fn:FuncId} {c:List AV} (xs:List aB) (hl:xs.length≤281474976710656) (hp:∀x∈xs,aP prog E fn ([.agg (bq x)]++c) (.bool (p x))) :
  aP prog E 153 [.fro 4 (xs.map bq),.fn fn [] c] (.bool (xs.any p)):=by
 refine zp func153 U (by decide) U<|ae<|ad U<|z2<|ae<|bd U<|z8 (yt (v:=.fn _ _ _) U)<|ze (pP xs hl hp) U<|z8 (q9 U U)<|ad U<|z2<|zg<|zm (x:=.bool _) U ?_
 rw[fX]
theorem vw (f:ab) (p:cZ) (hp:BL p):aP prog E 151 ([.agg (dA p)]++[.pf (bw f)]) (.bool (!lm f p)):=by
 refine zp func151 U (by decide) U<|ae<|y6 (cs:=_) U U U<|ad U<|z2<|ae<|ac Z0 ji U U<|ac Ys Ze U U<|ze (Fh _ _ (by assumption)) U<|aJ U<|ad U<|z2<|zg<|zm (x:=.bool _) U ?_
 rfl
theorem vx (f:ab) (x:aB) (hx:qX x.args):aP prog E 154 ([.agg (bq x)]++[.pf (bw f)]) (.bool (!dY f x)):=by
 refine zp func154 U (by decide) U<|ae<|y6 (cs:=_) U U U<|ad U<|z2<|ae<|ac Z0 ji U U<|ac Yj Za U U<|ze (C9 _ _ (by assumption)) U<|aJ U<|ad U<|z2<|zg<|zm (x:=.bool _) U ?_
 rfl
def iY (f:ab) (b:aK):Bool:=!(b.phis.any fun p=>!lm f p)&&!(b.insts.any fun x=>!dY f x)&&bJ f b.term
theorem rH {f:ab} {b:aK} (h:(b.phis.any fun p=>!lm f p)=true):iY f b=false:=by unfold iY;rw[h];rfl
theorem rI {f:ab} {b:aK} (h:(b.insts.any fun x=>!dY f x)=true):iY f b=false:=by unfold iY;rw[h];simp
theorem rJ {f:ab} {b:aK} (h:(!bJ f b.term)=true):iY f b=false:=by unfold iY;rw[show bJ f b.term=false by simpa using h];simp
theorem Fi {f:ab} {b:aK} (h1:(b.phis.any fun p=>!lm f p)=false) (h2:(b.insts.any fun x=>!dY f x)=false) (h3:(!bJ f b.term)=false):iY f b=true:=by unfold iY;rw[h1,h2,show bJ f b.term=true by simpa using h3];rfl
def fK (f:ab):Bool:=decide (gF f)&&(f.blocks.all (iY f)&&decide (eG f.blocks≤1024))
theorem xy (f:ab) (hf:ve f) (h1:f.vars.length≤100000000) (h2:f.blocks.length≤100000000) (hp:f.params.length≤100000000) (hn:nV f) (hL:bx E):aP prog E 108 [.agg (bw f)] (.bool (fK f)):=by
 refine zp func108 U (by decide) U<|ae<|y6 (cs:=_) U U U<|ad U<|z2<|zb<|ae<|ac Z0 ji U U<|ze (xx _ (by omega) (by omega) (by omega) (by assumption) hL) U<|aJ U<|z2<|zw U (fun cn=>?_) (fun cn=>?_)
 ·refine ae<|ad U<|z2<|zg<|zm (x:=.bool _) U ?_
  exact jb (by unfold fK;rw[show decide (gF f)=false by simpa using cn];rfl)
 ·have hN:gF f:=by simpa using cn
  have hbl:=hN.2.2.1.2.2.2.2
  refine zf<|ae<|am U<|z2<|zb<|ae<|ak je U Zd U U<|aI Zf U<|aj ju U<|aa U<|z2<|zi<|y5 (γ:=Nat) [1,11,12] (fun k=>[(3,.i (eG (f.blocks.take k))),(13,.i k)]) (fun k=>[]) (fun k=>k≤f.blocks.length∧eG (f.blocks.take k)≤k*562949953421312∧(f.blocks.take k).all (iY f)=true) (fun k=>f.blocks.length - k) 0 b7 aE (⟨w2 _,w2 _,U⟩) ?_
  rintro k ⟨hk,hsum,hall⟩
  refine ae<|ap U U<|z2<|zb<|zn U (fun ck=>?_) (fun ck=>?_)
  ·have hk2:k<f.blocks.length:=by simp at ck;omega
   obtain ⟨b,hbk⟩:∃b,f.blocks[k]=b:=⟨_,rfl⟩
   have hget:f.blocks[k]?=some b:=by rw[qx hk2,hbk]
   have hb:=hf.2.2.2 b (hbk▸w3 hk2)
   have hb1:=hb.1.lt
   have hb2:=hb.2.1.lt
   have hsucc:=m8 f.blocks k hk2
   rw[hbk] at hsucc
   refine zf<|zb<|zi<|ae<|z8 (bB k ju Z2 U U U hget)<|ac Yc Z2 U U<|zu (cs:=[.e,.n,.n,.int .i64 0,.int .i64 0,.int .i64 0,.int .i64 0]) Zh U U<|fun i5=>zj Z2 U U U U U U .head U<|z2<|ae<|aa U<|z8 (zh jr U Zv (by decide) U U)<|z8 (zq (c:=.fro _ _) Yd U ⟨_,.head⟩ U)<|aj Z8 U<|z8 (zh jr U Zw (by decide) U U)<|z8 (zq (c:=.fro _ _) Y3 U ⟨_,.head⟩ U)<|aj Z6 U<|aC U U<|aC U U<|am U<|z2<|ae<|z8 (zh jr U Zv (by decide) U U)<|z8 (zq (c:=.fro _ _) Yd U ⟨_,.head⟩ U)<|z8 (Gv.func U U)<|ze (nc b.phis (by omega) (fun p hp=>vw f p (hb.2.2.1 p hp))) U<|aq U<|zt (s:=30) U (fun c1=>?_) (fun c1=>?_)
   ·refine z6 U U c1<|z6 U U c1<|z6 U U c1<|z6 U U c1<|au U c1 U<|ad U<|z2<|ae<|aq U<|aq U<|z6 U U U<|z6 U U U<|z6 U U U<|z6 U U U<|z6 U U U<|au U U U<|z2<|yr U U<|ae<|ad U<|z2<|zg<|zm (x:=.bool _) U ?_
    exact jb (by unfold fK;rw[show f.blocks.all (iY f)=false from Bool.eq_false_iff.2 (dI hk2 (by rw[hbk];first|exact rH (by assumption)|exact rI (by assumption)|exact rJ (by assumption)))];simp)
   ·refine z7 U U c1<|z8 (zh jr U Zw (by decide) U U)<|z7 U U c1<|z8 (zq (c:=.fro _ _) Y3 U ⟨_,.head⟩ U)<|z7 U U c1<|z8 (Gv.func U U)<|z7 U U c1<|ze (nf b.insts (by omega) (fun x hx=>vx f x (hb.2.2.2 x hx))) U<|aw U c1 U<|ad U<|z2<|ae<|aq U<|aq U<|zt (s:=37) U (fun c2=>?_) (fun c2=>?_)
    ·refine z6 U U c2<|z6 U U c2<|z6 U U c2<|z6 U U c2<|z6 U U c2<|au U c2 U<|z2<|yr U U<|ae<|ad U<|z2<|zg<|zm (x:=.bool _) U ?_
     exact jb (by unfold fK;rw[show f.blocks.all (iY f)=false from Bool.eq_false_iff.2 (dI hk2 (by rw[hbk];first|exact rH (by assumption)|exact rI (by assumption)|exact rJ (by assumption)))];simp)
    ·refine z7 U U c2<|ac Z0 ji U U<|z7 U U c2<|z8 (zh jr U Zp (by decide) U U)<|z7 U U c2<|z8 (yo (l:=[_,_,_,_]) Xk Zp U ⟨_,.head⟩ U U)<|z7 U U c2<|ze (Da _ _) U<|z7 U U c2<|aJ U<|aw U c2 U<|z2<|zw U (fun c3=>?_) (fun c3=>?_)
     ·refine ae<|ad U<|z2<|zg<|zm (x:=.bool _) U ?_
      exact jb (by unfold fK;rw[show f.blocks.all (iY f)=false from Bool.eq_false_iff.2 (dI hk2 (by rw[hbk];first|exact rH (by assumption)|exact rI (by assumption)|exact rJ (by assumption)))];simp)
     ·refine zf<|aW<|aC U U<|aa U<|z2 ?_
      exact ⟨k+1,bW,⟨congrArg (AV.int .i64) (by rw[hsucc];omega),rfl,trivial⟩,⟨_,(.drop (.refl _)),rfl⟩,⟨hk2,by rw[hsucc];omega,bS hk2 hall (by rw[hbk];exact Fi (by assumption) (by assumption) (by assumption))⟩,by omega⟩
  ·have hkn:k=f.blocks.length:=by simp at ck;omega
   subst hkn
   rw[w4] at hall ⊢
   refine y4<|ae<|aa U<|z8 (Gv.leq U U)<|ad U<|z2<|zg<|zm (x:=.bool _) U ?_
   exact jb (by unfold fK;rw[we hN,hall];simp;omega)
theorem uz (f:ab) (p:cZ):lm f p=true↔vt f p:=by
 unfold lm vt
 simp only[wh,Bool.not_eq_true',decide_eq_false_iff_not,wm]
 constructor
 ·rintro ⟨⟨⟨⟨h1,h2⟩,h3⟩,h4⟩,h5⟩;exact ⟨h3,h2,by omega,h4,h5⟩
 ·rintro ⟨h3,h2,h1,h4,h5⟩;exact ⟨⟨⟨⟨by omega,h2⟩,h3⟩,h4⟩,h5⟩
theorem uA (t:Int):¬kQ t=⟨#[]⟩↔0≤t∧t≤2:=by
 unfold kQ
 constructor
 ·intro h
  by_cases h0:t=0
  ·omega
  ·by_cases h1:t=1
   ·omega
   ·by_cases h2:t=2
    ·omega
    ·rw[if_neg h0,if_neg h1,if_neg h2] at h;exact absurd rfl h
 ·intro h e
  have:t=0∨t=1∨t=2:=by omega
  rcases this with rfl|rfl|rfl<;>exact absurd e (by decide)
theorem Di (f:ab) (b:aK):iY f b=true↔Dc f b:=by
 unfold iY Dc
 simp only[wh,Bool.not_eq_true',List.any_eq_false,Bool.not_eq_false]
 constructor
 ·rintro ⟨⟨h1,h2⟩,h3⟩
  exact ⟨fun p hp=>(uz f p).1 (by simpa using h1 p hp),fun x hx=>(rD f x).1 (by simpa using h2 x hx),h3⟩
 ·rintro ⟨h1,h2,h3⟩
  exact ⟨⟨fun p hp=>by simpa using (uz f p).2 (h1 p hp),fun x hx=>by simpa using (rD f x).2 (h2 x hx)⟩,h3⟩
theorem Fj {l:List ByteArray}:AG l↔∀i (h:i<l.length),fo l[i]=true∧l[i] ∉ l.take i:=by
 unfold AG
 constructor<;>intro h i hi
 ·exact ⟨(h i hi).1,fun hm=>by have:=Ca.2 hm;rw[(h i hi).2] at this;cases this⟩
 ·exact ⟨(h i hi).1,Bool.eq_false_iff.2 fun hm=>(h i hi).2 (Ca.1 hm)⟩
theorem Cc {f:ab} {i:Nat} (h:i<(d9 f).length) (h':i<f.vars.length):(d9 f)[i]=f.vars[i].name:=by
 have:(d9 f)[i]?=some f.vars[i].name:=by unfold d9;rw[w7,qx h'];rfl
 rw[qx h] at this
 simpa using this
theorem Cd {f:ab} {i:Nat} (h:i<(eu f).length) (h':i<f.blocks.length):(eu f)[i]=f.blocks[i].name:=by
 have:(eu f)[i]?=some f.blocks[i].name:=by unfold eu;rw[w7,qx h'];rfl
 rw[qx h] at this
 simpa using this
theorem iZ (f:ab):fK f=decide (bH f):=by
 rw[w8,decide_eq_true_iff]
 unfold fK
 simp only[wh,decide_eq_true_iff,wi,Di]
 unfold gF mQ bH nU
 simp only[Fj]
 constructor
 ·rintro ⟨⟨h1,h2,⟨g1,g2,g3,g4,g5⟩,h4,h5⟩,h6,h7⟩
  refine ⟨?_,h2,fun i h=>?_,fun i h=>?_,h7,h6⟩
  ·simp;omega
  ·have ht:=(uA _).1 (h1 i h)
   have hu:=h4 i (by unfold d9;simpa using h)
   have e:=Cc (f:=f) (i:=i) (by unfold d9;simpa using h) h
   rw[e] at hu
   exact ⟨by rw[qC];exact hu.1,ht.1,ht.2,fun s hs e2=>hu.2 (by unfold d9;rw[←List.map_take,←e2];exact hs)⟩
  ·have hu:=h5 i (by unfold eu;simpa using h)
   have e:=Cd (f:=f) (i:=i) (by unfold eu;simpa using h) h
   rw[e] at hu
   exact ⟨by rw[qC];exact hu.1,fun s hs e2=>hu.2 (by unfold eu;rw[←List.map_take,←e2];exact hs)⟩
 ·rintro ⟨h1,h2,h3,h4,h7,h6⟩
  simp at h1
  refine ⟨⟨fun i h=>(uA _).2 ⟨(h3 i h).2.1,(h3 i h).2.2.1⟩,h2,by omega,fun i h=>?_,fun i h=>?_⟩,h6,h7⟩
  ·have h':i<f.vars.length:=by simpa using h
   have e:=Cc h h'
   rw[e]
   exact ⟨by rw[←qC];exact (h3 i h').1,fun hm=>(h3 i h').2.2.2 _ (by unfold d9 at hm;rw[←List.map_take] at hm;exact hm) rfl⟩
  ·have h':i<f.blocks.length:=by simpa using h
   have e:=Cd h h'
   rw[e]
   exact ⟨by rw[←qC];exact (h4 i h').1,fun hm=>(h4 i h').2 _ (by unfold eu at hm;rw[←List.map_take] at hm;exact hm) rfl⟩
end
section
open Go.Proofs.Tryz
open Go.Proofs Go.Lib Go.Shelf Go.RowKit
variable {E:World}
set_option maxRecDepth 20000
theorem bH.ends {f:ab} (h:bH f):cg f:=by
 obtain ⟨h1,_,_,_,_,h6⟩:=h
 unfold nU at h1
 simp only[Bool.or_eq_false_iff,decide_eq_false_iff_not] at h1
 refine ⟨by omega,fun b hb c hc=>?_⟩
 have ht:=(h6 b hb).2.2
 unfold bJ at ht
 unfold cK at hc
 split at hc
 ·rename_i hk
  rw[if_pos hk] at ht
  simp only[wh,eX,wm] at ht
  simp at hc;subst hc;exact ht.1.1
 ·rename_i hk
  rw[if_neg hk] at ht
  split at hc
  ·rename_i hk1
   rw[if_pos hk1] at ht
   simp only[wh,eX,wm] at ht
   split at hc
   ·simp at hc;subst hc;exact ht.1.2
   ·simp at hc;rcases hc with rfl|rfl
    ·exact ht.1.2
    ·exact ht.2
  ·cases hc
def jK (f:ab) (b:aK):Bool:=b.phis.all (tz f)&&b.insts.all (fz f)&&eE f b.term
def bf (f:ab):Bool:=fK f&&f.blocks.all (jK f)
theorem small.shaped {f:ab} (hf:small f) (hL:bx E):aP prog E 108 [.agg (bw f)] (.bool (fK f)):=
 xy f hf.ok (by have:=hf.1;omega) (by have:=hf.2.2.1;omega) (by have:=hf.2.1;omega) hf.names hL
theorem fI {f:ab} {t:fg} (h:bJ f t=true) (hk:¬t.kind=0):bt f t.var=true:=by
 unfold bJ at h
 rw[if_neg hk] at h
 split at h
 ·simp only[wh] at h;exact h.1.1
 ·split at h
  ·simp only[wh] at h;exact h.1
  ·cases h
theorem ng (f:ab) (hf:small f) (hL:bx E):aP prog E 68 [.agg (bw f)] (.int .i64 (if bf f then 0 else 3)):=by
 have hok:=hf.ok
 refine zp func68 U (by decide) U<|ae<|y6 (cs:=_) U U U<|am U<|z2<|zb<|ae<|ac Z0 ji U U<|ze (hf.shaped hL) U<|aJ U<|z2<|zw U (fun cs=>?_) (fun cs=>?_)
 ·refine ae<|am U<|z2<|zg<|zm (x:=.int _ _) U ?_
  unfold bf;rw[show fK f=false by simpa using cs];rfl
 ·have hsb:fK f=true:=by simpa using cs
  have hS:bH f:=by rw[iZ] at hsb;exact wk hsb
  have hB:=hS.2.2.2.2.2
  have hfl:=hok.2.2.1.lt
  refine zf<|zb<|ae<|ak je U Zd U U<|aI Zf U<|aj ju U<|aa U<|z2<|zi<|y5 (γ:=Nat) [1,13,14] (fun k=>[(15,.i k)]) (fun k=>[]) (fun k=>k≤f.blocks.length∧(f.blocks.take k).all (jK f)=true) (fun k=>f.blocks.length - k) 0 aL aE (⟨w2 _,U⟩) ?_
  rintro k ⟨hk,hall⟩
  refine ae<|ap U U<|z2<|zb<|zn U (fun ck=>?_) (fun ck=>?_)
  ·have hk2:k<f.blocks.length:=by simp at ck;omega
   obtain ⟨b,hbk⟩:∃b,f.blocks[k]=b:=⟨_,rfl⟩
   have hget:f.blocks[k]?=some b:=by rw[qx hk2,hbk]
   have hmem:b∈f.blocks:=hbk▸w3 hk2
   obtain ⟨hph,hin,htm⟩:=hB b hmem
   have hbad:jK f b=false→bf f=false:=fun h=>by unfold bf;rw[Bool.eq_false_iff.2 (dI hk2 (by rw[hbk];exact h))];simp
   have hs5:=hok.2.2.2 b hmem
   have hpl:=hs5.1.lt
   have hil:=hs5.2.1.lt
   refine zf<|zb<|zi<|ae<|z8 (bB k ju Z2 U U U hget)<|ac Yc Z2 U U<|zu (cs:=[.e,.n,.n,.int .i64 0,.int .i64 0,.int .i64 0,.int .i64 0]) Zh U U<|fun i4=>zj Z2 U U U U U U .head U<|zd (y8 (t:=4) U .head)<|z2<|zb<|ae<|ak jr U Zv U U<|aI Yd U<|aj Z8 U<|aa U<|z2<|zi<|y5 (γ:=Nat) [1,4,13,14,15,20,21] (fun p=>[(22,.i p)]) (fun p=>[]) (fun p=>p≤b.phis.length∧(b.phis.take p).all (tz f)=true) (fun p=>b.phis.length - p) 0 aL aE (⟨w2 _,U⟩) ?_
   rintro p ⟨hp,hpall⟩
   refine ae<|ap U U<|z2<|zb<|zn U (fun cp=>?_) (fun cp=>?_)
   ·have hp2:p<b.phis.length:=by simp at cp;omega
    have hpm:=w3 hp2
    have hP:=hph _ hpm
    refine zf<|zb<|zi<|ae<|z8 (bB p Z8 Ze U U U (qx hp2))<|ac Ys Ze U U<|zu (cs:=[.int .i64 0,.n,.n]) Y1 U U<|fun i6=>zj Ze U U U U U U .head U<|zd (y8 (t:=6) U .head)<|z2<|ae<|ac Z0 ji U U<|ac Ys Ze U U<|ze (CV f b.phis[p] (hs5.2.2.1 _ hpm) hP.2.2.2.1 hP.1) U<|aJ U<|z2<|zw U (fun cq=>?_) (fun cq=>?_)
    ·refine ae<|am U<|z2<|zg<|zm (x:=.int _ _) U ?_
     rw[hbad (by unfold jK;rw[Bool.eq_false_iff.2 (dI hp2 (by simpa using cq))];rfl)];rfl
    ·refine zf<|aW<|aC U U<|aa U<|z2 ?_
     exact ⟨p+1,lg,aL,aE,⟨hp2,bS hp2 hpall (by simpa using cq)⟩,by omega⟩
   ·have hpn:p=b.phis.length:=by simp at cp;omega
    subst hpn
    rw[w4] at hpall
    refine y4<|zb<|ae<|ak jr U Zw U U<|aI Y3 U<|aj Z6 U<|aa U<|z2<|zi<|y5 (γ:=Nat) [1,4,13,14,15,32,33] (fun q=>[(34,.i q)]) (fun q=>[]) (fun q=>q≤b.insts.length∧(b.insts.take q).all (fz f)=true) (fun q=>b.insts.length - q) 0 aL aE (⟨w2 _,U⟩) ?_
    rintro q ⟨hq,hqall⟩
    refine ae<|ap U U<|z2<|zb<|zn U (fun cp2=>?_) (fun cp2=>?_)
    ·have hq2:q<b.insts.length:=by simp at cp2;omega
     have hqm:=w3 hq2
     have hI:=gh (hin _ hqm)
     have hId:bE b.insts[q].op=true→bt f b.insts[q].dst=true:=fun h=>by
      rcases hI.dst with ⟨d1,_⟩|⟨_,_,d3⟩
      ·rw[h] at d1;cases d1
      ·exact d3
     refine zf<|zb<|zi<|ae<|z8 (bB q Z6 Za U U U (qx hq2))<|ac Yj Za U U<|zu (cs:=[.int .i64 0,.int .i64 0,.n,.int .i64 0]) Zr U U<|fun i8=>zj Za U U U U U U .head U<|zd (y8 (t:=8) U .head)<|z2<|ae<|ac Z0 ji U U<|ac Yj Za U U<|ze (Ak f b.insts[q] (List.all_eq_true.2 hI.args) hI.len hId) U<|aJ U<|z2<|zw U (fun cq=>?_) (fun cq=>?_)
     ·refine ae<|am U<|z2<|zg<|zm (x:=.int _ _) U ?_
      rw[hbad (by unfold jK;rw[hpall,Bool.eq_false_iff.2 (dI hq2 (by simpa using cq))];rfl)];rfl
     ·refine zf<|aW<|aC U U<|aa U<|z2 ?_
      exact ⟨q+1,lg,aL,aE,⟨hq2,bS hq2 hqall (by simpa using cq)⟩,by omega⟩
    ·have hqn:q=b.insts.length:=by simp at cp2;omega
     subst hqn
     rw[w4] at hqall
     refine y4<|ae<|ac Z0 ji U U<|ak jr U Zp U U<|ac Xk Zp U U<|ze (Am f b.term (fI htm)) U<|aJ U<|z2<|zw U (fun ct=>?_) (fun ct=>?_)
     ·refine ae<|am U<|z2<|zg<|zm (x:=.int _ _) U ?_
      rw[hbad (by unfold jK;rw[hpall,hqall];simpa using ct)];rfl
     ·refine zf<|aW<|aC U U<|aa U<|z2 ?_
      exact ⟨k+1,bW,aL,aE,⟨hk2,bS hk2 hall (by rw[hbk];unfold jK;rw[hpall,hqall];simpa using ct)⟩,by omega⟩
  ·have hkn:k=f.blocks.length:=by simp at ck;omega
   subst hkn
   rw[w4] at hall
   refine y4<|ae<|am U<|z2<|zg<|zm (x:=.int _ _) U ?_
   unfold bf;rw[hsb,hall];rfl
end
end Go.Proofs.YtbbonnfjealmpaaGreatDoor
