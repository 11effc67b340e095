/- What the printer holds for shaped is what the document does. No conditions but bounds. -/
import Derived.Test.YtbconpmnckokoaaGreatDoorJe
import Derived.Lib.Builder
import Derived.Lib.AppendStr
import Derived.Lib.UnsafeStr
import Derived.Laws.Externs
import Derived.Lib.MapLaws
import Derived.Test.YtbconpmnckokoaaGreatDoorJa
import Derived.Test.YtbconpmnckokoaaGreatDoorJb
import Derived.Test.YtbconpmnckokoaaGreatDoorJd
import Derived.Test.YtbconpmnckokoaaGreatDoorJc
import Derived.Sort.Grow
import Derived.Laws.CopyRow
set_option linter.unusedVariables false
set_option linter.unusedSimpArgs false
set_option linter.unusedSectionVars false
namespace Go.Proofs.YtbconpmnckokoaaGreatDoor
section
open Go.Proofs.Tryz
section
variable {P:Program} {env:aE} {O:OL}
variable {d ty:Nat} {pos:String} {af:Array Edge} {x y:Operand}
theorem Gv.minI {ts:Array TypeId} {k:IntKind} {a b:Int} (hx:aT env x=.int k a) (hy:aT env y=.int k b):Gv P env O (Oper.mk (some d) (.call { callee:=.builtin .min,args:=#[x,y],argTypes:=ts }) ty pos af none) (.int k (if b<a then b else a)):=Gv.ofEv fun I ρ h=>⟨_,rfl,fun w=>by
 simp[execOp,resolve,fU h hx,fU h hy,invoke,builtin,Builtin.min_,Builtin.min2,Result.andThen]⟩
end
end
section
open Go.Proofs.Tryz
open Go.Lib
section
variable {P:Program} {ops:Array Oper} {K:bn→World→Prop} {ρ:bn} {w:World} {rest:List Oper}
variable {d ty:Nat} {pos:String} {af:Array Edge} {x y z:Operand} {t u e:TypeId}
variable {I:aF} {O A:List (Nat × Obj)} {E:World}
end
section
variable {E:World} {P:Program} {ops:Array Oper} {K:aE→OL→Prop} {env:aE} {O O':OL} {rest:List Oper}
variable {d ty:Nat} {pos:String} {af:Array Edge} {x y z:Operand} {t u e:TypeId}
end
section
variable {E:World} {P:Program} {env:aE} {O:OL} {d ty:Nat} {pos:String} {af:Array Edge} {t e kt:TypeId} {x y:Operand} {b i:Nat} {es:List (ByteArray × Int)}
theorem Gv.lookup1S {s:ByteArray} (ht:P.underlying t=some (.map kt e)) (hk:P.underlying kt=some .string) (hz:∀w,(zeroValue e).run P w=.ok (.int .i64 0) w) (hx:aT env x=rn b) (hy:aT env y=.str s) (hO:qZ O i (rm b es)) :
  Gv P env O (Oper.mk (some d) (.lookup t x y false) ty pos af none) (.int .i64 ((eE s es).getD 0)):=fun I L E ρ h1 hL=>by
 obtain ⟨arr,clock,hm,he⟩:=w0 hO hL
 have hx:=r7 h1 hx
 have hy:=uo h1 hy
 refine ⟨.int .i64 ((eE s es).getD 0),Z,fun w J L' hl hS hin=>?_⟩
 have hb:=hS.own _ (hin _ hm)
 simp only at hb
 have hc:(Instr.checkKey arr.isEmpty 10000 kt (.string s)).run P w=.ok () w:=MapKept.run_checkKey (k:=.string s) hk (by simp[MapKept.IsKey]) _ 9999
 cases hg:eE s es with
 |none=>
  have hf:=eh (i:=0) he hg
  simp[execOp,Instr.lookup,run_underlying ht,hx,hy,MapKept.run_getObj_map hb,hc,MapKept.run_findKey hk hf,hz,Result.andThen]
 |some u=>
  obtain ⟨j,hf,_⟩:=ei (i:=0) he hg
  simp[execOp,Instr.lookup,run_underlying ht,hx,hy,MapKept.run_getObj_map hb,hc,MapKept.run_findKey hk hf,Result.andThen]
end
theorem lQ (s v:ByteArray) (n:Int):∀es:List (ByteArray × Int),eE s (gE v n es)=if s=v then some n else eE s es
 |[]=>by simp only[gE,eE]
 |(k,u)::es=>by
  simp only[gE]
  split
  ·rename_i h;subst h;simp only[eE];split<;>rfl
  ·rename_i h
   simp only[eE,lQ s v n es]
   split
   ·rename_i h2;subst h2;rw[if_neg (fun e=>h e.symm)]
   ·rfl
end
section
open Go.Proofs.Tryz
open Go.Proofs Go.Lib Go.Shelf Go.RowKit
set_option maxRecDepth 20000
variable {E:World}
def ej (t:Int):ByteArray:=if t=0 then ⟨#[105,110,116]⟩ else if t=1 then ⟨#[98,111,111,108]⟩ else if t=2 then ⟨#[97,114,114]⟩ else ⟨#[]⟩
theorem uK (s:ByteArray):xM s.data.toList=s:=by unfold xM;simp
def nz:List Int→Bool
 |[]=>false
 |c::rs=>b9 c&&(rs.all cu&&decide (rs.length+1≤16))
theorem kR {c:Int} (h:b9 c=true):cu c=true:=by unfold cu;rw[h];rfl
theorem sq (s:ByteArray):∀(n p:Nat),s.size - p≤n→0<p→p≤s.size→iH s p=((aZ s p).all cu&&decide ((aZ s 0).length≤16)):=by
 intro n
 induction n with
 |zero=>
  intro p h hp hps
  have hne:¬s=⟨#[]⟩:=fun e=>by subst e;have:p≤0:=hps;omega
  rw[iH,dif_neg (by omega),bB (p:=p) (by omega)]
  simp[hne];omega
 |succ n ih=>
  intro p h hp hps
  by_cases hlt:p<s.size
  ·have hd:=(b5 s p).1
   have hw:p+(Utf8.decode s p).2≤s.size:=by
    have:=decodeL_le (s.data.toList.drop p) (by intro e;have:=congrArg List.length e;rw[List.length_drop] at this;have h2:s.data.toList.length=s.size:=Array.length_toList;simp only[List.length_nil] at this;omega)
    rw[decodeL_drop,List.length_drop] at this
    have h2:s.data.toList.length=s.size:=Array.length_toList
    omega
   rw[iH,dif_pos hlt,cA hlt,List.all_cons]
   have hp0:decide (p=0)=false:=q0 (by omega)
   rw[hp0,Bool.false_and,Bool.false_or]
   cases hi:cu ((Utf8.decode s p).1:Int) with
   |false=>simp
   |true=>rw[if_neg (by simp),ih _ (by omega) (by omega) hw];simp
  ·have hne:¬s=⟨#[]⟩:=fun e=>by subst e;have:p≤0:=hps;omega
   rw[iH,dif_neg hlt,bB (p:=p) hlt]
   simp[hne];omega
theorem uL {s:ByteArray} {p:Nat} (hlt:p<s.size):p+(Utf8.decode s p).2≤s.size:=by
 have h2:s.data.toList.length=s.size:=Array.length_toList
 have:=decodeL_le (s.data.toList.drop p) (by intro e;have:=congrArg List.length e;rw[List.length_drop] at this;simp only[List.length_nil] at this;omega)
 rw[decodeL_drop,List.length_drop] at this
 omega
theorem mJ (s:ByteArray):cx s=nz (aZ s 0):=by
 unfold cx
 by_cases hlt:0<s.size
 ·have hd:=(b5 s 0).1
  have hw:=uL hlt
  have hr:=cA hlt
  have hl:=congrArg List.length hr
  rw[List.length_cons] at hl
  rw[iH,dif_pos hlt]
  have h2:nz (aZ s 0)=(b9 ((Utf8.decode s 0).1:Int)&&((aZ s (0+(Utf8.decode s 0).2)).all cu&&decide ((aZ s (0+(Utf8.decode s 0).2)).length+1≤16))):=by rw[hr];rfl
  rw[h2]
  cases hc:b9 ((Utf8.decode s 0).1:Int) with
  |false=>simp
  |true=>
   rw[kR hc,if_neg (by simp),sq s _ _ (Nat.le_refl _) (by omega) hw,hl];rfl
 ·rw[iH,dif_neg hlt,bB hlt]
  have:s=⟨#[]⟩:=by
   have h2:s.data.toList.length=s.size:=Array.length_toList
   have h3:s.data.toList=[]:=List.eq_nil_of_length_eq_zero (by omega)
   rw[←uK s,h3];rfl
  simp[this,nz]
theorem nA (k:Nat):(decide ((1:Int)≤((k+1:Nat):Int))&&decide (((k+1:Nat):Int)≤16))=(([]:List Int).all cu&&decide (k+1+([]:List Int).length≤16)):=by
 rw[decide_eq_true (by omega),Bool.true_and]
 show _=(true&&_)
 rw[Bool.true_and,decide_eq_decide]
 show ((k+1:Nat):Int)≤16↔k+1+0≤16
 omega
theorem kS (s:ByteArray):∀(n p k:Nat),s.size - p≤n→co s p (k+1)=((aZ s p).all cu&&decide (k+1+(aZ s p).length≤16)):=by
 intro n
 induction n with
 |zero=>
  intro p k h
  rw[co,dif_neg (by omega),bB (by omega)]
  exact nA k
 |succ n ih=>
  intro p k h
  by_cases hlt:p<s.size
  ·have hd:=(b5 s p).1
   rw[co,dif_pos hlt,cA hlt,List.all_cons]
   have ho:bF ((Utf8.decode s p).1:Int) (k+1)=cu ((Utf8.decode s p).1:Int):=by
    unfold bF cu b9 iG
    have:decide (((k+1:Nat):Int)=0)=false:=q0 (by omega)
    rw[this];simp[Bool.or_assoc]
   rw[ho]
   cases hi:cu ((Utf8.decode s p).1:Int) with
   |false=>simp
   |true=>rw[if_pos rfl,ih _ _ (by omega),Bool.true_and,List.length_cons];congr 2;simp;omega
  ·rw[co,dif_neg hlt,bB hlt]
   exact nA k
theorem uM (s:ByteArray):fF s=nz (aZ s 0):=by
 unfold fF
 by_cases hlt:0<s.size
 ·rw[co,dif_pos hlt,cA hlt]
  have ho:bF ((Utf8.decode s 0).1:Int) 0=b9 ((Utf8.decode s 0).1:Int):=by unfold bF b9;simp
  rw[ho]
  show _=(b9 ((Utf8.decode s 0).1:Int)&&_)
  cases hc:b9 ((Utf8.decode s 0).1:Int) with
  |false=>simp
  |true=>rw[if_pos rfl,kS s _ _ _ (Nat.le_refl _),Bool.true_and];congr 2;simp;omega
 ·rw[co,dif_neg hlt,bB hlt];rfl
theorem gQ (s:ByteArray):fF s=cx s:=by rw[uM,mJ]
structure sr (f:ap) (x:aN):Prop where
 op:0≤x.op∧x.op≤26
 len:x.args.length=(aV x.op).length
 dst:(cf x.op=false∧x.dst=-1)∨(cf x.op=true∧x.dst≠-1∧bb f x.dst=true)
 num:ij x.op=false→x.num=0
 args:∀a∈x.args,bb f a=true
theorem nB {f:ap} {x:aN} (h:iy f x):sr f x:=by
 obtain ⟨h1,h2,h3,h4⟩:=h
 have hw:=kx ⟨h1,h2⟩
 unfold fZ at h3
 simp only[Bool.or_eq_false_iff,Bool.not_eq_false',decide_eq_true_eq,Bool.and_eq_false_iff,beq_iff_eq] at h3
 obtain ⟨g1,g2,g3,g4⟩:=h3
 refine ⟨⟨h1,h2⟩,by rw[f6];omega,?_,fun hn=>?_,List.all_eq_true.1 h4⟩
 ·rw[e9]
  by_cases hd:x.dst=-1
  ·left
   rw[decide_eq_true hd] at g2
   exact ⟨by rw[g2];rfl,hd⟩
  ·right
   rw[q0 hd] at g2
   refine ⟨by rw[g2];rfl,hd,?_⟩
   rcases g3 with g|g
   ·exact absurd g hd
   ·exact g
 ·rcases g4 with g|g
  ·exact g
  ·rw[hw,hn] at g;cases g
theorem lR (t:Int):aQ prog E 69 [.int .i64 t] (.str (ej t)):=by
 refine zk func69 Z (by decide) Z<|aj<|z8 (zr (v:=.str _) Z)<|z7<|za<|aj<|ab Z<|z7<|zh<|aj<|aA Z Z<|ae Z<|z7<|zn Z (fun c1=>?_) (fun c1=>?_)
 ·refine aj<|z8 (zr (v:=.str _) Z)<|z7<|zd<|zg (x:=.str _) Z ?_
  exact congrArg AV.str (by simp_all[ej])
 ·refine aj<|aA Z Z<|ae Z<|z7<|zn Z (fun c2=>?_) (fun c2=>?_)
  ·refine aj<|z8 (zr (v:=.str _) Z)<|z7<|zd<|zg (x:=.str _) Z ?_
   exact congrArg AV.str (by simp_all[ej])
  ·refine aj<|aA Z Z<|ae Z<|z7<|zn Z (fun c3=>?_) (fun c3=>?_)
   ·refine aj<|z8 (zr (v:=.str _) Z)<|z7<|zd<|zg (x:=.str _) Z ?_
    exact congrArg AV.str (by simp_all[ej])
   ·refine ze<|aj<|z8 (zr (v:=.str _) Z)<|z7<|zd<|zg (x:=.str _) Z ?_
    exact congrArg AV.str (by simp_all[ej])
end
section
open Go.Proofs.Tryz
section
variable {S:Int→List Int}
end
section
variable {S:Int→List Int} {at_:Int→Int} {V:List Int} {N:Int→Int}
variable {b m:Int}
end
end
section
open Go.Proofs.Tryz
section
variable {S:Int→List Int} {at_:Int→Int} {V:List Int} {N:Int→Int} {b m:Int}
end
end
section
open Go.Proofs.Tryz
section
variable {S:Int→List Int} {at_ V:List Int} {preds:Int→List Int} {n:Nat}
end
end
section
open Go.Proofs.Tryz
def gb (l:List Bool) (x:Int):Bool:=(l[x.toNat]?).getD false
structure EOk (E:Int→List Int) (n:Nat):Prop where
 npos:0<n
 rng:∀b:Int,0≤b→b<n→∀c∈E b,0≤c∧c<n
 len:∀b,(E b).length≤2
section
variable {E:Int→List Int} {n:Nat} (hE:EOk E n)
include hE
end
end
section
open Go.Proofs.Tryz
structure su (E:Int→List Int) (n:Nat):Prop extends EOk E n where
 out:∀x:Int,¬(0≤x∧x<n)→E x=[]
section
variable {E:Int→List Int} {n:Nat} (hE:su E n)
include hE
end
section
variable {E:Int→List Int} {n:Nat} (hE:su E n)
include hE
end
section
variable {E:Int→List Int} {n:Nat} (hE:su E n)
include hE
end
end
section
open Go.Proofs.Tryz
end
section
open Go.Proofs.Tryz
end
section
open Go.Proofs.Tryz
end
section
open Go.Proofs.Tryz
def Aj (a:Int) (out:List Bool) (shut x:Int):Prop:=x≠shut∧(x=a∨gb out x=true)
instance (a:Int) (out:List Bool) (shut x:Int):Decidable (Aj a out shut x):=by unfold Aj;infer_instance
end
section
open Go.Proofs.Tryz
noncomputable section
end
end
section
open Go.Proofs.Tryz
abbrev fy:=Int × Int
def mK (x:Int):Prop:=-9223372036854775808≤x∧x≤9223372036854775807
instance (x:Int):Decidable (mK x):=by unfold mK;infer_instance
def sv (r:fy):Prop:=mK r.1∧mK r.2
def zX:fy:=(1,0)
def xP (lo hi:Int):fy:=if hi<lo then zX else (lo,hi)
def zY (a b:Int):Int:=if b<a then b else a
def zZ (a b:Int):Int:=if a<b then b else a
def xQ (a b:fy):fy:=if a.2<a.1 then xP b.1 b.2 else if b.2<b.1 then a else (zY a.1 b.1,zZ a.2 b.2)
def Ao (k:Nat) (x y:Int):Int:=if k=0 then x+y else if k=1 then x - y else x*y
def lS (k:Nat) (x y:Int):Prop:=mK (Ao k x y)
instance (k:Nat) (x y:Int):Decidable (lS k x y):=by unfold lS;infer_instance
def Ap (n:Int):fy:=(n,n)
def nC (k:Nat) (a b:fy):Prop:=lS k a.1 b.1∧lS k a.1 b.2∧lS k a.2 b.1∧lS k a.2 b.2
instance (k:Nat) (a b:fy):Decidable (nC k a b):=by unfold nC;infer_instance
end
section
open Go.Proofs.Tryz
def xR (r s:fy):Prop:=r.2<r.1∨(s.1≤r.1∧r.2≤s.2)
end
section
open Go.Proofs.Tryz
end
section
open Go.Proofs.Tryz
end
section
open Go.Proofs.Tryz
def ra (rs:List fy) (i:Nat):fy:=(rs[i]?).getD (0,0)
end
section
open Go.Proofs.Tryz
def lv (l:List fy) (v:Int):fy:=(l[v.toNat]?).getD zX
def nrm (r:fy):Prop:=r.2<r.1→r=zX
structure xS (n:Nat) (rule:List fy→Int→fy) (vs:List Int):Prop where
 mono:∀l l' v,l.length=n→l'.length=n→(∀u:Int,0≤u→xR (lv l u) (lv l' u))→(∀u:Int,0≤u→sv (lv l u))→(∀u:Int,0≤u→sv (lv l' u))→v∈vs→xR (rule l v) (rule l' v)
 ok:∀l v,l.length=n→(∀u:Int,0≤u→sv (lv l u))→v∈vs→sv (rule l v)
 rng:∀v∈vs,0≤v∧v<n
end
section
open Go.Proofs.Tryz
section
variable {n:Nat} {rule:List fy→Int→fy} {widn:Nat→Int→Option fy} {vs:List Int} (hR:xS n rule vs) (hw:∀i v t,widn i v=some t→sv t)
include hR hw
end
end
section
open Go.Proofs.Tryz
end
section
open Go.Proofs.Tryz
end
section
open Go.Proofs.Tryz
end
section
open Go.Proofs.Tryz
def wD (q:Int):Prop:=21≤q∧q≤23
instance (q:Int):Decidable (wD q):=by unfold wD;infer_instance
end
section
open Go.Proofs.Tryz
end
section
open Go.Proofs.Tryz
section
variable {n:Nat} {rule:List fy→Int→fy} {vs:List Int} {phi:Int→Prop} {rank:Int→Nat}
end
section
variable {n:Nat} {rule:List fy→Int→fy} {vs:List Int} {phi:Int→Prop} {t:Int→fy}
end
end
section
open Go.Proofs.Tryz
def uN (h:fy × Bool) (n:Int) (fits:Bool) (e:Int):fy × Bool:=(xQ h.1 (Ap (if fits then n else e)),h.2||!fits)
def h4 (h:fy × Bool) (a b:fy) (n:Int→Int→Int) (fit:Int→Int→Bool) (e:Int→Int→Int):fy × Bool:=
 uN (uN (uN (uN h (n a.1 b.1) (fit a.1 b.1) (e a.1 b.1)) (n a.1 b.2) (fit a.1 b.2) (e a.1 b.2)) (n a.2 b.1) (fit a.2 b.1) (e a.2 b.1)) (n a.2 b.2) (fit a.2 b.2) (e a.2 b.2)
instance (k:Nat) (x y:Int):Decidable (lS k x y):=by unfold lS mK;infer_instance
instance (k:Nat) (a b:fy):Decidable (nC k a b):=by unfold nC;infer_instance
end
section
open Go.Proofs.Tryz
open Go.Proofs
end
section
open Go.Proofs.Tryz
open Go.Proofs
end
section
open Go.Proofs.Tryz
structure GS where
 ints:List Int
 bools:List Bool
 arrs:List Int
 arrays:List (List Int)
 blk:Int
 pc:Nat
 en:Int
 val:Int
 tr:Int
 trace:List Int
 st:Nat
 ck:Nat→Nat
 ended:Bool
def vi (l:List Int) (v:Int):Int:=(l[v.toNat]?).getD 0
def Aq (s:GS) (d v:Int):GS:={ s with ints:=s.ints.set d.toNat v }
def Ar (s:GS) (d:Int) (v:Bool):GS:={ s with bools:=s.bools.set d.toNat v }
def As (s:GS) (d v:Int):GS:={ s with arrs:=s.arrs.set d.toNat v }
def sw (p:dv) (b:Int):Int:=((p.from_.zip p.args).find? fun q=>decide (q.1=b)).elim (-1) (·.2)
def assign (s t:GS) (p:dv):GS:=As (Ar (Aq t p.dst (vi s.ints (sw p s.blk))) p.dst (gb s.bools (sw p s.blk))) p.dst (vi s.arrs (sw p s.blk))
end
section
open Go.Proofs.Tryz
end
section
open Go.Proofs.Tryz
open Go.Proofs Go.Lib
end
section
open Go.Proofs.Tryz
section
variable {E:World} {P:Program} {ops:Array Oper} {K:aE→OL→Prop} {env:aE} {O O' O'':OL} {rest:List Oper} {n:Nat}
variable {d ty:Nat} {pos:String} {af:Array Edge} {x y z:Operand} {t u e:TypeId}
end
structure wE (α:Type) where
 k:Nat
 val:α→List Value
 pos:0<k
 len:∀x,(val x).length=k
 one:∀x,∀u∈val x,u.oneCell'=true
variable {α:Type}
def wE.vs (c:wE α) (l:List α):List Value:=l.flatMap c.val
theorem wE.vs_len (c:wE α) (l:List α):(c.vs l).length=l.length*c.k:=by
 unfold wE.vs
 induction l with
 |nil=>simp
 |cons x l ih=>rw[List.flatMap_cons,yz,ih,c.len,List.length_cons,Nat.add_mul];omega
section
variable {E:World} {P:Program} {ops:Array Oper} {K:aE→OL→Prop} {env:aE} {O O' O'':OL} {rest:List Oper} {n:Nat}
variable {d ty:Nat} {pos:String} {af:Array Edge} {x y z:Operand} {t u e T:TypeId}
theorem SL.freezeAllN:∀{A:List (Nat × Obj)} {I:aF} {F:List (Nat × Obj)} {E w:World},SL I (A++F) E w→∃J,I.le J∧SL J F E w∧∀x∈A,J x.1=some x.2
 |[],I,F,E,w,h=>⟨I,.refl _,h,fun _ h=>by cases h⟩
 |(b,o)::A,I,F,E,w,h=>by
  obtain ⟨h1,h2⟩:=SL.freeze (show SL I ((b,o)::(A++F)) E w from h)
  obtain ⟨J,h3,h4,h5⟩:=SL.freezeAllN h2
  refine ⟨J,h1.trans h3,h4,fun x hx=>?_⟩
  rcases List.mem_cons.1 hx with rfl|hx
  ·exact h3 _ _ (aF.put_same _ _ _)
  ·exact h5 x hx
end
end
section
open Go.Proofs.Tryz
section
variable {E:World} {P:Program} {ops:Array Oper} {K:aE→OL→Prop} {env:aE} {O O' O'':OL} {rest:List Oper} {n:Nat}
variable {d ty:Nat} {pos:String} {af:Array Edge} {x y z:Operand} {t u e:TypeId}
end
end
section
open Go.Proofs.Tryz
open Go.Proofs
variable {E:World}
set_option maxRecDepth 20000
theorem gF {p:Int→Bool} {fn:FuncId} {c:List AV} (xs:List Int) (hl:xs.length≤281474976710656) (hp:∀x∈xs,aQ prog E fn ([.int .i64 x]++c) (.bool (p x))) :
  aQ prog E 79 [.fro 1 (xs.map bX),.fn fn [] c] (.int .i64 (b7 p xs 0)):=by
 refine zk func79 Z (by decide) Z<|aj<|aw Z<|z7<|za<|aj<|aY Z<|ad j6 Z<|ab Z<|z7<|zh<|zt (γ:=Nat) [0,1,7] (fun k=>[(8,.int .i64 k)]) (fun k=>[]) (fun k=>k≤xs.length∧(xs.take k).all (fun x=>!p x)) (fun k=>xs.length - k) 0 bg aX (⟨yw _,Z⟩) ?_
 rintro k ⟨hk,hall⟩
 refine aj<|aB Z Z<|z7<|za<|zq Z (fun ck=>?_) (fun ck=>?_)
 ·have hk2:k<xs.length:=by omega
  refine ze<|za<|zh<|aj<|ab Z<|aw Z<|z7<|aj<|z8 (zw (v:=.fn _ _ _) Z)<|aY Z<|ab Z<|z8 (yc j6 jc Z Z Z (yt (by omega)))<|aP jf Z<|aq.callVP Z (hp _ (yx hk2)) Z<|z7<|zn Z (fun cp=>?_) (fun cp=>?_)
  ·refine aj<|ab Z<|aw Z<|z7<|zd<|zg (x:=.int _ _) Z ?_
   rw[bH p xs k hk hall,List.drop_eq_getElem_cons hk2,b7,if_pos cp]
  ·refine ze<|bA<|aI Z Z<|ab Z<|z7 ?_
   exact ⟨k+1,r3,bg,aX,⟨hk2,by rw[yu hk2,List.all_append,hall];simp[cp]⟩,by omega⟩
 ·have hkn:k=xs.length:=by omega
  refine zu<|aj<|aw Z<|z7<|zd<|zg (x:=.int _ _) Z ?_
  rw[bH p xs k hk hall,hkn,List.drop_length,b7]
theorem fp {p:Int→Bool} {fn:FuncId} {c:List AV} (xs:List Int) (hl:xs.length≤281474976710656) (hp:∀x∈xs,aQ prog E fn ([.int .i64 x]++c) (.bool (p x))) :
  aQ prog E 59 [.fro 1 (xs.map bX),.fn fn [] c] (.bool (xs.any p)):=by
 refine zk func59 Z (by decide) Z<|aj<|ae Z<|z7<|aj<|aY Z<|z8 (zw (v:=.fn _ _ _) Z)<|zc (gF xs hl hp) Z<|z8 (Gv.geq Z Z)<|ae Z<|z7<|zd<|zg (x:=.bool _) Z ?_
 rw[dZ]
def ba (f:ap) (v:Int):Int:=((f.vars[v.toNat]?).map (·.ty)).getD 0
theorem lT {f:ap} {v:Int} (h:bb f v=true):∃x,f.vars[v.toNat]?=some x∧v=(v.toNat:Int)∧ba f v=x.ty:=by
 unfold bb at h
 simp only[q1,decide_eq_true_eq] at h
 have hl:v.toNat<f.vars.length:=by omega
 refine ⟨f.vars[v.toNat],yt hl,by omega,?_⟩
 unfold ba;rw[yt hl];rfl
theorem cM (f:ap) (v:Int) (hv:bb f v=true):aQ prog E 61 [.agg (bP f),.int .i64 v] (.int .i64 (ba f v)):=by
 obtain ⟨x,hx,hv2,hk⟩:=lT hv
 rw[hk]
 refine zk func61 Z (by decide) Z<|aj<|zy (cs:=_) Z Z Z<|aw Z<|z7<|aj<|ax j4 Z Z8 Z Z<|aU Ze Z<|ab Z<|z8 (eO v.toNat jn Z5 Z Z hv2 hx)<|ax ju Z sizeOf71 Z Z<|aP isAgg71 Z<|aw Z<|z7<|zd<|zg (x:=.int _ _) Z ?_
 rfl
theorem sx (op:Int):aQ prog E 62 [.int .i64 op] (.bool (decide (op=1))):=by
 refine zk func62 Z (by decide) Z<|aj<|ae Z<|z7<|aj<|ab Z<|aA Z Z<|ae Z<|z7<|zd<|zg (x:=.bool _) Z ?_
 simp_all
theorem sy:∀{l:List Int} (h:0<l.length),l.headD 0=l[0]
 |[],h=>absurd h (Nat.lt_irrefl 0)
 |_::_,_=>rfl
def eA (f:ap) (x:aN):Bool:=if x.op=1 then decide (ba f x.dst=ba f (x.args.headD 0)) else decide (x.args.map (ba f)=aV x.op)&&(!cf x.op||decide (ba f x.dst=fm x.op))
theorem dW {f:ap} {xs ts:List Int} {k:Nat} (h1:k<xs.length) (h2:k<ts.length) (h:(xs.take k).map (ba f)=ts.take k) (hk:ba f xs[k]=ts[k]):(xs.take (k+1)).map (ba f)=ts.take (k+1):=by
 rw[yu h1,yu h2,List.map_append,h,List.map_cons,List.map_nil,hk]
theorem sA {f:ap} {xs ts:List Int} {k:Nat} (h1:k<xs.length) (h2:k<ts.length) (hk:¬ba f xs[k]=ts[k]):¬xs.map (ba f)=ts:=by
 intro e
 apply hk
 subst e
 rw[List.getElem_map]
theorem mL (f:ap) (x:aN) (ha:x.args.all (bb f)=true) (hl:x.args.length=(aV x.op).length) (hd:cf x.op=true→bb f x.dst=true) :
  aQ prog E 36 [.agg (bP f),.agg (aW x)] (.bool (eA f x)):=by
 have hlen:(aV x.op).length≤3:=by
  rcases im x.op with h|h
  ·unfold aV;rw[h];decide
  ·have:∀r∈dn,r.2.1.data.toList.length≤3:=by decide
   have:=this _ h
   unfold aV;simpa using this
 refine zk func36 Z (by decide) Z<|aj<|zy (cs:=_) Z Z Z<|zy (cs:=_) Z Z Z<|ae Z<|z7<|za<|aj<|ax wz Z jx Z Z<|aP Z3 Z<|zc (sx _) Z<|z7<|zq Z (fun c1=>?_) (fun c1=>?_)
 ·have e1:x.op=1:=by simpa using c1
  have hlz:0<x.args.length:=by rw[hl,e1];decide
  have hv0:bb f x.args[0]=true:=List.all_eq_true.1 ha _ (yx hlz)
  have hvd:bb f x.dst=true:=hd (by rw[e1];decide)
  refine za<|zx (fun j=>false) (by kernel_rfl) Z (yd (.rest _))<|aR 0 Z (ya j9 j5 Z Z)<|aR 1 Z (jS wz Z jc Z Z)<|aR 2 Z (mu jf Z)<|aR 4 Z (ya j9 j5 Z Z)<|aR 5 Z (jS wz Z je Z Z)<|aR 6 Z (q5 jj Z)<|aR 7 Z (eO 0 j6 jc Z Z Z (yt hlz))<|aR 8 Z (mu jf Z)<|eZ 3 Z<|zc (cM _ _ (by assumption)) Z<|z7<|eZ 9 Z<|zc (cM _ _ (by assumption)) Z<|z7<|aR 10 Z (Gv.eqlI Z Z)<|aR 11 Z (wW Z)<|jQ<|zd<|zg (x:=.bool _) Z ?_
  exact jb (by unfold eA;rw[if_pos e1,sy hlz])
 ·have e1:¬x.op=1:=by simpa using c1
  refine ze<|za<|aj<|ax wz Z jx Z Z<|aP Z3 Z<|zc (iq _) Z<|ad underlying119 Z<|ab Z<|z7<|zh<|zt (γ:=Nat) [2,3,25,26] (fun k=>[(27,.int .i64 k)]) (fun k=>[]) (fun k=>k≤(aV x.op).length∧(x.args.take k).map (ba f)=(aV x.op).take k) (fun k=>(aV x.op).length - k) 0 bg aX (⟨yw _,Z⟩) ?_
  rintro k ⟨hk,hall⟩
  refine aj<|aB Z Z<|z7<|za<|zq Z (fun ck=>?_) (fun ck=>?_)
  ·have hk2:k<(aV x.op).length:=by simp at ck;omega
   have hk3:k<x.args.length:=by omega
   have hvk:bb f x.args[k]=true:=List.all_eq_true.1 ha _ (yx hk3)
   refine ze<|za<|zh<|aj<|ab Z<|z8 (eO k underlying119 sizeOf71 Z Z Z (yt hk2))<|aP isAgg71 Z<|aw Z<|aw Z<|z7<|za<|zx (fun j=>false) (by kernel_rfl) Z (yd (.rest _))<|aR 0 Z (ya j9 j5 Z Z)<|aR 1 Z (jS wz Z je Z Z)<|aR 2 Z (q5 jj Z)<|aR 3 Z (jR Z)<|aR 4 Z (eO k j6 jc Z Z Z (yt hk3))<|aR 5 Z (mu jf Z)<|aR 7 Z (jR Z)<|eZ 6 Z<|zc (cM _ _ (by assumption)) Z<|z7<|aR 8 Z (Gv.neqI Z Z)<|jQ<|zn Z (fun cn=>?_) (fun cn=>?_)
   ·refine aj<|ae Z<|z7<|zd<|zg (x:=.bool _) Z ?_
    exact jb (by unfold eA;rw[if_neg e1,q0 (sA hk3 hk2 (by simpa using cn))];rfl)
   ·refine ze<|bA<|aI Z Z<|ab Z<|z7 ?_
    exact ⟨k+1,iv,bg,aX,⟨hk2,dW hk3 hk2 hall (by simpa using cn)⟩,by omega⟩
  ·have hkn:k=(aV x.op).length:=by simp at ck;omega
   subst hkn
   rw[yy,←hl,yy] at hall
   refine zu<|aj<|ax wz Z jx Z Z<|aP Z3 Z<|zc (ir _) Z<|z8 (xK Z)<|z8 (wx Z Z)<|z8 (wA Z Z)<|aw Z<|ae Z<|z7<|aj<|ah Z<|aJ Z<|ah Z<|zi (s:=50) Z (fun c1=>?_) (fun c1=>?_)
   ·refine z2 Z Z c1<|z2 Z Z c1<|z2 Z Z c1<|z2 Z Z c1<|z2 Z Z c1<|z2 Z Z c1<|ai Z c1 Z<|ae Z<|z7<|zd<|zg (x:=.bool _) Z ?_
    exact jb (by unfold eA;rw[if_neg e1,decide_eq_true hall];simp_all)
   ·refine z6 Z Z c1<|aa j9 j5 Z Z<|z6 Z Z c1<|ax wz Z jc Z Z<|z6 Z Z c1<|aP jf Z<|z6 Z Z c1<|zc (cM f x.dst (hd (by simp_all))) Z<|z6 Z Z c1<|ab Z<|z6 Z Z c1<|aA Z Z<|ak Z c1 Z<|ae Z<|z7<|zd<|zg (x:=.bool _) Z ?_
    exact jb (by unfold eA;rw[if_neg e1,decide_eq_true hall];simp_all)
def kT (f:ap) (p:dv):Bool:=!(p.args.any fun v=>!decide (ba f v=ba f p.dst))
theorem mM (f:ap) (p:dv) (v:Int) (hv:bb f v=true) (hd:bb f p.dst=true):aQ prog E 60 ([.int .i64 v]++[.pf (bP f),.pf (bm p)]) (.bool (!decide (ba f v=ba f p.dst))):=by
 refine zk func60 Z (by decide) Z<|aj<|ae Z<|z7<|za<|zx (fun j=>false) (by kernel_rfl) Z (yd (.rest _))<|aR 0 Z (ya j9 j5 Z Z)<|aR 1 Z (jR Z)<|aR 3 Z (ya j9 j5 Z Z)<|aR 4 Z (jS jd Z jc Z Z)<|aR 5 Z (mu jf Z)<|eZ 2 Z<|zc (cM _ _ (by assumption)) Z<|z7<|eZ 6 Z<|zc (cM _ _ (by assumption)) Z<|z7<|aR 7 Z (Gv.neqI Z Z)<|aR 8 Z (wW Z)<|jQ<|zd<|zg (x:=.bool _) Z ?_
 simp_all
theorem rp (f:ap) (p:dv) (hp:nu p) (ha:p.args.all (bb f)=true) (hd:bb f p.dst=true):aQ prog E 35 [.agg (bP f),.agg (bm p)] (.bool (kT f p)):=by
 have hl1:=hp.1.lt
 refine zk func35 Z (by decide) Z<|aj<|zy (cs:=_) Z Z Z<|zy (cs:=_) Z Z Z<|ae Z<|z7<|aj<|ax jd Z je Z Z<|aU jj Z<|z8 (Gv.func Z Z)<|zc (fp p.args (by omega) (fun v hv=>mM f p v (List.all_eq_true.1 ha v hv) hd)) Z<|aJ Z<|ae Z<|z7<|zd<|zg (x:=.bool _) Z ?_
 rfl
def bY (f:ap) (t:fE):Bool:=if t.kind=0 then !decide (t.to0=0) else if t.kind=1 then decide (ba f t.var=1)&&!decide (t.to0=0)&&!decide (t.to1=0) else decide (ba f t.var=0)
theorem mN (f:ap) (t:fE) (h:¬t.kind=0→bb f t.var=true):aQ prog E 37 [.agg (bP f),.agg (kM t)] (.bool (bY f t)):=by
 refine zk func37 Z (by decide) Z<|aj<|zy (cs:=_) Z Z Z<|zy (cs:=_) Z Z Z<|ae Z<|z7<|za<|aj<|ax j7 Z Zf Z Z<|aP Zg Z<|z7<|zh<|aj<|aA Z Z<|ae Z<|z7<|zn Z (fun c2=>?_) (fun c2=>?_)
 ·refine aj<|ax j7 Z jk Z Z<|z8 (yp (j:=0) jm jc Z Z Z (by decide) Z)<|aP jf Z<|aD Z Z<|ae Z<|z7<|zd<|zg (x:=.bool _) Z ?_
  exact jb (by unfold bY;simp_all)
 ·refine aj<|aA Z Z<|ae Z<|z7<|zn Z (fun c3=>?_) (fun c3=>?_)
  ·refine aj<|aa j9 j5 Z Z<|ax j7 Z jc Z Z<|aP jf Z<|zc (cM f t.var (h (by simp_all))) Z<|aA Z Z<|ah Z<|zi (s:=20) Z (fun c4=>?_) (fun c4=>?_)
   ·refine z6 Z Z c4<|ax j7 Z jk Z Z<|z6 Z Z c4<|z8 (yp (j:=0) jm jc Z Z Z (by decide) Z)<|z6 Z Z c4<|aP jf Z<|z6 Z Z c4<|aD Z Z<|ai Z c4 Z<|ah Z<|zi (s:=26) Z (fun c5=>?_) (fun c5=>?_)
    ·refine z6 Z Z c5<|ax j7 Z jk Z Z<|z6 Z Z c5<|z8 (yp (j:=1) jm jc Z Z Z (by decide) Z)<|z6 Z Z c5<|aP jf Z<|z6 Z Z c5<|aD Z Z<|ai Z c5 Z<|ae Z<|z7<|zd<|zg (x:=.bool _) Z ?_
     exact jb (by unfold bY;simp_all)
    ·refine z2 Z Z c5<|z2 Z Z c5<|z2 Z Z c5<|z2 Z Z c5<|ak Z c5 Z<|ae Z<|z7<|zd<|zg (x:=.bool _) Z ?_
     exact jb (by unfold bY;simp_all)
   ·refine z2 Z Z c4<|z2 Z Z c4<|z2 Z Z c4<|z2 Z Z c4<|ak Z c4 Z<|ah Z<|z2 Z Z Z<|z2 Z Z Z<|z2 Z Z Z<|z2 Z Z Z<|ak Z Z Z<|ae Z<|z7<|zd<|zg (x:=.bool _) Z ?_
    exact jb (by unfold bY;simp_all)
  ·refine ze<|aj<|aa j9 j5 Z Z<|ax j7 Z jc Z Z<|aP jf Z<|zc (cM f t.var (h (by simp_all))) Z<|aA Z Z<|ae Z<|z7<|zd<|zg (x:=.bool _) Z ?_
   exact jb (by unfold bY;simp_all)
end
section
open Go.Proofs.Tryz
open Go.Proofs
variable {E:World}
set_option maxRecDepth 20000
end
section
open Go.Proofs.Tryz
open Go.Sort (Holds putRow putCells onCells)
end
section
open Go.Proofs.Tryz
variable {α:Type}
section
variable {E:World} {P:Program} {ops:Array Oper} {K:aE→OL→Prop} {env:aE} {O O' O'':OL} {rest:List Oper} {n:Nat}
variable {d ty:Nat} {pos:String} {af:Array Edge} {x y z:Operand} {t u e T:TypeId}
end
end
section
open Go.Proofs.Tryz
open Go.Proofs
variable {E:World}
set_option maxRecDepth 20000
end
section
open Go.Proofs.Tryz
section
variable {E:World} {P:Program} {n:Nat} {l:List Oper} {W:Nat→Bool} {Q:aE→OL→Prop} {fuel:Nat} {listed:Array Bool} {env:aE} {O Os Om:OL}
end
end
section
open Go.Proofs.Tryz
section
variable {E:World} {P:Program} {ops:Array Oper} {K:aE→OL→Prop} {env:aE} {O O' O'':OL} {rest:List Oper}
variable {d ty:Nat} {pos:String} {af:Array Edge} {x y z:Operand} {t u e T:TypeId}
end
end
section
open Go.Proofs.Tryz
open Go.Proofs
variable {E:World}
set_option maxRecDepth 20000
end
section
open Go.Proofs.Tryz
open Go.Proofs Go.Lib Go.Shelf Go.RowKit
theorem nD:dg prog 145 9 1 1 [.str ⟨#[]⟩]:=⟨_,Z4,js,zeroValue9,by decide,by decide,by kernel_rfl⟩
set_option maxRecDepth 20000
variable {E:World}
def lU (s:ByteArray) (l:List ByteArray):Bool:=l.any fun t=>decide (t=s)
theorem nE {s:ByteArray} {l:List ByteArray}:lU s l=true↔s∈l:=by
 unfold lU;rw[List.any_eq_true]
 constructor
 ·rintro ⟨x,hx,h⟩;have h:x=s:=by simpa using h
  exact h▸hx
 ·intro h;exact ⟨s,h,by simp⟩
theorem sB {s t:ByteArray} {l:List ByteArray}:lU s (l++[t])=(lU s l||decide (t=s)):=by unfold lU;rw[List.any_append];simp
def mO (l:List ByteArray):Prop:=∀i (h:i<l.length),cx l[i]=true∧lU l[i] (l.take i)=false
instance (l:List ByteArray):Decidable (mO l):=by unfold mO;infer_instance
theorem nF {t:ByteArray} {l:List ByteArray} {mt:Int} (ht:mt=if lU t l=true then 1 else 0) (hc:decide (0<mt)=false):lU t l=false:=by
 have hc:=of_decide_eq_false hc
 cases h:lU t l with
 |true=>rw[h] at ht;simp at ht;omega
 |false=>rfl
theorem sC {s t:ByteArray} {l:List ByteArray} {m:Option Int} {mt:Int} (hs:m.getD 0=if lU s l=true then 1 else 0) (ht:mt=if lU t l=true then 1 else 0) (hc:decide (0<mt)=false) :
  (if s=t then some (mt+1) else m).getD 0=if (lU s l||decide (t=s))=true then 1 else 0:=by
 have h:=nF ht hc
 rw[h] at ht
 have ht:mt=0:=by simpa using ht
 by_cases e:s=t
 ·subst e;simp[ht]
 ·rw[if_neg e,hs]
  have e2:¬t=s:=fun h=>e h.symm
  simp[e2]
theorem sD {l:List ByteArray} {k:Nat} (hn:∀i (h:i<l.length),i<k→cx l[i]=true∧lU l[i] (l.take i)=false) (hk:k<l.length) (h1:cx l[k]=true) (h2:lU l[k] (l.take k)=false) :
  ∀i (h:i<l.length),i<k+1→cx l[i]=true∧lU l[i] (l.take i)=false:=fun i h hi=>by
 by_cases e:i=k
 ·subst e;exact ⟨h1,h2⟩
 ·exact hn i h (by omega)
theorem gp (l:List ByteArray) (hl:l.length≤100000000) (hs:∀s∈l,s.size≤140737488355328) (hL:ac E):aQ prog E 70 [.fro 1 (l.map jZ)] (.bool (decide (mO l))):=by
 refine zk func70 Z (by decide) Z<|aj<|ae Z<|z7<|aj<|aq.makeMap<|fun b6=>z8 (zr (v:=rn _) Z)<|z7<|za<|aj<|aY Z<|ad Z4 Z<|ab Z<|z7<|zh<|zt (γ:=Nat × List (ByteArray × Int)) [3,7,8] (fun g=>[(9,.int .i64 g.1)]) (fun g=>[(0,rm b6 g.2)]) (fun g=>g.1≤l.length∧(∀i (h:i<l.length),i<g.1→cx l[i]=true∧lU l[i] (l.take i)=false)∧∀s,(eE s g.2).getD 0=if lU s (l.take g.1)=true then 1 else 0) (fun g=>l.length - g.1) (0,[]) bg aX (⟨yw _,fun i h h2=>absurd h2 (Nat.not_lt_zero _),fun s=>Z⟩) ?_
 rintro ⟨k,es⟩ ⟨hk,hn,hm⟩
 try dsimp only at *
 refine aj<|aB Z Z<|z7<|za<|zq Z (fun ck=>?_) (fun ck=>?_)
 ·have hk2:k<l.length:=by omega
  have hmk:=hm l[k]
  have hz:=hs _ (yx hk2)
  refine ze<|za<|zh<|aj<|z8 (eO k Z4 js Z Z Z (yt hk2))<|z8 (Gv.load1F (c:=.str _) jz Z)<|z8 (zr (v:=.str _) Z)<|z7<|za<|aj<|z8 (zw (v:=.str _) Z)<|zc (mI _ hz hL) Z<|aJ Z<|ah Z<|zi (s:=16) Z (fun c1=>?_) (fun c1=>?_)
  ·refine z2 Z Z c1<|z2 Z Z c1<|z2 Z Z c1<|z2 Z Z c1<|ai Z c1 Z<|z7<|y9 Z Z<|aj<|ae Z<|z7<|zd<|zg (x:=.bool _) Z ?_
   exact jb (q0 fun h=>by have h:=h k hk2;simp_all).symm
  ·refine z6 Z Z c1<|z8 (zw (v:=rn _) Z)<|z6 Z Z c1<|z8 (zw (v:=.str _) Z)<|z6 Z Z c1<|z8 (Gv.lookup1S underlying164 jr zeroValue3 Z Z ⟨_,.head⟩)<|z6 Z Z c1<|z8 (ym Z Z)<|ak Z c1 Z<|z7<|zn Z (fun c2=>?_) (fun c2=>?_)
   ·refine aj<|ae Z<|z7<|zd<|zg (x:=.bool _) Z ?_
    exact jb (q0 fun h=>by have h:=h k hk2;simp_all).symm
   ·refine ze<|bA<|z8 (zw (v:=rn _) Z)<|z8 (zw (v:=.str _) Z)<|z8 (Gv.lookup1S underlying164 jr zeroValue3 Z Z ⟨_,.head⟩)<|z8 (Gv.add Z Z (by first|(unfold lC;omega)|(unfold lC;rw[hmk];split<;>omega)))<|aq.mapSet underlying164 jr Z Z Z .head<|z7<|bA<|z8 (Gv.add Z Z (by first|(unfold lC;omega)|(unfold lC;rw[hmk];split<;>omega)))<|ab Z<|z7 ?_
    exact ⟨(k+1,gE l[k] ((eE l[k] es).getD 0+1) es),r3,bg,aX,⟨hk2,sD hn hk2 (by simpa using c1) (nF hmk (by assumption)),fun s=>by dsimp only;rw[lQ,yu hk2,sB];exact sC (hm s) hmk (by assumption)⟩,by dsimp only;omega⟩
 ·have hkn:k=l.length:=by omega
  refine zu<|aj<|ae Z<|z7<|zd<|zg (x:=.bool _) Z ?_
  exact jb (decide_eq_true fun i h=>hn i h (by omega)).symm
theorem map_take {α:Type} {g:α→ByteArray} {l:List α} {k:Nat} (h:k<l.length):(l.map g).take (k+1)=(l.map g).take k++[g l[k]]:=by
 rw[yu (by simpa using h)];simp
def bL (f:ap):List ByteArray:=f.vars.map fY.name
def bT (f:ap):List ByteArray:=f.blocks.map aC.name
@[simp] theorem Aa (f:ap):(bL f).length=f.vars.length:=by unfold bL;simp
@[simp] theorem Ab (f:ap):(bT f).length=f.blocks.length:=by unfold bT;simp
theorem uO {f:ap} {k:Nat} (h:k<f.vars.length):(bL f).take (k+1)=(bL f).take k++[f.vars[k].name]:=map_take h
theorem uP {f:ap} {k:Nat} (h:k<f.blocks.length):(bT f).take (k+1)=(bT f).take k++[f.blocks[k].name]:=map_take h
def uQ (f:ap):Prop:=∀i (h:i<f.params.length),f.params[i]=(i:Int)
instance (f:ap):Decidable (uQ f):=by unfold uQ;infer_instance
def uR (f:ap):Prop:=∀i (h:i<f.vars.length),¬ej f.vars[i].ty=⟨#[]⟩
instance (f:ap):Decidable (uR f):=by unfold uR;infer_instance
def fh (f:ap):Prop:=f.vars.length≤512∧f.params.length≤8∧f.params.length≤f.vars.length∧1≤f.blocks.length∧f.blocks.length≤64
instance (f:ap):Decidable (fh f):=by unfold fh;infer_instance
def dc (f:ap):Prop:=uR f∧uQ f∧fh f∧mO (bL f)∧mO (bT f)
instance (f:ap):Decidable (dc f):=by unfold dc;infer_instance
theorem lV (f:ap) (h1:f.vars.length≤100000000) (h2:f.blocks.length≤100000000) (hp:f.params.length≤100000000) (hn:fG f) (hL:ac E):aQ prog E 51 [.agg (bP f)] (.bool (decide (dc f))):=by
 have hnv:(bL f).length=f.vars.length:=by unfold bL;simp
 have hnb:(bT f).length=f.blocks.length:=by unfold bT;simp
 refine zk func51 Z (by decide) Z<|aj<|zy (cs:=_) Z Z Z<|ae Z<|z7<|aj<|z8 (q6 Z)<|z8 (q6 Z)<|z7<|eM (t:=3) (k:=1) (T:=9) Z<|fun i3=>eM (t:=4) (k:=1) (T:=9) Z<|fun i4=>za<|aj<|ax j4 Z Z8 Z Z<|aU Ze Z<|ad jn Z<|ab Z<|z7<|zh<|zt (γ:=Nat × Nat) [1,4,12,13] (fun g=>[(3,.own g.2 g.1),(14,.int .i64 g.1)]) (fun g=>[(i4,.grow 1 9 []),(g.2,.grow 1 9 ((((bL f).take g.1).map jZ).flatten))]) (fun g=>g.1≤f.vars.length∧∀i (h:i<f.vars.length),i<g.1→¬ej f.vars[i].ty=⟨#[]⟩) (fun g=>f.vars.length - g.1) (0,i3) fT aX (⟨yw _,fun i h h2=>absurd h2 (Nat.not_lt_zero _)⟩) ?_
 rintro ⟨k,i⟩ ⟨hk,hT⟩
 try dsimp only at *
 refine aj<|aB Z Z<|z7<|za<|zq Z (fun ck=>?_) (fun ck=>?_)
 ·have hk2:k<f.vars.length:=by simp at ck;omega
  refine ze<|za<|zh<|aj<|z8 (eO k jn Z5 Z Z Z (yt hk2))<|aa isAgg73 Z5 Z Z<|zo (cs:=[.str ⟨#[]⟩,.int .i64 0]) zeroValue73 Z Z<|fun i6=>zm Z5 Z Z Z Z Z Z .head Z<|z7<|aj<|z8 (zQ Z)<|z8 (zf ju Z js (by decide) Z Z)<|z8 (zj (c:=.str _) jz Z ⟨_,.head⟩ Z)<|yb (rows:=[[_]]) nD Z Z Z Z Z<|yi (k:=1) Z4 type9 Z Z Z Z Z (fun _=>.t2) (by rw[cT (k:=1) (fun _=>rfl),List.length_take];omega) (by decide) Z (by show (_+1)*16≤_;omega) (by show _+1≤_;omega)<|fun i22=>z8 (xE Z)<|z7<|aj<|z8 (zf ju Z sizeOf71 (by decide) Z Z)<|z8 (zj (c:=.int _ _) isAgg71 Z ⟨_,.head⟩ Z)<|zc (lR _) Z<|z8 (Gv.eqlT Z Z)<|z7<|zq Z (fun ct=>?_) (fun ct=>?_)
  ·refine aj<|ae Z<|z7<|zd<|zg (x:=.bool _) Z ?_
   exact jb (q0 fun h=>h.1 k hk2 (by simpa using ct)).symm
  ·refine ze<|bA<|aI Z Z<|ab Z<|z7 ?_
   exact ⟨(k+1,i22),iv,fT,⟨_,(.drop (.refl _)),by dsimp only;rw[←dz (enc:=jZ) (uO hk2)];rfl⟩,⟨hk2,fun i h h2=>by by_cases e:i=k;(subst e;simpa using ct);exact hT i h (by dsimp only at h2;omega)⟩,by dsimp only;omega⟩
 ·have hkn:k=f.vars.length:=by simp at ck;omega
  subst hkn
  rw[List.take_of_length_le (by omega:(bL f).length≤f.vars.length)]
  have hTys:uR f:=fun i h=>hT i h h
  refine zu<|za<|aj<|ax j4 Z jp Z Z<|aU jw Z<|ad j8 Z<|ab Z<|z7<|zh<|zt (γ:=Nat × Nat) [1,3,29,30] (fun g=>[(4,.own g.2 g.1),(31,.int .i64 g.1)]) (fun g=>[(g.2,.grow 1 9 ((((bT f).take g.1).map jZ).flatten)),(i,.grow 1 9 (((bL f).map jZ).flatten))]) (fun g=>g.1≤f.blocks.length) (fun g=>f.blocks.length - g.1) (0,i4) fT aX (yw _) ?_
  rintro ⟨k,j⟩ hk
  try dsimp only at *
  refine aj<|aB Z Z<|z7<|za<|zq Z (fun ck=>?_) (fun ck=>?_)
  ·have hk2:k<f.blocks.length:=by simp at ck;omega
   refine ze<|za<|zh<|aj<|z8 (eO k j8 jg Z Z Z (yt hk2))<|aa Zc jg Z Z<|zo (cs:=[.str ⟨#[]⟩,.raw (.slice none 0 0),.raw (.slice none 0 0),.int .i64 0,.int .i64 0,.int .i64 0,.int .i64 0]) jt Z Z<|fun i8=>zm jg Z Z Z Z Z Z .head Z<|z7<|bA<|z8 (zQ Z)<|z8 (zf wy Z js (by decide) Z Z)<|z8 (zj (c:=.str _) jz Z ⟨_,.head⟩ Z)<|yb (rows:=[[_]]) nD Z Z Z Z Z<|yi (k:=1) Z4 type9 Z Z Z Z Z (fun _=>.t1) (by rw[cT (k:=1) (fun _=>rfl),List.length_take];omega) (by decide) Z (by show (_+1)*16≤_;omega) (by show _+1≤_;omega)<|fun i39=>z8 (xE Z)<|z7<|bA<|aI Z Z<|ab Z<|z7 ?_
   exact ⟨(k+1,i39),iv,fT,⟨_,(.drop (.refl _)),by dsimp only;rw[←dz (enc:=jZ) (uP hk2)];rfl⟩,hk2,by dsimp only;omega⟩
  ·have hkn:k=f.blocks.length:=by simp at ck;omega
   subst hkn
   rw[List.take_of_length_le (by omega:(bT f).length≤f.blocks.length)]
   refine zu<|za<|aj<|ax j4 Z je Z Z<|aU jj Z<|ad j6 Z<|ab Z<|z7<|zh<|zt (γ:=Nat) [1,3,4,42,43] (fun k=>[(44,.int .i64 k)]) (fun k=>[(j,.grow 1 9 (((bT f).map jZ).flatten)),(i,.grow 1 9 (((bL f).map jZ).flatten))]) (fun k=>k≤f.params.length∧∀i (h:i<f.params.length),i<k→f.params[i]=(i:Int)) (fun k=>f.params.length - k) 0 bg aX (⟨yw _,fun i h h2=>absurd h2 (Nat.not_lt_zero _)⟩) ?_
   rintro k ⟨hk,hP⟩
   refine aj<|aB Z Z<|z7<|za<|zq Z (fun ck=>?_) (fun ck=>?_)
   ·have hk2:k<f.params.length:=by simp at ck;omega
    refine ze<|za<|zh<|aj<|ab Z<|z8 (eO k j6 jc Z Z Z (yt hk2))<|aP jf Z<|aw Z<|aw Z<|z7<|aj<|ab Z<|ab Z<|aD Z Z<|z7<|zn Z (fun cp=>?_) (fun cp=>?_)
    ·refine aj<|ae Z<|z7<|zd<|zg (x:=.bool _) Z ?_
     exact jb (q0 fun h=>by have:=h.2.1 k hk2;simp[this] at cp).symm
    ·refine ze<|bA<|aI Z Z<|ab Z<|z7 ?_
     exact ⟨k+1,⟨rfl,rfl,rfl,rfl,rfl,trivial⟩,bg,aX,⟨hk2,fun i h h2=>by by_cases e:i=k;(subst e;simpa using cp);exact hP i h (by omega)⟩,by omega⟩
   ·have hkn:k=f.params.length:=by simp at ck;omega
    subst hkn
    have hPar:uQ f:=fun i h=>hP i h h
    refine zz (bt.know (t:=3) (rows:=(bL f).map jZ) Z .t1 (by intro r hr;obtain ⟨x,_,rfl⟩:=List.mem_map.1 hr;rfl) (by decide) (by simp))<|zz (bt.know (t:=4) (rows:=(bT f).map jZ) Z .head (by intro r hr;obtain ⟨x,_,rfl⟩:=List.mem_map.1 hr;rfl) (by decide) (by simp))<|zu<|aj<|aY Z<|ad Z4 Z<|z8 (Gv.leq Z Z)<|ah Z<|zi (s:=56) Z (fun c3=>?_) (fun c3=>?_)
    ·refine z6 Z Z c3<|ax j4 Z je Z Z<|z6 Z Z c3<|aU jj Z<|z6 Z Z c3<|ad j6 Z<|z6 Z Z c3<|aY Z<|z6 Z Z c3<|ad Z4 Z<|z6 Z Z c3<|z8 (Gv.minI Z Z)<|z6 Z Z c3<|z8 (Gv.leq Z Z)<|ai Z c3 Z<|ah Z<|zi (s:=65) Z (fun c4=>?_) (fun c4=>?_)
     ·refine z6 Z Z c4<|aY Z<|z6 Z Z c4<|ad Z4 Z<|z6 Z Z c4<|z8 (Gv.geq Z Z)<|ai Z c4 Z<|ah Z<|zi (s:=70) Z (fun c5=>?_) (fun c5=>?_)
      ·refine z6 Z Z c5<|aY Z<|z6 Z Z c5<|ad Z4 Z<|z6 Z Z c5<|z8 (Gv.leq Z Z)<|ai Z c5 Z<|ah Z<|zi (s:=75) Z (fun c6=>?_) (fun c6=>?_)
       ·refine z6 Z Z c6<|aY Z<|z6 Z Z c6<|zc (gp (bL f) (by omega) (fun s hs=>by obtain ⟨v,hv,rfl⟩:=List.mem_map.1 hs;exact hn.1 v hv) hL) Z<|ai Z c6 Z<|ah Z<|zi (s:=79) Z (fun c7=>?_) (fun c7=>?_)
        ·refine z6 Z Z c7<|aY Z<|z6 Z Z c7<|zc (gp (bT f) (by omega) (fun s hs=>by obtain ⟨v,hv,rfl⟩:=List.mem_map.1 hs;exact hn.2 v hv) hL) Z<|ai Z c7 Z<|ae Z<|z7<|zd<|zg (x:=.bool _) Z ?_
         exact jb (by unfold dc fh;simp_all<;>grind)
        ·refine z2 Z Z c7<|z2 Z Z c7<|ak Z c7 Z<|ae Z<|z7<|zd<|zg (x:=.bool _) Z ?_
         exact jb (by unfold dc fh;simp_all<;>grind)
       ·refine z2 Z Z c6<|z2 Z Z c6<|ak Z c6 Z<|ah Z<|z2 Z Z Z<|z2 Z Z Z<|ak Z Z Z<|ae Z<|z7<|zd<|zg (x:=.bool _) Z ?_
        exact jb (by unfold dc fh;simp_all<;>grind)
      ·refine z2 Z Z c5<|z2 Z Z c5<|z2 Z Z c5<|ak Z c5 Z<|ah Z<|z2 Z Z Z<|z2 Z Z Z<|ak Z Z Z<|ah Z<|z2 Z Z Z<|z2 Z Z Z<|ak Z Z Z<|ae Z<|z7<|zd<|zg (x:=.bool _) Z ?_
       exact jb (by unfold dc fh;simp_all<;>grind)
     ·refine z2 Z Z c4<|z2 Z Z c4<|z2 Z Z c4<|ak Z c4 Z<|ah Z<|z2 Z Z Z<|z2 Z Z Z<|z2 Z Z Z<|ak Z Z Z<|ah Z<|z2 Z Z Z<|z2 Z Z Z<|ak Z Z Z<|ah Z<|z2 Z Z Z<|z2 Z Z Z<|ak Z Z Z<|ae Z<|z7<|zd<|zg (x:=.bool _) Z ?_
      exact jb (by unfold dc fh;simp_all<;>grind)
    ·refine z2 Z Z c3<|z2 Z Z c3<|z2 Z Z c3<|z2 Z Z c3<|z2 Z Z c3<|z2 Z Z c3<|z2 Z Z c3<|ak Z c3 Z<|ah Z<|z2 Z Z Z<|z2 Z Z Z<|z2 Z Z Z<|ak Z Z Z<|ah Z<|z2 Z Z Z<|z2 Z Z Z<|z2 Z Z Z<|ak Z Z Z<|ah Z<|z2 Z Z Z<|z2 Z Z Z<|ak Z Z Z<|ah Z<|z2 Z Z Z<|z2 Z Z Z<|ak Z Z Z<|ae Z<|z7<|zd<|zg (x:=.bool _) Z ?_
     exact jb (by unfold dc fh;simp_all<;>grind)
def eB (f:ap) (p:dv):Bool:=!decide (p.args.length=0)&&decide (p.args.length=p.from_.length)&&bb f p.dst&&p.args.all (bb f)&&p.from_.all (da f)
theorem rq (f:ap) (v:Int):aQ prog E 74 ([.int .i64 v]++[.pf (bP f)]) (.bool (!da f v)):=by
 refine zk func74 Z (by decide) Z<|aj<|ae Z<|z7<|aj<|aa j9 j5 Z Z<|ab Z<|zc (gO _ _) Z<|aJ Z<|ae Z<|z7<|zd<|zg (x:=.bool _) Z ?_
 rfl
theorem sE (f:ap) (p:dv) (hp:nu p):aQ prog E 54 [.agg (bP f),.agg (bm p)] (.bool (eB f p)):=by
 have hl1:=hp.1.lt
 have hl2:=hp.2.lt
 refine zk func54 Z (by decide) Z<|aj<|zy (cs:=_) Z Z Z<|zy (cs:=_) Z Z Z<|ae Z<|z7<|za<|aj<|ax jd Z je Z Z<|aU jj Z<|ad j6 Z<|aA Z Z<|ah Z<|zi (s:=9) Z (fun c8=>?_) (fun c8=>?_)
 ·refine z2 Z Z c8<|z2 Z Z c8<|z2 Z Z c8<|z2 Z Z c8<|z2 Z Z c8<|z2 Z Z c8<|z2 Z Z c8<|ai Z c8 Z<|ah Z<|z2 Z Z Z<|z2 Z Z Z<|z2 Z Z Z<|z2 Z Z Z<|z2 Z Z Z<|ai Z Z Z<|ah Z<|z2 Z Z Z<|z2 Z Z Z<|z2 Z Z Z<|z2 Z Z Z<|z2 Z Z Z<|ai Z Z Z<|z7<|y9 Z Z<|aj<|ae Z<|z7<|zd<|zg (x:=.bool _) Z ?_
  exact jb (by have:=List.any_eq_not_all_not (l:=p.from_) (p:=fun x=>!da f x);simp_all[eB,Int.ofNat_inj]<;>grind)
 ·refine z6 Z Z c8<|ax jd Z je Z Z<|z6 Z Z c8<|aU jj Z<|z6 Z Z c8<|ad j6 Z<|z6 Z Z c8<|ax jd Z je Z Z<|z6 Z Z c8<|aU jj Z<|z6 Z Z c8<|ad j6 Z<|z6 Z Z c8<|aD Z Z<|ak Z c8 Z<|ah Z<|zi (s:=18) Z (fun c9=>?_) (fun c9=>?_)
  ·refine z2 Z Z c9<|z2 Z Z c9<|z2 Z Z c9<|z2 Z Z c9<|z2 Z Z c9<|ai Z c9 Z<|ah Z<|z2 Z Z Z<|z2 Z Z Z<|z2 Z Z Z<|z2 Z Z Z<|z2 Z Z Z<|ai Z Z Z<|z7<|y9 Z Z<|aj<|ae Z<|z7<|zd<|zg (x:=.bool _) Z ?_
   exact jb (by have:=List.any_eq_not_all_not (l:=p.from_) (p:=fun x=>!da f x);simp_all[eB,Int.ofNat_inj]<;>grind)
  ·refine z6 Z Z c9<|aa j9 j5 Z Z<|z6 Z Z c9<|ax jd Z jc Z Z<|z6 Z Z c9<|aP jf Z<|z6 Z Z c9<|zc (eN _ _) Z<|z6 Z Z c9<|aJ Z<|ak Z c9 Z<|ah Z<|zi (s:=25) Z (fun c10=>?_) (fun c10=>?_)
   ·refine z2 Z Z c10<|z2 Z Z c10<|z2 Z Z c10<|z2 Z Z c10<|z2 Z Z c10<|ai Z c10 Z<|z7<|y9 Z Z<|aj<|ae Z<|z7<|zd<|zg (x:=.bool _) Z ?_
    exact jb (by have:=List.any_eq_not_all_not (l:=p.from_) (p:=fun x=>!da f x);simp_all[eB,Int.ofNat_inj]<;>grind)
   ·refine z6 Z Z c10<|aa j9 j5 Z Z<|z6 Z Z c10<|ax jd Z je Z Z<|z6 Z Z c10<|aU jj Z<|z6 Z Z c10<|zc (kq f p.args (by omega)) Z<|z6 Z Z c10<|aJ Z<|ak Z c10 Z<|z7<|zn Z (fun c11=>?_) (fun c11=>?_)
    ·refine aj<|ae Z<|z7<|zd<|zg (x:=.bool _) Z ?_
     exact jb (by have:=List.any_eq_not_all_not (l:=p.from_) (p:=fun x=>!da f x);simp_all[eB,Int.ofNat_inj]<;>grind)
    ·refine ze<|aj<|ax jd Z je Z Z<|aU jj Z<|z8 (Gv.func Z Z)<|zc (dF p.from_ (by omega) (rq f)) Z<|aJ Z<|ae Z<|z7<|zd<|zg (x:=.bool _) Z ?_
     exact jb (by have:=List.any_eq_not_all_not (l:=p.from_) (p:=fun x=>!da f x);simp_all[eB,Int.ofNat_inj]<;>grind)
end
section
open Go.Proofs.Tryz
open Go.Proofs Go.Lib Go.Shelf Go.RowKit
set_option maxRecDepth 20000
variable {E:World}
theorem gG {p:dv→Bool} {fn:FuncId} {c:List AV} (xs:List dv) (hl:xs.length≤281474976710656) (hp:∀x∈xs,aQ prog E fn ([.agg (bm x)]++c) (.bool (p x))) :
  aQ prog E 71 [.fro 3 (xs.map bm),.fn fn [] c] (.int .i64 (b7 p xs 0)):=by
 refine zk func71 Z (by decide) Z<|aj<|aw Z<|z7<|za<|aj<|aY Z<|ad ji Z<|ab Z<|z7<|zh<|zt (γ:=Nat) [0,1,7] (fun k=>[(8,.int .i64 k)]) (fun k=>[]) (fun k=>k≤xs.length∧(xs.take k).all (fun x=>!p x)) (fun k=>xs.length - k) 0 bg aX (⟨yw _,Z⟩) ?_
 rintro k ⟨hk,hall⟩
 refine aj<|aB Z Z<|z7<|za<|zq Z (fun ck=>?_) (fun ck=>?_)
 ·have hk2:k<xs.length:=by omega
  refine ze<|za<|zh<|aj<|ab Z<|aw Z<|z7<|aj<|z8 (zw (v:=.fn _ _ _) Z)<|aY Z<|ab Z<|z8 (yc ji jq Z Z Z (yt (by omega)))<|aa isAgg77 jq Z Z<|aq.callVP Z (hp _ (yx hk2)) Z<|z7<|zn Z (fun cp=>?_) (fun cp=>?_)
  ·refine aj<|ab Z<|aw Z<|z7<|zd<|zg (x:=.int _ _) Z ?_
   rw[bH p xs k hk hall,List.drop_eq_getElem_cons hk2,b7,if_pos cp]
  ·refine ze<|bA<|aI Z Z<|ab Z<|z7 ?_
   exact ⟨k+1,r3,bg,aX,⟨hk2,by rw[yu hk2,List.all_append,hall];simp[cp]⟩,by omega⟩
 ·have hkn:k=xs.length:=by omega
  refine zu<|aj<|aw Z<|z7<|zd<|zg (x:=.int _ _) Z ?_
  rw[bH p xs k hk hall,hkn,List.drop_length,b7]
theorem fq {p:dv→Bool} {fn:FuncId} {c:List AV} (xs:List dv) (hl:xs.length≤281474976710656) (hp:∀x∈xs,aQ prog E fn ([.agg (bm x)]++c) (.bool (p x))) :
  aQ prog E 52 [.fro 3 (xs.map bm),.fn fn [] c] (.bool (xs.any p)):=by
 refine zk func52 Z (by decide) Z<|aj<|ae Z<|z7<|aj<|aY Z<|z8 (zw (v:=.fn _ _ _) Z)<|zc (gG xs hl hp) Z<|z8 (Gv.geq Z Z)<|ae Z<|z7<|zd<|zg (x:=.bool _) Z ?_
 rw[dZ]
theorem gH {p:aN→Bool} {fn:FuncId} {c:List AV} (xs:List aN) (hl:xs.length≤281474976710656) (hp:∀x∈xs,aQ prog E fn ([.agg (aW x)]++c) (.bool (p x))) :
  aQ prog E 76 [.fro 4 (xs.map aW),.fn fn [] c] (.int .i64 (b7 p xs 0)):=by
 refine zk func76 Z (by decide) Z<|aj<|aw Z<|z7<|za<|aj<|aY Z<|ad ja Z<|ab Z<|z7<|zh<|zt (γ:=Nat) [0,1,7] (fun k=>[(8,.int .i64 k)]) (fun k=>[]) (fun k=>k≤xs.length∧(xs.take k).all (fun x=>!p x)) (fun k=>xs.length - k) 0 bg aX (⟨yw _,Z⟩) ?_
 rintro k ⟨hk,hall⟩
 refine aj<|aB Z Z<|z7<|za<|zq Z (fun ck=>?_) (fun ck=>?_)
 ·have hk2:k<xs.length:=by omega
  refine ze<|za<|zh<|aj<|ab Z<|aw Z<|z7<|aj<|z8 (zw (v:=.fn _ _ _) Z)<|aY Z<|ab Z<|z8 (yc ja jh Z Z Z (yt (by omega)))<|aa Z7 jh Z Z<|aq.callVP Z (hp _ (yx hk2)) Z<|z7<|zn Z (fun cp=>?_) (fun cp=>?_)
  ·refine aj<|ab Z<|aw Z<|z7<|zd<|zg (x:=.int _ _) Z ?_
   rw[bH p xs k hk hall,List.drop_eq_getElem_cons hk2,b7,if_pos cp]
  ·refine ze<|bA<|aI Z Z<|ab Z<|z7 ?_
   exact ⟨k+1,r3,bg,aX,⟨hk2,by rw[yu hk2,List.all_append,hall];simp[cp]⟩,by omega⟩
 ·have hkn:k=xs.length:=by omega
  refine zu<|aj<|aw Z<|z7<|zd<|zg (x:=.int _ _) Z ?_
  rw[bH p xs k hk hall,hkn,List.drop_length,b7]
theorem fr {p:aN→Bool} {fn:FuncId} {c:List AV} (xs:List aN) (hl:xs.length≤281474976710656) (hp:∀x∈xs,aQ prog E fn ([.agg (aW x)]++c) (.bool (p x))) :
  aQ prog E 55 [.fro 4 (xs.map aW),.fn fn [] c] (.bool (xs.any p)):=by
 refine zk func55 Z (by decide) Z<|aj<|ae Z<|z7<|aj<|aY Z<|z8 (zw (v:=.fn _ _ _) Z)<|zc (gH xs hl hp) Z<|z8 (Gv.geq Z Z)<|ae Z<|z7<|zd<|zg (x:=.bool _) Z ?_
 rw[dZ]
theorem kU (f:ap) (p:dv) (hp:nu p):aQ prog E 53 ([.agg (bm p)]++[.pf (bP f)]) (.bool (!eB f p)):=by
 refine zk func53 Z (by decide) Z<|aj<|zy (cs:=_) Z Z Z<|ae Z<|z7<|aj<|aa j9 j5 Z Z<|aa isAgg77 jq Z Z<|zc (sE _ _ (by assumption)) Z<|aJ Z<|ae Z<|z7<|zd<|zg (x:=.bool _) Z ?_
 rfl
theorem kV (f:ap) (x:aN) (hx:jU x.args):aQ prog E 56 ([.agg (aW x)]++[.pf (bP f)]) (.bool (!bE f x)):=by
 refine zk func56 Z (by decide) Z<|aj<|zy (cs:=_) Z Z Z<|ae Z<|z7<|aj<|aa j9 j5 Z Z<|aa Z7 jh Z Z<|zc (q7 _ _ (by assumption)) Z<|aJ Z<|ae Z<|z7<|zd<|zg (x:=.bool _) Z ?_
 rfl
def dH (f:ap) (b:aC):Bool:=!(b.phis.any fun p=>!eB f p)&&!(b.insts.any fun x=>!bE f x)&&bj f b.term
theorem iI {f:ap} {b:aC} (h:(b.phis.any fun p=>!eB f p)=true):dH f b=false:=by unfold dH;rw[h];rfl
theorem iJ {f:ap} {b:aC} (h:(b.insts.any fun x=>!bE f x)=true):dH f b=false:=by unfold dH;rw[h];simp
theorem iK {f:ap} {b:aC} (h:(!bj f b.term)=true):dH f b=false:=by unfold dH;rw[show bj f b.term=false by simpa using h];simp
theorem sF {f:ap} {b:aC} (h1:(b.phis.any fun p=>!eB f p)=false) (h2:(b.insts.any fun x=>!bE f x)=false) (h3:(!bj f b.term)=false):dH f b=true:=by unfold dH;rw[h1,h2,show bj f b.term=true by simpa using h3];rfl
def cJ (f:ap):Bool:=decide (dc f)&&(f.blocks.all (dH f)&&decide (dq f.blocks≤1024))
theorem lW (f:ap) (hf:iw f) (h1:f.vars.length≤100000000) (h2:f.blocks.length≤100000000) (hp:f.params.length≤100000000) (hn:fG f) (hL:ac E):aQ prog E 34 [.agg (bP f)] (.bool (cJ f)):=by
 refine zk func34 Z (by decide) Z<|aj<|zy (cs:=_) Z Z Z<|ae Z<|z7<|za<|aj<|aa j9 j5 Z Z<|zc (lV _ (by omega) (by omega) (by omega) (by assumption) hL) Z<|aJ Z<|z7<|zn Z (fun cn=>?_) (fun cn=>?_)
 ·refine aj<|ae Z<|z7<|zd<|zg (x:=.bool _) Z ?_
  exact jb (by unfold cJ;rw[show decide (dc f)=false by simpa using cn];rfl)
 ·have hN:dc f:=by simpa using cn
  have hbl:=hN.2.2.1.2.2.2.2
  refine ze<|aj<|aw Z<|z7<|za<|aj<|ax j4 Z jp Z Z<|aU jw Z<|ad j8 Z<|ab Z<|z7<|zh<|zt (γ:=Nat) [1,11,12] (fun k=>[(3,.int .i64 (dq (f.blocks.take k))),(13,.int .i64 k)]) (fun k=>[]) (fun k=>k≤f.blocks.length∧dq (f.blocks.take k)≤k*562949953421312∧(f.blocks.take k).all (dH f)=true) (fun k=>f.blocks.length - k) 0 fT aX (⟨yw _,yw _,Z⟩) ?_
  rintro k ⟨hk,hsum,hall⟩
  refine aj<|aB Z Z<|z7<|za<|zq Z (fun ck=>?_) (fun ck=>?_)
  ·have hk2:k<f.blocks.length:=by simp at ck;omega
   obtain ⟨b,hbk⟩:∃b,f.blocks[k]=b:=⟨_,rfl⟩
   have hget:f.blocks[k]?=some b:=by rw[yt hk2,hbk]
   have hb:=hf.2.2.2 b (hbk▸yx hk2)
   have hb1:=hb.1.lt
   have hb2:=hb.2.1.lt
   have hsucc:=iz f.blocks k hk2
   rw[hbk] at hsucc
   refine ze<|za<|zh<|aj<|z8 (eO k j8 jg Z Z Z hget)<|aa Zc jg Z Z<|zo (cs:=[.str ⟨#[]⟩,.raw (.slice none 0 0),.raw (.slice none 0 0),.int .i64 0,.int .i64 0,.int .i64 0,.int .i64 0]) jt Z Z<|fun i5=>zm jg Z Z Z Z Z Z .head Z<|z7<|aj<|ab Z<|z8 (zf wy Z Z2 (by decide) Z Z)<|z8 (zj (c:=.fro _ _) Zd Z ⟨_,.head⟩ Z)<|ad ji Z<|z8 (zf wy Z jl (by decide) Z Z)<|z8 (zj (c:=.fro _ _) Z0 Z ⟨_,.head⟩ Z)<|ad ja Z<|aI Z Z<|aI Z Z<|aw Z<|z7<|aj<|z8 (zf wy Z Z2 (by decide) Z Z)<|z8 (zj (c:=.fro _ _) Zd Z ⟨_,.head⟩ Z)<|z8 (Gv.func Z Z)<|zc (fq b.phis (by omega) (fun p hp=>kU f p (hb.2.2.1 p hp))) Z<|ah Z<|zi (s:=30) Z (fun c1=>?_) (fun c1=>?_)
   ·refine z2 Z Z c1<|z2 Z Z c1<|z2 Z Z c1<|z2 Z Z c1<|ai Z c1 Z<|ae Z<|z7<|aj<|ah Z<|ah Z<|z2 Z Z Z<|z2 Z Z Z<|z2 Z Z Z<|z2 Z Z Z<|z2 Z Z Z<|ai Z Z Z<|z7<|y9 Z Z<|aj<|ae Z<|z7<|zd<|zg (x:=.bool _) Z ?_
    exact jb (by unfold cJ;rw[show f.blocks.all (dH f)=false from Bool.eq_false_iff.2 (dw hk2 (by rw[hbk];first|exact iI (by assumption)|exact iJ (by assumption)|exact iK (by assumption)))];simp)
   ·refine z6 Z Z c1<|z8 (zf wy Z jl (by decide) Z Z)<|z6 Z Z c1<|z8 (zj (c:=.fro _ _) Z0 Z ⟨_,.head⟩ Z)<|z6 Z Z c1<|z8 (Gv.func Z Z)<|z6 Z Z c1<|zc (fr b.insts (by omega) (fun x hx=>kV f x (hb.2.2.2 x hx))) Z<|ak Z c1 Z<|ae Z<|z7<|aj<|ah Z<|ah Z<|zi (s:=37) Z (fun c2=>?_) (fun c2=>?_)
    ·refine z2 Z Z c2<|z2 Z Z c2<|z2 Z Z c2<|z2 Z Z c2<|z2 Z Z c2<|ai Z c2 Z<|z7<|y9 Z Z<|aj<|ae Z<|z7<|zd<|zg (x:=.bool _) Z ?_
     exact jb (by unfold cJ;rw[show f.blocks.all (dH f)=false from Bool.eq_false_iff.2 (dw hk2 (by rw[hbk];first|exact iI (by assumption)|exact iJ (by assumption)|exact iK (by assumption)))];simp)
    ·refine z6 Z Z c2<|aa j9 j5 Z Z<|z6 Z Z c2<|z8 (zf wy Z Z6 (by decide) Z Z)<|z6 Z Z c2<|z8 (Gv.loadAC (l:=[_,_,_,_]) isAgg60 Z6 Z ⟨_,.head⟩ Z Z)<|z6 Z Z c2<|zc (q8 _ _) Z<|z6 Z Z c2<|aJ Z<|ak Z c2 Z<|z7<|zn Z (fun c3=>?_) (fun c3=>?_)
     ·refine aj<|ae Z<|z7<|zd<|zg (x:=.bool _) Z ?_
      exact jb (by unfold cJ;rw[show f.blocks.all (dH f)=false from Bool.eq_false_iff.2 (dw hk2 (by rw[hbk];first|exact iI (by assumption)|exact iJ (by assumption)|exact iK (by assumption)))];simp)
     ·refine ze<|bA<|aI Z Z<|ab Z<|z7 ?_
      exact ⟨k+1,r3,⟨congrArg (AV.int .i64) (by rw[hsucc];omega),rfl,trivial⟩,⟨_,(.drop (.refl _)),rfl⟩,⟨hk2,by rw[hsucc];omega,bS hk2 hall (by rw[hbk];exact sF (by assumption) (by assumption) (by assumption))⟩,by omega⟩
  ·have hkn:k=f.blocks.length:=by simp at ck;omega
   subst hkn
   rw[yy] at hall ⊢
   refine zu<|aj<|ab Z<|z8 (Gv.leq Z Z)<|ae Z<|z7<|zd<|zg (x:=.bool _) Z ?_
   exact jb (by unfold cJ;rw[decide_eq_true hN,hall];simp;omega)
theorem ky (f:ap) (p:dv):eB f p=true↔q9 f p:=by
 unfold eB q9
 simp only[q1,Bool.not_eq_true',decide_eq_false_iff_not,decide_eq_true_eq]
 constructor
 ·rintro ⟨⟨⟨⟨h1,h2⟩,h3⟩,h4⟩,h5⟩;exact ⟨h3,h2,by omega,h4,h5⟩
 ·rintro ⟨h3,h2,h1,h4,h5⟩;exact ⟨⟨⟨⟨by omega,h2⟩,h3⟩,h4⟩,h5⟩
theorem kz (t:Int):¬ej t=⟨#[]⟩↔0≤t∧t≤2:=by
 unfold ej
 constructor
 ·intro h
  by_cases h0:t=0
  ·omega
  ·by_cases h1:t=1
   ·omega
   ·by_cases h2:t=2
    ·omega
    ·rw[if_neg h0,if_neg h1,if_neg h2] at h;exact absurd rfl h
 ·intro h e
  have:t=0∨t=1∨t=2:=by omega
  rcases this with rfl|rfl|rfl<;>exact absurd e (by decide)
theorem rt (f:ap) (b:aC):dH f b=true↔re f b:=by
 unfold dH re
 simp only[q1,Bool.not_eq_true',List.any_eq_false,Bool.not_eq_false]
 constructor
 ·rintro ⟨⟨h1,h2⟩,h3⟩
  exact ⟨fun p hp=>(ky f p).1 (by simpa using h1 p hp),fun x hx=>(iD f x).1 (by simpa using h2 x hx),h3⟩
 ·rintro ⟨h1,h2,h3⟩
  exact ⟨⟨fun p hp=>by simpa using (ky f p).2 (h1 p hp),fun x hx=>by simpa using (iD f x).2 (h2 x hx)⟩,h3⟩
theorem sG {l:List ByteArray}:mO l↔∀i (h:i<l.length),cx l[i]=true∧l[i] ∉ l.take i:=by
 unfold mO
 constructor<;>intro h i hi
 ·exact ⟨(h i hi).1,fun hm=>by have:=nE.2 hm;rw[(h i hi).2] at this;cases this⟩
 ·exact ⟨(h i hi).1,Bool.eq_false_iff.2 fun hm=>(h i hi).2 (nE.1 hm)⟩
theorem nG {f:ap} {i:Nat} (h:i<(bL f).length) (h':i<f.vars.length):(bL f)[i]=f.vars[i].name:=by
 have:(bL f)[i]?=some f.vars[i].name:=by unfold bL;rw[List.getElem?_map,yt h'];rfl
 rw[yt h] at this
 simpa using this
theorem nH {f:ap} {i:Nat} (h:i<(bT f).length) (h':i<f.blocks.length):(bT f)[i]=f.blocks[i].name:=by
 have:(bT f)[i]?=some f.blocks[i].name:=by unfold bT;rw[List.getElem?_map,yt h'];rfl
 rw[yt h] at this
 simpa using this
theorem el (f:ap):cJ f=decide (cI f):=by
 rw[Bool.eq_iff_iff,decide_eq_true_iff]
 unfold cJ
 simp only[q1,decide_eq_true_iff,List.all_eq_true,rt]
 unfold dc fh cI kO
 simp only[sG]
 constructor
 ·rintro ⟨⟨h1,h2,⟨g1,g2,g3,g4,g5⟩,h4,h5⟩,h6,h7⟩
  refine ⟨?_,h2,fun i h=>?_,fun i h=>?_,h7,h6⟩
  ·simp;omega
  ·have ht:=(kz _).1 (h1 i h)
   have hu:=h4 i (by unfold bL;simpa using h)
   have e:=nG (f:=f) (i:=i) (by unfold bL;simpa using h) h
   rw[e] at hu
   exact ⟨by rw[gQ];exact hu.1,ht.1,ht.2,fun s hs e2=>hu.2 (by unfold bL;rw[←List.map_take,←e2];exact hs)⟩
  ·have hu:=h5 i (by unfold bT;simpa using h)
   have e:=nH (f:=f) (i:=i) (by unfold bT;simpa using h) h
   rw[e] at hu
   exact ⟨by rw[gQ];exact hu.1,fun s hs e2=>hu.2 (by unfold bT;rw[←List.map_take,←e2];exact hs)⟩
 ·rintro ⟨h1,h2,h3,h4,h7,h6⟩
  simp at h1
  refine ⟨⟨fun i h=>(kz _).2 ⟨(h3 i h).2.1,(h3 i h).2.2.1⟩,h2,by omega,fun i h=>?_,fun i h=>?_⟩,h6,h7⟩
  ·have h':i<f.vars.length:=by simpa using h
   have e:=nG h h'
   rw[e]
   exact ⟨by rw[←gQ];exact (h3 i h').1,fun hm=>(h3 i h').2.2.2 _ (by unfold bL at hm;rw[←List.map_take] at hm;exact hm) rfl⟩
  ·have h':i<f.blocks.length:=by simpa using h
   have e:=nH h h'
   rw[e]
   exact ⟨by rw[←gQ];exact (h4 i h').1,fun hm=>(h4 i h').2 _ (by unfold bT at hm;rw[←List.map_take] at hm;exact hm) rfl⟩
end
end Go.Proofs.YtbconpmnckokoaaGreatDoor
