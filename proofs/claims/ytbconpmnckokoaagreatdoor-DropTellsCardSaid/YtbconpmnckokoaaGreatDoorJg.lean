/- The document's typed; the laws' typed, single and plain. Of programs that are little. -/
import Derived.Test.YtbconpmnckokoaaGreatDoorJf
import Derived.Test.YtbconpmnckokoaaGreatDoorJe
import Derived.LaidEqlPtr
set_option linter.unusedVariables false
set_option linter.unusedSimpArgs false
set_option linter.unusedSectionVars false
namespace Go.Proofs.YtbconpmnckokoaaGreatDoor
section
open Go.Proofs.Tryz
open Go.Proofs Go.Lib Go.Shelf Go.RowKit
variable {E:World}
set_option maxRecDepth 20000
def eS (f:ap) (b:aC):Bool:=b.phis.all (kT f)&&b.insts.all (eA f)&&bY f b.term
def b8 (f:ap):Bool:=cJ f&&f.blocks.all (eS f)
theorem small.shaped {f:ap} (hf:small f) (hL:ac E):aQ prog E 34 [.agg (bP f)] (.bool (cJ f)):=
 lW f hf.ok (by have:=hf.1;omega) (by have:=hf.2.2.1;omega) (by have:=hf.2.1;omega) hf.names hL
theorem fI {f:ap} {t:fE} (h:bj f t=true) (hk:¬t.kind=0):bb f t.var=true:=by
 unfold bj at h
 rw[if_neg hk] at h
 split at h
 ·simp only[q1] at h;exact h.1.1
 ·split at h
  ·simp only[q1] at h;exact h.1
  ·cases h
theorem dI (f:ap) (hf:small f) (hL:ac E):aQ prog E 23 [.agg (bP f)] (.int .i64 (if b8 f then 0 else 3)):=by
 have hok:=hf.ok
 refine zk func23 Z (by decide) Z<|aj<|zy (cs:=_) Z Z Z<|aw Z<|z7<|za<|aj<|aa j9 j5 Z Z<|zc (hf.shaped hL) Z<|aJ Z<|z7<|zn Z (fun cs=>?_) (fun cs=>?_)
 ·refine aj<|aw Z<|z7<|zd<|zg (x:=.int _ _) Z ?_
  unfold b8;rw[show cJ f=false by simpa using cs];rfl
 ·have hsb:cJ f=true:=by simpa using cs
  have hS:cI f:=by rw[el] at hsb;exact of_decide_eq_true hsb
  have hB:=hS.2.2.2.2.2
  have hfl:=hok.2.2.1.lt
  refine ze<|za<|aj<|ax j4 Z jp Z Z<|aU jw Z<|ad j8 Z<|ab Z<|z7<|zh<|zt (γ:=Nat) [1,13,14] (fun k=>[(15,.int .i64 k)]) (fun k=>[]) (fun k=>k≤f.blocks.length∧(f.blocks.take k).all (eS f)=true) (fun k=>f.blocks.length - k) 0 bg aX (⟨yw _,Z⟩) ?_
  rintro k ⟨hk,hall⟩
  refine aj<|aB Z Z<|z7<|za<|zq Z (fun ck=>?_) (fun ck=>?_)
  ·have hk2:k<f.blocks.length:=by simp at ck;omega
   obtain ⟨b,hbk⟩:∃b,f.blocks[k]=b:=⟨_,rfl⟩
   have hget:f.blocks[k]?=some b:=by rw[yt hk2,hbk]
   have hmem:b∈f.blocks:=hbk▸yx hk2
   obtain ⟨hph,hin,htm⟩:=hB b hmem
   have hbad:eS f b=false→b8 f=false:=fun h=>by unfold b8;rw[Bool.eq_false_iff.2 (dw hk2 (by rw[hbk];exact h))];simp
   have hs5:=hok.2.2.2 b hmem
   have hpl:=hs5.1.lt
   have hil:=hs5.2.1.lt
   refine ze<|za<|zh<|aj<|z8 (eO k j8 jg Z Z Z hget)<|aa Zc jg Z Z<|zo (cs:=[.str ⟨#[]⟩,.raw (.slice none 0 0),.raw (.slice none 0 0),.int .i64 0,.int .i64 0,.int .i64 0,.int .i64 0]) jt Z Z<|fun i4=>zm jg Z Z Z Z Z Z .head Z<|yq (ye (t:=4) Z .head)<|z7<|za<|aj<|ax wy Z Z2 Z Z<|aU Zd Z<|ad ji Z<|ab Z<|z7<|zh<|zt (γ:=Nat) [1,4,13,14,15,20,21] (fun p=>[(22,.int .i64 p)]) (fun p=>[]) (fun p=>p≤b.phis.length∧(b.phis.take p).all (kT f)=true) (fun p=>b.phis.length - p) 0 bg aX (⟨yw _,Z⟩) ?_
   rintro p ⟨hp,hpall⟩
   refine aj<|aB Z Z<|z7<|za<|zq Z (fun cp=>?_) (fun cp=>?_)
   ·have hp2:p<b.phis.length:=by simp at cp;omega
    have hpm:=yx hp2
    have hP:=hph _ hpm
    refine ze<|za<|zh<|aj<|z8 (eO p ji jq Z Z Z (yt hp2))<|aa isAgg77 jq Z Z<|zo (cs:=[.int .i64 0,.raw (.slice none 0 0),.raw (.slice none 0 0)]) Z9 Z Z<|fun i6=>zm jq Z Z Z Z Z Z .head Z<|yq (ye (t:=6) Z .head)<|z7<|aj<|aa j9 j5 Z Z<|aa isAgg77 jq Z Z<|zc (rp f b.phis[p] (hs5.2.2.1 _ hpm) hP.2.2.2.1 hP.1) Z<|aJ Z<|z7<|zn Z (fun cq=>?_) (fun cq=>?_)
    ·refine aj<|aw Z<|z7<|zd<|zg (x:=.int _ _) Z ?_
     rw[hbad (by unfold eS;rw[Bool.eq_false_iff.2 (dw hp2 (by simpa using cq))];rfl)];rfl
    ·refine ze<|bA<|aI Z Z<|ab Z<|z7 ?_
     exact ⟨p+1,jT,bg,aX,⟨hp2,bS hp2 hpall (by simpa using cq)⟩,by omega⟩
   ·have hpn:p=b.phis.length:=by simp at cp;omega
    subst hpn
    rw[yy] at hpall
    refine zu<|za<|aj<|ax wy Z jl Z Z<|aU Z0 Z<|ad ja Z<|ab Z<|z7<|zh<|zt (γ:=Nat) [1,4,13,14,15,32,33] (fun q=>[(34,.int .i64 q)]) (fun q=>[]) (fun q=>q≤b.insts.length∧(b.insts.take q).all (eA f)=true) (fun q=>b.insts.length - q) 0 bg aX (⟨yw _,Z⟩) ?_
    rintro q ⟨hq,hqall⟩
    refine aj<|aB Z Z<|z7<|za<|zq Z (fun cp2=>?_) (fun cp2=>?_)
    ·have hq2:q<b.insts.length:=by simp at cp2;omega
     have hqm:=yx hq2
     have hI:=nB (hin _ hqm)
     have hId:cf b.insts[q].op=true→bb f b.insts[q].dst=true:=fun h=>by
      rcases hI.dst with ⟨d1,_⟩|⟨_,_,d3⟩
      ·rw[h] at d1;cases d1
      ·exact d3
     refine ze<|za<|zh<|aj<|z8 (eO q ja jh Z Z Z (yt hq2))<|aa Z7 jh Z Z<|zo (cs:=[.int .i64 0,.int .i64 0,.raw (.slice none 0 0),.int .i64 0]) Z1 Z Z<|fun i8=>zm jh Z Z Z Z Z Z .head Z<|yq (ye (t:=8) Z .head)<|z7<|aj<|aa j9 j5 Z Z<|aa Z7 jh Z Z<|zc (mL f b.insts[q] (List.all_eq_true.2 hI.args) hI.len hId) Z<|aJ Z<|z7<|zn Z (fun cq=>?_) (fun cq=>?_)
     ·refine aj<|aw Z<|z7<|zd<|zg (x:=.int _ _) Z ?_
      rw[hbad (by unfold eS;rw[hpall,Bool.eq_false_iff.2 (dw hq2 (by simpa using cq))];rfl)];rfl
     ·refine ze<|bA<|aI Z Z<|ab Z<|z7 ?_
      exact ⟨q+1,jT,bg,aX,⟨hq2,bS hq2 hqall (by simpa using cq)⟩,by omega⟩
    ·have hqn:q=b.insts.length:=by simp at cp2;omega
     subst hqn
     rw[yy] at hqall
     refine zu<|aj<|aa j9 j5 Z Z<|ax wy Z Z6 Z Z<|aa isAgg60 Z6 Z Z<|zc (mN f b.term (fI htm)) Z<|aJ Z<|z7<|zn Z (fun ct=>?_) (fun ct=>?_)
     ·refine aj<|aw Z<|z7<|zd<|zg (x:=.int _ _) Z ?_
      rw[hbad (by unfold eS;rw[hpall,hqall];simpa using ct)];rfl
     ·refine ze<|bA<|aI Z Z<|ab Z<|z7 ?_
      exact ⟨k+1,r3,bg,aX,⟨hk2,bS hk2 hall (by rw[hbk];unfold eS;rw[hpall,hqall];simpa using ct)⟩,by omega⟩
  ·have hkn:k=f.blocks.length:=by simp at ck;omega
   subst hkn
   rw[yy] at hall
   refine zu<|aj<|aw Z<|z7<|zd<|zg (x:=.int _ _) Z ?_
   unfold b8;rw[hsb,hall];rfl
end
section
open Go.Proofs.Tryz
open Go.Proofs Go.Lib
def f7 (x:aN):Bool:=decide (18≤x.op)&&decide (x.op≤24)
def nI (x:aN):Nat:=if f7 x=true then 1 else 0
def bI:List aN→Nat
 |[]=>0
 |x::r=>nI x+bI r
def eT (l:List Bool) (n:Nat) (x:aN):Bool:=f7 x&&gb l n
def bO (l:List Bool):Nat→List aN→List aN
 |_,[]=>[]
 |n,x::r=>(if eT l n x=true then[] else[x])++bO l (n+nI x) r
def eU (l:List Bool):Nat→List aC→List aC
 |_,[]=>[]
 |n,b::bs=>{ b with insts:=bO l n b.insts }::eU l (n+bI b.insts) bs
def bV (l:List Bool) (f:ap):ap:={ f with blocks:=eU l 0 f.blocks }
def bc (bs:List aC) (i:Nat):Nat:=((bs.take i).map fun b=>bI b.insts).sum
theorem fa (x:aN) (r:List aN):bI (x::r)=nI x+bI r:=rfl
theorem ft (l:List Bool) (n:Nat) (x:aN) (r:List aN):bO l n (x::r)=(if eT l n x=true then[] else[x])++bO l (n+nI x) r:=rfl
theorem gq (l:List Bool) (n:Nat) (b:aC) (bs:List aC):eU l n (b::bs)={ b with insts:=bO l n b.insts }::eU l (n+bI b.insts) bs:=rfl
theorem lX {f:ap} (h:b8 f=true):cI f:=by
 unfold b8 at h
 simp only[q1] at h
 have:=h.1
 rw[el] at this
 exact of_decide_eq_true this
theorem iL:∀(a b:List aN),bI (a++b)=bI a+bI b
 |[],b=>by rw[List.nil_append];exact (Nat.zero_add _).symm
 |x::a,b=>by rw[List.cons_append,fa,fa,iL a b];omega
theorem kA (l:List Bool):∀(a b:List aN) (n:Nat),bO l n (a++b)=bO l n a++bO l (n+bI a) b
 |[],b,n=>rfl
 |x::a,b,n=>by rw[List.cons_append,ft,ft,fa,kA l a b,yv,Nat.add_assoc]
theorem d5 (l:List Bool):∀(a:List aN) (n:Nat),List.Sublist (bO l n a) a
 |[],_=>.slnil
 |x::a,n=>by
  rw[ft]
  split
  ·exact (d5 l a _).cons x
  ·exact (d5 l a _).cons_cons x
theorem iM (l:List Bool):∀(bs:List aC) (n:Nat),(eU l n bs).length=bs.length
 |[],_=>rfl
 |b::bs,n=>by rw[gq,List.length_cons,iM l bs,List.length_cons]
theorem fu (l:List Bool):∀(bs:List aC) (n i:Nat),(eU l n bs)[i]?=(bs[i]?).map fun b=>{ b with insts:=bO l (n+bc bs i) b.insts }
 |[],_,_=>rfl
 |b::bs,n,0=>rfl
 |b::bs,n,i+1=>by
  rw[gq,List.getElem?_cons_succ,List.getElem?_cons_succ,fu l bs]
  have:bc (b::bs) (i+1)=bI b.insts+bc bs i:=by unfold bc;rw[List.take_succ_cons,List.map_cons,List.sum_cons]
  rw[this,Nat.add_assoc]
theorem mP (l:List Bool) {bs:List aC} {n:Nat} {c:aC} (h:c∈eU l n bs):∃b∈bs,∃k,c={ b with insts:=bO l k b.insts }:=by
 obtain ⟨i,hi⟩:=List.getElem?_of_mem h
 rw[fu] at hi
 obtain ⟨b,hb,rfl⟩:=Option.map_eq_some_iff.1 hi
 exact ⟨b,List.mem_of_getElem? hb,_,rfl⟩
section
variable {l:List Bool} {f:ap}
theorem d6:(bV l f).blocks.length=f.blocks.length:=iM l _ _
theorem mQ (h:small f):small (bV l f):=by
 obtain ⟨h1,h2,h3,h4,h5⟩:=h
 refine ⟨h1,h2,by rw[d6];exact h3,h4,fun c hc=>?_⟩
 obtain ⟨b,hb,k,rfl⟩:=mP l hc
 obtain ⟨g1,g2,g3,g4,g5⟩:=h5 b hb
 exact ⟨g1,g2,Nat.le_trans (d5 l _ _).length_le g3,g4,fun x hx=>g5 x ((d5 l _ _).subset hx)⟩
variable {s t:GS} {g:Nat} {c:Nat→Nat}
theorem iN {x:aN} {m:List aN} {p:Nat} (h:m[p]?=some x):m.take (p+1)=m.take p++[x]:=by
 obtain ⟨h1,rfl⟩:=List.getElem?_eq_some_iff.1 h
 exact yu h1
end
end
section
open Go.Proofs.Tryz
open Go.Proofs Go.Lib
def pB (i:Nat):Nat→List aN→List (Int × Int)
 |_,[]=>[]
 |k,x::r=>(if f7 x=true then[((i:Int),(k:Int))] else[])++pB i (k+1) r
def pA:Nat→List aC→List (Int × Int)
 |_,[]=>[]
 |i,b::bs=>pB i 0 b.insts++pA (i+1) bs
theorem nJ (i:Nat) (x:aN):∀(l:List aN) (k:Nat),pB i k (l++[x])=pB i k l++if f7 x=true then[((i:Int),((k+l.length:Nat):Int))] else[]
 |[],k=>by show (if f7 x=true then _ else _)++pB i (k+1) []=_;simp[pB]
 |y::l,k=>by
  rw[List.cons_append]
  unfold pB
  rw[nJ i x l (k+1),yv,List.length_cons,show k+1+l.length=k+(l.length+1) by omega]
theorem nK (b:aC):∀(l:List aC) (i:Nat),pA i (l++[b])=pA i l++pB (i+l.length) 0 b.insts
 |[],i=>by show pB i 0 b.insts++pA (i+1) []=_;simp[pA]
 |y::l,i=>by
  rw[List.cons_append]
  unfold pA
  rw[nK b l (i+1),yv,List.length_cons,show i+1+l.length=i+(l.length+1) by omega]
theorem fv (i:Nat):∀(l:List aN) (k:Nat),(pB i k l).length=bI l
 |[],_=>rfl
 |x::l,k=>by
  show ((if f7 x=true then[((i:Int),(k:Int))] else[])++pB i (k+1) l).length=_
  rw[yz,fv i l,fa]
  unfold nI
  split<;>rfl
theorem sH:∀(l:List aC) (i:Nat),(pA i l).length=(l.map fun b=>bI b.insts).sum
 |[],_=>rfl
 |b::l,i=>by
  unfold pA
  rw[yz,fv,sH l,List.map_cons,List.sum_cons]
theorem nL {l:List aN} {i k:Nat} {x:aN} (h:l[k]?=some x):pB i 0 (l.take (k+1))=pB i 0 (l.take k)++if f7 x=true then[((i:Int),(k:Int))] else[]:=by
 obtain ⟨h1,rfl⟩:=List.getElem?_eq_some_iff.1 h
 rw[yu h1,nJ,List.length_take,Nat.min_eq_left (Nat.le_of_lt h1),Nat.zero_add]
theorem uS {l:List aC} {i:Nat} {b:aC} (h:l[i]?=some b):pA 0 (l.take (i+1))=pA 0 (l.take i)++pB i 0 b.insts:=by
 obtain ⟨h1,rfl⟩:=List.getElem?_eq_some_iff.1 h
 rw[yu h1,nK,List.length_take,Nat.min_eq_left (Nat.le_of_lt h1),Nat.zero_add]
theorem sI (i:Nat):∀(l:List aN) (k n:Nat) (z:Int × Int),(pB i k l)[n]?=some z→∃(m:Nat) (x:aN),l[m]?=some x∧f7 x=true∧z=((i:Int),((k+m:Nat):Int))∧n=bI (l.take m)
 |[],_,_,_,h=>by simp[pB] at h
 |x::l,k,n,z,h=>by
  unfold pB at h
  by_cases hx:f7 x=true
  ·rw[if_pos hx] at h
   cases n with
   |zero=>simp at h;exact ⟨0,x,rfl,hx,by rw[←h];rfl,rfl⟩
   |succ n=>
    obtain ⟨m,y,h1,h2,h3,h4⟩:=sI i l (k+1) n z (by simpa using h)
    exact ⟨m+1,y,h1,h2,by rw[h3,show k+1+m=k+(m+1) by omega],by rw[List.take_succ_cons];unfold bI nI;rw[if_pos hx];omega⟩
  ·rw[if_neg hx] at h
   obtain ⟨m,y,h1,h2,h3,h4⟩:=sI i l (k+1) n z (by simpa using h)
   exact ⟨m+1,y,h1,h2,by rw[h3,show k+1+m=k+(m+1) by omega],by rw[List.take_succ_cons];unfold bI nI;rw[if_neg hx];omega⟩
theorem wF:∀(l:List aC) (i n:Nat) (z:Int × Int),(pA i l)[n]?=some z→∃(j:Nat) (b:aC) (m:Nat) (x:aN),l[j]?=some b∧b.insts[m]?=some x∧f7 x=true∧z=(((i+j:Nat):Int),(m:Int))∧n=bc l j+bI (b.insts.take m)
 |[],_,_,_,h=>by simp[pA] at h
 |b::l,i,n,z,h=>by
  unfold pA at h
  by_cases hn:n<(pB i 0 b.insts).length
  ·rw[List.getElem?_append_left hn] at h
   obtain ⟨m,x,h1,h2,h3,h4⟩:=sI i _ _ _ _ h
   exact ⟨0,b,m,x,rfl,h1,h2,by rw[h3,Nat.zero_add];rfl,by rw[h4];unfold bc;simp⟩
  ·rw[List.getElem?_append_right (by omega)] at h
   obtain ⟨j,c,m,x,h1,h2,h3,h4,h5⟩:=wF l (i+1) _ z h
   refine ⟨j+1,c,m,x,h1,h2,h3,by rw[h4,show i+1+j=i+(j+1) by omega],?_⟩
   have:bc (b::l) (j+1)=bI b.insts+bc l j:=by unfold bc;rw[List.take_succ_cons,List.map_cons,List.sum_cons]
   rw[fv] at h5 hn
   rw[this];omega
theorem kW {l:List aN} {m:Nat} {x:aN} (h:l[m]?=some x) (hx:f7 x=true):bI (l.take m)<bI l:=by
 obtain ⟨h1,e⟩:=List.getElem?_eq_some_iff.1 h
 have:l=l.take m++(x::l.drop (m+1)):=by rw[←e,←List.drop_eq_getElem_cons h1,List.take_append_drop]
 conv=>rhs;rw[this]
 rw[iL]
 unfold bI nI
 rw[if_pos hx]
 cases e2:l.take m<;>(first|omega|(unfold bI;omega))
theorem sJ (i:Nat):∀(l:List aN) (k m:Nat) (x:aN),l[m]?=some x→f7 x=true→(pB i k l)[bI (l.take m)]?=some ((i:Int),((k+m:Nat):Int))
 |[],_,_,_,h,_=>by simp at h
 |y::l,k,0,x,h,hx=>by
  simp at h;subst h
  unfold pB
  rw[if_pos hx];rfl
 |y::l,k,m+1,x,h,hx=>by
  have:=sJ i l (k+1) m x (by simpa using h) hx
  rw[List.take_succ_cons]
  unfold pB bI nI
  split
  ·rw[Nat.add_comm 1,show k+(m+1)=k+1+m by omega]
   simpa using this
  ·rw[Nat.zero_add,show k+(m+1)=k+1+m by omega]
   simpa using this
theorem mR:∀(l:List aC) (i j m:Nat) (b:aC) (x:aN),l[j]?=some b→b.insts[m]?=some x→f7 x=true→(pA i l)[bc l j+bI (b.insts.take m)]?=some (((i+j:Nat):Int),(m:Int))
 |[],_,_,_,_,_,h,_,_=>by simp at h
 |c::l,i,0,m,b,x,h,h2,hx=>by
  simp at h;subst h
  have hp:=sJ i _ 0 _ _ h2 hx
  unfold pA
  have e:bc (c::l) 0=0:=rfl
  rw[e,Nat.zero_add,List.getElem?_append_left (by rw[fv];exact kW h2 hx),hp,Nat.zero_add];rfl
 |c::l,i,j+1,m,b,x,h,h2,hx=>by
  have:=mR l (i+1) j m b x (by simpa using h) h2 hx
  have e:bc (c::l) (j+1)=bI c.insts+bc l j:=by unfold bc;rw[List.take_succ_cons,List.map_cons,List.sum_cons]
  unfold pA
  rw[e,List.getElem?_append_right (by rw[fv];omega),fv,show bI c.insts+bc l j+bI (b.insts.take m) - bI c.insts=bc l j+bI (b.insts.take m) by omega,this,show i+1+j=i+(j+1) by omega]
theorem mS {l:List aC} {i:Nat} {b:aC} (h:l[i]?=some b):bc l (i+1)=bc l i+bI b.insts:=by
 obtain ⟨h1,rfl⟩:=List.getElem?_eq_some_iff.1 h
 unfold bc
 rw[yu h1,List.map_append,List.sum_append];simp
theorem sK {f:ap} {j m:Nat} {b:aC} {x:aN} (h:f.blocks[j]?=some b) (h2:b.insts[m]?=some x) (hx:f7 x=true):bc f.blocks j+bI (b.insts.take m)<(pA 0 f.blocks).length:=by
 have:=mR f.blocks 0 j m b x h h2 hx
 exact (List.getElem?_eq_some_iff.1 this).1
def gr (f:ap) (j m:Nat):Int:=match (f.blocks[j]?).bind fun b=>b.insts[m]? with
 |some x=>if f7 x=true then (bc f.blocks j+bI (((f.blocks[j]?).map (·.insts)).getD [] |>.take m):Nat) else -1
 |none=>-1
theorem iO {f:ap} {j m:Nat} {b:aC} {x:aN} (h:f.blocks[j]?=some b) (h2:b.insts[m]?=some x):gr f j m=if f7 x=true then ((bc f.blocks j+bI (b.insts.take m):Nat):Int) else -1:=by
 unfold gr;rw[h];simp[h2]
theorem ru {f:ap} {j m n:Nat} (h:(pA 0 f.blocks)[n]?=some ((j:Int),(m:Int))):gr f j m=n:=by
 obtain ⟨j',b,m',x,h1,h2,h3,h4,h5⟩:=wF _ _ _ _ h
 have e1:j=j':=by have:=(Prod.mk.inj h4).1;omega
 have e2:m=m':=by have:=(Prod.mk.inj h4).2;omega
 subst e1 e2
 rw[iO h1 h2,if_pos h3,h5]
theorem mT {f:ap} {j m:Nat} (h:∀n:Nat,(pA 0 f.blocks)[n]?≠some ((j:Int),(m:Int))):gr f j m=-1:=by
 cases hb:f.blocks[j]? with
 |none=>unfold gr;rw[hb];rfl
 |some b=>
  cases hx:b.insts[m]? with
  |none=>unfold gr;rw[hb];simp[hx]
  |some x=>
   rw[iO hb hx]
   by_cases hc:f7 x=true
   ·have:=mR f.blocks 0 j m b x hb hx hc
    rw[Nat.zero_add] at this
    exact absurd this (h _)
   ·rw[if_neg hc]
end
section
open Go.Proofs.Tryz
open Go.Proofs Go.Lib Go.Shelf Go.RowKit
variable {E:World}
set_option maxRecDepth 20000
def rv (x:Bool):List AV:=[.bool x]
end
section
open Go.Proofs.Tryz
section
variable {S:Int→List Int} {at_:Int→Int} {V:List Int} {N:Int→Int}
end
section
variable {S:Int→List Int} {at_ V:List Int} {preds:Int→List Int} {n:Nat}
end
section
variable {E:Int→List Int} {n:Nat}
end
end
section
open Go.Proofs.Tryz
open Go.Proofs
variable {E:World}
set_option maxRecDepth 20000
end
section
open Go.Proofs.Tryz
open Go.Proofs
variable {E:World}
set_option maxRecDepth 20000
end
section
open Go.Proofs.Tryz
section
variable {E:World} {P:Program} {env:aE} {O O' O'':OL}
variable {d ty:Nat} {pos:String} {af:Array Edge} {x y z:Operand} {t u e T:TypeId}
end
end
section
open Go.Proofs.Tryz
open Go.Proofs
variable {E:World}
set_option maxRecDepth 20000
section
variable {S:Int→List Int} {n:Nat} (hG:su S n)
include hG
end
end
section
open Go.Proofs.Tryz
open Go.Proofs
variable {E:World}
set_option maxRecDepth 20000
section
variable {S:Int→List Int} {n:Nat} (hG:su S n)
include hG
end
end
section
open Go.Proofs.Tryz
open Go.Proofs Go.Lib Go.Shelf Go.RowKit
variable {E:World}
set_option maxRecDepth 20000
end
section
open Go.Proofs.Tryz
open Go.Proofs Go.Lib Go.Shelf Go.RowKit
variable {E:World}
set_option maxRecDepth 20000
end
section
open Go.Proofs.Tryz
open Go.Proofs Go.Lib Go.Shelf Go.RowKit
variable {E:World}
set_option maxRecDepth 20000
end
section
open Go.Proofs.Tryz
open Go.Proofs Go.Lib Go.Shelf Go.RowKit
variable {E:World}
set_option maxRecDepth 20000
end
section
open Go.Proofs.Tryz
open Go.Proofs Go.Lib Go.Shelf Go.RowKit
variable {E:World}
set_option maxRecDepth 20000
end
section
open Go.Proofs.Tryz
open Go.Proofs Go.Lib Go.Shelf Go.RowKit
variable {E:World}
set_option maxRecDepth 20000
end
section
open Go.Proofs.Tryz
open Go.Proofs Go.Lib Go.Shelf Go.RowKit
variable {E:World}
set_option maxRecDepth 20000
end
section
open Go.Proofs.Tryz
open Go.Proofs Go.Lib Go.Shelf Go.RowKit
variable {E:World}
set_option maxRecDepth 20000
end
section
open Go.Proofs.Tryz
open Go.Proofs Go.Lib Go.Shelf Go.RowKit
variable {E:World}
set_option maxRecDepth 20000
theorem cV (f:ap) (v:Int) (hv:bb f v=true):aQ prog E 41 [.agg (bP f),.int .i64 v] (.int .i64 (ba f v)):=by
 obtain ⟨x,hx,hv2,hk⟩:=lT hv
 rw[hk]
 refine zk func41 Z (by decide) Z<|aj<|zy (cs:=_) Z Z Z<|aw Z<|z7<|aj<|ax j4 Z Z8 Z Z<|aU Ze Z<|ab Z<|z8 (eO v.toNat jn Z5 Z Z hv2 hx)<|ax ju Z sizeOf71 Z Z<|aP isAgg71 Z<|aw Z<|z7<|zd<|zg (x:=.int _ _) Z ?_
 rfl
theorem iP (c:Int):aQ prog E 43 [.int .u8 c] (.int .i64 (bW c)):=by
 refine zk func43 Z (by decide) Z<|aj<|aw Z<|z7<|za<|aj<|ab Z<|z7<|zh<|aj<|aA Z Z<|ae Z<|z7<|zn Z (fun c1=>?_) (fun c1=>?_)
 ·refine aj<|aw Z<|z7<|zd<|zg (x:=.int _ _) Z ?_
  unfold bW;simp_all
 ·refine aj<|aA Z Z<|ae Z<|z7<|zn Z (fun c2=>?_) (fun c2=>?_)
  ·refine aj<|aw Z<|z7<|zd<|zg (x:=.int _ _) Z ?_
   unfold bW;simp_all
  ·refine ze<|aj<|aw Z<|z7<|zd<|zg (x:=.int _ _) Z ?_
   unfold bW;simp_all
theorem rx:∀j:Nat,j<27→decide ((bf (j:Int)).1=⟨#[99,111,112,121]⟩)=decide (j=1):=by decide
theorem gR {op:Int} (h:0≤op∧op≤26):((bf op).1=⟨#[99,111,112,121]⟩)↔op=1:=by
 have h1:=rx op.toNat (by omega)
 rw[Int.toNat_of_nonneg h.1] at h1
 constructor
 ·intro e
  have:decide (op.toNat=1)=true:=by rw[←h1];exact decide_eq_true e
  have:=of_decide_eq_true this
  omega
 ·intro e
  have h2:op.toNat=1:=by omega
  have:decide ((bf op).1=⟨#[99,111,112,121]⟩)=true:=by rw[h1];exact decide_eq_true h2
  exact of_decide_eq_true this
theorem lY {op:Int} (h:0≤op∧op≤26):dn[op.toNat]?=some (bf op):=by
 unfold bf
 have hl:op.toNat<dn.length:=by have:dn.length=27:=rfl;omega
 rw[if_pos h.1,yt hl];rfl
def du (f:ap) (x:aN):List Int:=if x.op=1 then[ba f x.dst] else aV x.op
theorem ry {f:ap} {x:aN} (h:sr f x):x.args.length=(du f x).length:=by
 rw[h.len]
 unfold du
 split
 ·rename_i e;rw[e];rfl
 ·rfl
theorem iQ {f:ap} {x:aN} (h:sr f x):eA f x=(decide (x.args.map (ba f)=du f x)&&(!cf x.op||(decide (x.op=1)||decide (ba f x.dst=fm x.op)))):=by
 unfold eA du
 by_cases e:x.op=1
 ·have hl:=h.len
  rw[e,show (aV 1).length=1 from rfl] at hl
  obtain ⟨a,ha⟩:=List.length_eq_one_iff.1 hl
  rw[if_pos e,if_pos e,ha]
  simp[e]
  exact eq_comm
 ·rw[if_neg e,if_neg e];simp[e]
theorem mU {op:Int} {m:Nat} (h:m<(aV op).length):∃c:UInt8,(bf op).2.1.data[m]?=some c∧(aV op)[m]=bW (c.toNat:Int):=by
 have h1:m<(bf op).2.1.data.size:=by rw[f6] at h;exact h
 have e:(aV op)[m]?=((bf op).2.1.data.toList[m]?).map fun b=>bW b.toNat:=by unfold aV;rw[List.getElem?_map]
 rw[yt h,Array.getElem?_toList,Array.getElem?_eq_getElem h1] at e
 exact ⟨(bf op).2.1.data[m],by rw[Array.getElem?_eq_getElem h1],by simpa using e⟩
theorem mV {op:Int} (h:¬(bf op).2.2=⟨#[]⟩):∃c:UInt8,(bf op).2.2.data[0]?=some c∧fm op=bW (c.toNat:Int):=by
 unfold fm
 generalize (bf op).2.2=m at h ⊢
 obtain ⟨⟨l⟩⟩:=m
 cases l with
 |nil=>exact absurd rfl h
 |cons c l=>exact ⟨c,by simp,rfl⟩
end
section
open Go.Proofs.Tryz
open Go.Proofs Go.Lib Go.Shelf Go.RowKit
variable {E:World}
set_option maxRecDepth 20000
theorem sL {f:ap} {x:aN} {m:Nat} (e:x.op=1) (h:m<(du f x).length):(du f x)[m]=ba f x.dst:=by
 have h2:(du f x)[m]?=some (ba f x.dst):=by
  unfold du at h ⊢
  rw[if_pos e] at h ⊢
  simp at h
  subst h;rfl
 rw[yt h] at h2
 exact Option.some.inj h2
theorem sM {f:ap} {x:aN} {m:Nat} (e:¬x.op=1) (h:m<(du f x).length) (h':m<(aV x.op).length):(du f x)[m]=(aV x.op)[m]:=by
 have h2:(du f x)[m]?=some ((aV x.op)[m]):=by
  unfold du
  rw[if_neg e,yt h']
 rw[yt h] at h2
 exact Option.some.inj h2
theorem rz {f:ap} {t:fE} (h:bj f t=true):t.kind=0∨t.kind=1∨t.kind=2:=by
 unfold bj at h
 by_cases h0:t.kind=0
 ·exact .inl h0
 ·rw[if_neg h0] at h
  by_cases h1:t.kind=1
  ·exact .inr (.inl h1)
  ·rw[if_neg h1] at h
   by_cases h2:t.kind=2
   ·exact .inr (.inr h2)
   ·rw[if_neg h2] at h;cases h
set_option maxHeartbeats 8000000 in
theorem kc (f:ap) (hf:small f) (hS:cI f):aQ prog E 28 [.agg (bP f)] (.bool (f.blocks.all (eS f))):=by
 have hn:=hf.2.2.1
 refine zk func28 Z (by decide) Z<|aj<|zy (cs:=_) Z Z Z<|ae Z<|z7<|za<|aj<|ax j4 Z jp Z Z<|aU jw Z<|ad j8 Z<|ab Z<|z7<|zh<|zt (γ:=Nat) [1,16,17] (fun i=>[(18,.int .i64 i)]) (fun i=>[]) (fun i=>i≤f.blocks.length∧(f.blocks.take i).all (eS f)=true) (fun i=>f.blocks.length - i) 0 bg aX (⟨yw _,Z⟩) ?_
 rintro i ⟨hi,hall⟩
 refine aj<|aB Z Z<|z7<|za<|zq Z (fun ci=>?_) (fun ci=>?_)
 ·have hi2:i<f.blocks.length:=by simp at ci;omega
  obtain ⟨b,hbi⟩:∃b,f.blocks[i]=b:=⟨_,rfl⟩
  have hget:f.blocks[i]?=some b:=by rw[yt hi2,hbi]
  have hmem:b∈f.blocks:=hbi▸yx hi2
  obtain ⟨hb0,hb1,hb2,hb3,hb4⟩:=hf.2.2.2.2 b hmem
  obtain ⟨hPh,hIn,hTm⟩:=hS.2.2.2.2.2 b hmem
  have hbad:eS f b=false→f.blocks.all (eS f)=false:=fun h=>Bool.eq_false_iff.2 (dw hi2 (by rw[hbi];exact h))
  refine ze<|za<|zh<|aj<|z8 (eO i j8 jg Z Z Z hget)<|aa Zc jg Z Z<|zo (cs:=[.str ⟨#[]⟩,.raw (.slice none 0 0),.raw (.slice none 0 0),.int .i64 0,.int .i64 0,.int .i64 0,.int .i64 0]) jt Z Z<|fun i4=>zm jg Z Z Z Z Z Z .head Z<|yq (ye (t:=4) Z .head)<|z7<|za<|aj<|ax wy Z Z2 Z Z<|aU Zd Z<|ad ji Z<|ab Z<|z7<|zh<|zt (γ:=Nat) [1,4,16,17,18,23,24] (fun j=>[(25,.int .i64 j)]) (fun j=>[]) (fun j=>j≤b.phis.length∧(b.phis.take j).all (kT f)=true) (fun j=>b.phis.length - j) 0 bg aX (⟨yw _,Z⟩) ?_
  rintro j ⟨hj,hjall⟩
  refine aj<|aB Z Z<|z7<|za<|zq Z (fun cj=>?_) (fun cj=>?_)
  ·have hj2:j<b.phis.length:=by simp at cj;omega
   obtain ⟨p,hp⟩:∃p,b.phis[j]=p:=⟨_,rfl⟩
   have hpm:p∈b.phis:=hp▸yx hj2
   obtain ⟨hpd,hpl,hpn,hpa,hpf⟩:=hPh p hpm
   have hpb:=(hb3 p hpm).1
   refine ze<|za<|zh<|aj<|z8 (eO j ji jq Z Z Z (by rw[yt hj2,hp])) ?_
   refine aa isAgg77 jq Z Z<|zo (cs:=[.int .i64 0,.raw (.slice none 0 0),.raw (.slice none 0 0)]) Z9 Z Z<|fun i6=>zm jq Z Z Z Z Z Z .head Z<|yq (ye (t:=6) Z .head)<|z7<|aj<|ax jd Z je Z Z<|aU jj Z<|ad j6 Z<|ab Z<|z7<|zh<|zt (γ:=Nat) [1,4,6,16,17,18,23,24,25,30,31] (fun k=>[(32,.int .i64 k)]) (fun k=>[]) (fun k=>k≤p.args.length∧(p.args.take k).all (fun v=>decide (ba f v=ba f p.dst))=true) (fun k=>p.args.length - k) 0 bg aX (⟨yw _,Z⟩) ?_
   rintro k ⟨hk,hkall⟩
   refine aj<|aB Z Z<|z7<|za<|zq Z (fun ck=>?_) (fun ck=>?_)
   ·have hk2:k<p.args.length:=by simp at ck;omega
    obtain ⟨v,hv⟩:∃v,p.args[k]=v:=⟨_,rfl⟩
    have hvv:=List.all_eq_true.1 hpa v (hv▸yx hk2)
    refine ze<|za<|zh<|aj<|z8 (eO k j6 jc Z Z Z (by rw[yt hk2,hv])) ?_
    refine aP jf Z<|aw Z<|z7<|za<|zx (fun j=>false) (by kernel_rfl) Z (yd (.rest _))<|aR 0 Z (ya j9 j5 Z Z)<|aR 1 Z (jR Z)<|aR 3 Z (ya j9 j5 Z Z)<|aR 4 Z (jS jd Z jc Z Z)<|aR 5 Z (mu jf Z)<|eZ 2 Z<|zc (cV f v hvv) Z<|z7<|eZ 6 Z<|zc (cV f p.dst hpd) Z<|z7<|aR 7 Z (Gv.neqI Z Z)<|jQ<|zn Z (fun cq=>?_) (fun cq=>?_)
    ·have hq:¬ba f v=ba f p.dst:=by simpa using cq
     have hph:kT f p=false:=by
      unfold kT
      rw[show (p.args.any fun v=>!decide (ba f v=ba f p.dst))=true from List.any_eq_true.2 ⟨v,hv▸yx hk2,by simp[hq]⟩];rfl
     refine aj<|ae Z<|z7<|zd<|zg (x:=.bool _) Z ?_
     rw[hbad (by unfold eS;rw[show b.phis.all (kT f)=false from Bool.eq_false_iff.2 (dw hj2 (by rw[hp];exact hph))];rfl)]
    ·have hq:ba f v=ba f p.dst:=by simpa using cq
     refine ze<|bA<|aI Z Z<|ab Z<|z7 ?_
     exact ⟨k+1,⟨rfl,rfl,rfl,rfl,rfl,rfl,rfl,rfl,rfl,rfl,rfl,trivial⟩,bg,aX,⟨hk2,bS hk2 hkall (by rw[hv];simp[hq])⟩,by omega⟩
   ·have hkn:k=p.args.length:=by simp at ck;omega
    rw[hkn,yy] at hkall
    have hph:kT f p=true:=by
     unfold kT
     rw[show (p.args.any fun v=>!decide (ba f v=ba f p.dst))=false from List.any_eq_false.2 fun v hv=>by have:=List.all_eq_true.1 hkall v hv;simpa using this];rfl
    refine zu<|bA<|aI Z Z<|ab Z<|z7 ?_
    exact ⟨j+1,jT,bg,aX,⟨hj2,bS hj2 hjall (by rw[hp];exact hph)⟩,by omega⟩
  ·have hjn:j=b.phis.length:=by simp at cj;omega
   subst hjn
   rw[yy] at hjall
   refine zu<|za<|aj<|ax wy Z jl Z Z<|aU Z0 Z<|ad ja Z<|ab Z<|z7<|zh<|zt (γ:=Nat) [1,4,16,17,18,47,48] (fun k=>[(49,.int .i64 k)]) (fun k=>[]) (fun k=>k≤b.insts.length∧(b.insts.take k).all (eA f)=true) (fun k=>b.insts.length - k) 0 bg aX (⟨yw _,Z⟩) ?_
   rintro k ⟨hk,hkall⟩
   refine aj<|aB Z Z<|z7<|za<|zq Z (fun ck=>?_) (fun ck=>?_)
   ·have hk2:k<b.insts.length:=by simp at ck;omega
    obtain ⟨z,hz⟩:∃z,b.insts[k]=z:=⟨_,rfl⟩
    have hzm:z∈b.insts:=hz▸yx hk2
    have hI:=nB (hIn z hzm)
    have hzl:=hb4 z hzm
    have hwl:=ry hI
    have hdst:cf z.op=true→bb f z.dst=true:=fun h=>by
     rcases hI.dst with ⟨d1,_⟩|⟨_,_,d3⟩
     ·rw[h] at d1;cases d1
     ·exact d3
    have hcopy:z.op=1→cf z.op=true:=fun h=>by rw[h];rfl
    have hib:eA f z=false→f.blocks.all (eS f)=false:=fun h=>hbad (by unfold eS;rw[hjall,show b.insts.all (eA f)=false from Bool.eq_false_iff.2 (dw hk2 (by rw[hz];exact h))];rfl)
    refine ze<|za<|zh<|aj<|z8 (eO k ja jh Z Z Z (by rw[yt hk2,hz])) ?_
    refine aa Z7 jh Z Z<|zo (cs:=[.int .i64 0,.int .i64 0,.raw (.slice none 0 0),.int .i64 0]) Z1 Z Z<|fun i10=>zm jh Z Z Z Z Z Z .head Z<|yq (ye (t:=10) Z .head)<|z7<|za<|yl (γ:=Nat) [1,4,10,16,17,18,47,48,49] (fun g=>[(11,.po g 0)]) (fun g=>[(g,.cells 97 (jY (bf z.op)))]) (fun g=>True) ?_ (fun _ _ h=>h) ?_
    ·refine zx (fun j=>false) (by kernel_rfl) Z (yd (.rest _))<|aR 1 Z (jS wz Z jx Z Z)<|aR 2 Z (mu Z3 Z)<|bl.two (i:=0) (j:=5) Z Z (by kernel_rfl) ?_ ?_
     ·refine zc (e7) Z<|z7<|aR 3 Z (eO z.op.toNat underlying98 Zb Z Z (by have:=hI.op;omega) (lY hI.op))<|aR 4 Z (ya isAgg97 Zb Z Z)<|eZ 5 Z<|zo (cs:=[.str ⟨#[]⟩,.str ⟨#[]⟩,.str ⟨#[]⟩]) zeroValue97 Z Z<|fun i11=>z7<|eZ 6 Z<|zm Zb Z Z Z Z Z Z .head Z<|z7<|jQ ?_
      exact ⟨i11,ul,bg,aX,trivial⟩
     ·refine zo (cs:=[.str ⟨#[]⟩,.str ⟨#[]⟩,.str ⟨#[]⟩]) zeroValue97 Z Z<|fun i11=>z7<|eZ 0 Z<|zc (e7) Z<|z7<|aR 3 Z (eO z.op.toNat underlying98 Zb Z Z (by have:=hI.op;omega) (lY hI.op))<|aR 4 Z (ya isAgg97 Zb Z Z)<|eZ 6 Z<|zm Zb Z Z Z Z Z Z .head Z<|z7<|jQ ?_
      exact ⟨i11,ul,bg,aX,trivial⟩
    ·rintro i11 _
     refine za<|aj<|ax wz Z je Z Z<|aU jj Z<|ad j6 Z<|ab Z<|z7<|zh<|zt (γ:=Nat) [1,4,10,11,16,17,18,47,48,49,60] (fun m=>[(61,.int .i64 m)]) (fun m=>[(i11,.cells 97 (jY (bf z.op)))]) (fun m=>m≤z.args.length∧(z.args.take m).map (ba f)=(du f z).take m) (fun m=>z.args.length - m) 0 bg aX (⟨yw _,by simp⟩) ?_
     rintro m ⟨hm,hmall⟩
     refine aj<|aB Z Z<|z7<|za<|zq Z (fun cm=>?_) (fun cm=>?_)
     ·have hm2:m<z.args.length:=by simp at cm;omega
      have hmw:m<(du f z).length:=by omega
      have hmt:m<(aV z.op).length:=by have:=hI.len;omega
      obtain ⟨v,hv⟩:∃v,z.args[m]=v:=⟨_,rfl⟩
      have hvv:=hI.args v (hv▸yx hm2)
      obtain ⟨c,hc,hct⟩:=mU hmt
      have hbadm:¬ba f v=(du f z)[m]→f.blocks.all (eS f)=false:=fun h=>hib (by rw[iQ hI,q0 (sA hm2 hmw (by rw[hv];exact h))];rfl)
      refine ze<|za<|zh<|aj<|ab Z<|aw Z<|z7<|aj<|z8 (zf jy Z js (by decide) Z Z)<|z8 (zj (c:=.str _) jz Z ⟨_,.head⟩ Z)<|ab Z<|z8 (Gv.indexT (j:=m) jr Z Z Z hc)<|zc (iP (c.toNat:Int)) Z<|aw Z<|z7<|za<|aj<|z8 (zf jy Z js (by decide) Z Z)<|z8 (zj (c:=.str _) jz Z ⟨_,.head⟩ Z)<|z8 (Gv.eqlT Z Z)<|z7<|zn Z (fun cw=>?_) (fun cw=>?_)
      ·have ew:z.op=1:=(gR hI.op).1 (by simpa using cw)
       refine bA<|aa j9 j5 Z Z<|ax wz Z jc Z Z<|aP jf Z<|zc (cV f z.dst (hdst (hcopy ew))) Z<|aw Z<|z7<|za<|zx (fun j=>false) (by kernel_rfl) Z (yd (.rest _))<|aR 0 Z (ya j9 j5 Z Z)<|aR 1 Z (jS wz Z je Z Z)<|aR 2 Z (q5 jj Z)<|aR 3 Z (jR Z)<|aR 4 Z (eO m j6 jc Z Z Z (by rw[yt hm2,hv])) ?_
       refine aR 5 Z (mu jf Z)<|aR 7 Z (jR Z)<|eZ 6 Z<|zc (cV f v hvv) Z<|z7<|aR 8 Z (Gv.neqI Z Z)<|jQ<|zn Z (fun cq=>?_) (fun cq=>?_)
       ·have hq:¬ba f v=ba f z.dst:=by simpa using cq
        refine aj<|ae Z<|z7<|zd<|zg (x:=.bool _) Z ?_
        rw[hbadm (by rw[sL ew hmw];exact hq)]
       ·have hq:ba f v=ba f z.dst:=by simpa using cq
        refine ze<|bA<|aI Z Z<|ab Z<|z7 ?_
        exact ⟨m+1,⟨rfl,rfl,rfl,rfl,rfl,rfl,rfl,rfl,rfl,rfl,rfl,trivial⟩,bg,aX,⟨hm2,dW hm2 hmw hmall (by rw[hv,sL ew hmw];exact hq)⟩,by omega⟩
      ·have ew:¬z.op=1:=fun e=>by have:=(gR hI.op).2 e;simp[this] at cw
       refine ze<|za<|zx (fun j=>false) (by kernel_rfl) Z (yd (.rest _))<|aR 0 Z (ya j9 j5 Z Z)<|aR 1 Z (jS wz Z je Z Z)<|aR 2 Z (q5 jj Z)<|aR 3 Z (jR Z)<|aR 4 Z (eO m j6 jc Z Z Z (by rw[yt hm2,hv])) ?_
       refine aR 5 Z (mu jf Z)<|aR 7 Z (jR Z)<|eZ 6 Z<|zc (cV f v hvv) Z<|z7<|aR 8 Z (Gv.neqI Z Z)<|jQ<|zn Z (fun cq=>?_) (fun cq=>?_)
       ·have hq:¬ba f v=bW (c.toNat:Int):=by simpa using cq
        refine aj<|ae Z<|z7<|zd<|zg (x:=.bool _) Z ?_
        rw[hbadm (by rw[sM ew hmw hmt,hct];exact hq)]
       ·have hq:ba f v=bW (c.toNat:Int):=by simpa using cq
        refine ze<|bA<|aI Z Z<|ab Z<|z7 ?_
        exact ⟨m+1,⟨rfl,rfl,rfl,rfl,rfl,rfl,rfl,rfl,rfl,rfl,rfl,trivial⟩,bg,aX,⟨hm2,dW hm2 hmw hmall (by rw[hv,sM ew hmw hmt,hct];exact hq)⟩,by omega⟩
     ·have hmn:m=z.args.length:=by simp at cm;omega
      have hall2:z.args.map (ba f)=du f z:=by rw[hmn,yy,hwl,yy] at hmall;exact hmall
      have hiw:=iQ hI
      rw[decide_eq_true hall2,Bool.true_and] at hiw
      refine zu<|za<|zx (fun j=>false) (by kernel_rfl) Z (yd (.r (.rest _)))<|aR 0 Z (zf jy Z js (by decide) Z Z)<|aR 1 Z (zj (c:=.str _) jz Z ⟨_,.head⟩ Z)<|aR 2 Z (Gv.neqT Z Z)<|aR 3 Z (ww Z)<|bl.case (s:=89) Z (fun c1=>?_) (fun c1=>?_)
      ·have d1:¬(bf z.op).2.2=⟨#[]⟩:=by simpa using c1
       have dm:cf z.op=true:=by rw[e9,q0 d1];rfl
       obtain ⟨c,hc,hct⟩:=mV d1
       refine gP 4 Z Z Z c1 (zf jy Z js (by decide) Z Z)<|gP 5 Z Z Z c1 (zj (c:=.str _) jz Z ⟨_,.head⟩ Z)<|gP 6 Z Z Z c1 (Gv.neqT Z Z)<|aR 7 Z (uw Z c1 Z)<|aR 8 Z (ww Z)<|bl.case (s:=94) Z (fun c2=>?_) (fun c2=>?_)
       ·have ew:¬z.op=1:=fun e=>by have:=(gR hI.op).2 e;simp[this] at c2
        refine gP 9 Z Z Z c2 (ya j9 j5 Z Z)<|gP 10 Z Z Z c2 (jS wz Z jc Z Z)<|gP 11 Z Z Z c2 (mu jf Z)<|gP 13 Z Z Z c2 (zf jy Z js (by decide) Z Z)<|gP 14 Z Z Z c2 (zj (c:=.str _) jz Z ⟨_,.head⟩ Z)<|gP 15 Z Z Z c2 (Gv.indexT (j:=0) jr Z Z Z hc)<|eZ 12 Z<|z6 Z Z c2<|zc (cV f z.dst (hdst dm)) Z<|z7<|eZ 16 Z<|z6 Z Z c2<|zc (iP (c.toNat:Int)) Z<|z7<|gP 17 Z Z Z c2 (Gv.neqI Z Z)<|aR 18 Z (uw Z c2 Z)<|jQ<|zn Z (fun cq=>?_) (fun cq=>?_)
        ·have hq:¬ba f z.dst=bW (c.toNat:Int):=by simpa using cq
         refine aj<|ae Z<|z7<|zd<|zg (x:=.bool _) Z ?_
         rw[hib (by rw[hiw,dm,q0 ew,hct,q0 hq];rfl)]
        ·have hq:ba f z.dst=bW (c.toNat:Int):=by simpa using cq
         refine ze<|bA<|aI Z Z<|ab Z<|z7 ?_
         exact ⟨k+1,jT,bg,⟨_,(.drop (.refl _)),rfl⟩,⟨hk2,bS hk2 hkall (by rw[hz,hiw,hct,decide_eq_true hq];simp)⟩,by omega⟩
       ·have ew:z.op=1:=(gR hI.op).1 (by simpa using c2)
        refine eg 9 Z Z Z c2<|eg 10 Z Z Z c2<|eg 11 Z Z Z c2<|eg 12 Z Z Z c2<|eg 13 Z Z Z c2<|eg 14 Z Z Z c2<|eg 15 Z Z Z c2<|eg 16 Z Z Z c2<|eg 17 Z Z Z c2<|aR 18 Z (ux Z c2 Z)<|jQ<|y7 Z Z<|ze<|bA<|aI Z Z<|ab Z<|z7 ?_
        exact ⟨k+1,jT,bg,⟨_,(.drop (.refl _)),rfl⟩,⟨hk2,bS hk2 hkall (by rw[hz,hiw,decide_eq_true ew];simp)⟩,by omega⟩
      ·have d1:(bf z.op).2.2=⟨#[]⟩:=by simpa using c1
       have dm:cf z.op=false:=by rw[e9,decide_eq_true d1];rfl
       refine eg 4 Z Z Z c1<|eg 5 Z Z Z c1<|eg 6 Z Z Z c1<|aR 7 Z (ux Z c1 Z)<|aR 8 Z (ww Z)<|eg 9 Z Z Z Z<|eg 10 Z Z Z Z<|eg 11 Z Z Z Z<|eg 12 Z Z Z Z<|eg 13 Z Z Z Z<|eg 14 Z Z Z Z<|eg 15 Z Z Z Z<|eg 16 Z Z Z Z<|eg 17 Z Z Z Z<|aR 18 Z (ux Z Z Z)<|jQ<|y7 Z Z<|ze<|bA<|aI Z Z<|ab Z<|z7 ?_
       exact ⟨k+1,jT,bg,⟨_,(.drop (.refl _)),rfl⟩,⟨hk2,bS hk2 hkall (by rw[hz,hiw,dm];rfl)⟩,by omega⟩
   ·have hkn:k=b.insts.length:=by simp at ck;omega
    rw[hkn,yy] at hkall
    refine zu<|aj<|ax wy Z Z6 Z Z<|aa isAgg60 Z6 Z Z<|zo (cs:=[.int .i64 0,.int .i64 0,.int .i64 0,.int .i64 0]) zeroValue60 Z Z<|fun i14=>zm Z6 Z Z Z Z Z Z .head Z<|yq (ye (t:=14) Z .head)<|z7<|za<|yl (γ:=Bool) [1,16,17,18] (fun u=>[(152,.bool u)]) (fun u=>[]) (fun u=>u=!bY f b.term) ?_ (fun _ _ h=>h) ?_
    ·have hk3:=rz hTm
     refine bA<|ax j7 Z Zf Z Z<|aP Zg Z<|aA Z Z<|ah Z<|zi (s:=111) Z (fun c1=>?_) (fun c1=>?_)
     ·refine z6 Z Z c1<|aa j9 j5 Z Z<|z6 Z Z c1<|ax j7 Z jc Z Z<|z6 Z Z c1<|aP jf Z<|z6 Z Z c1<|zc (cV f b.term.var (fI hTm (by simp_all))) Z<|z6 Z Z c1<|aD Z Z<|ai Z c1 Z<|ah Z<|zi (s:=118) Z (fun c2=>?_) (fun c2=>?_)
      ·refine z2 Z Z c2<|z2 Z Z c2<|z2 Z Z c2<|z2 Z Z c2<|zb Z Z<|zb Z Z<|zb Z Z<|zb Z Z<|zb Z Z<|zb Z Z<|zb Z Z<|zb Z Z<|zb Z Z<|zb Z Z<|zb Z Z<|zb Z Z<|zb Z Z<|zb Z Z<|zb Z Z<|zb Z Z<|zb Z Z<|z2 Z Z c2<|ai Z c2 Z<|ah Z<|z2 Z Z Z<|z2 Z Z Z<|z2 Z Z Z<|z2 Z Z Z<|zb Z Z<|zb Z Z<|zb Z Z<|zb Z Z<|z2 Z Z Z<|ai Z Z Z<|z7 ?_
       exact ⟨_,iv,bg,aX,by simp_all[bY]<;>omega⟩
      ·refine z6 Z Z c2<|ax j7 Z Zf Z Z<|z6 Z Z c2<|aP Zg Z<|z6 Z Z c2<|aA Z Z<|z6 Z Z c2<|ah Z<|zi (s:=122) Z (fun c3=>?_) (fun c3=>?_)
       ·refine z6 Z Z c3<|aa j9 j5 Z Z<|z6 Z Z c3<|ax j7 Z jc Z Z<|z6 Z Z c3<|aP jf Z<|z6 Z Z c3<|zc (cV f b.term.var (fI hTm (by simp_all))) Z<|z6 Z Z c3<|aD Z Z<|z6 Z Z c3<|ah Z<|zi (s:=128) Z (fun c4=>?_) (fun c4=>?_)
        ·refine z2 Z Z c4<|z2 Z Z c4<|z2 Z Z c4<|z2 Z Z c4<|z6 Z Z c3<|ai Z c4 Z<|z6 Z Z c3<|ah Z<|z2 Z Z Z<|z2 Z Z Z<|z2 Z Z Z<|z2 Z Z Z<|z6 Z Z c3<|ai Z Z Z<|z6 Z Z c2<|ai Z c3 Z<|ak Z c2 Z<|ah Z<|z2 Z Z Z<|z2 Z Z Z<|z2 Z Z Z<|z2 Z Z Z<|zb Z Z<|zb Z Z<|zb Z Z<|zb Z Z<|z2 Z Z Z<|ai Z Z Z<|z7 ?_
         exact ⟨_,iv,bg,aX,by simp_all[bY]<;>omega⟩
        ·refine z6 Z Z c4<|ax j7 Z jk Z Z<|z6 Z Z c4<|z8 (yp (j:=0) jm jc Z Z Z (by decide) Z)<|z6 Z Z c4<|aP jf Z<|z6 Z Z c4<|aA Z Z<|z6 Z Z c3<|ak Z c4 Z<|z6 Z Z c3<|ah Z<|zi (s:=134) Z (fun c5=>?_) (fun c5=>?_)
         ·refine z2 Z Z c5<|z2 Z Z c5<|z2 Z Z c5<|z2 Z Z c5<|z6 Z Z c3<|ai Z c5 Z<|z6 Z Z c2<|ai Z c3 Z<|ak Z c2 Z<|ah Z<|z2 Z Z Z<|z2 Z Z Z<|z2 Z Z Z<|z2 Z Z Z<|zb Z Z<|zb Z Z<|zb Z Z<|zb Z Z<|z2 Z Z Z<|ai Z Z Z<|z7 ?_
          exact ⟨_,iv,bg,aX,by simp_all[bY]<;>omega⟩
         ·refine z6 Z Z c5<|ax j7 Z jk Z Z<|z6 Z Z c5<|z8 (yp (j:=1) jm jc Z Z Z (by decide) Z)<|z6 Z Z c5<|aP jf Z<|z6 Z Z c5<|aA Z Z<|z6 Z Z c3<|ak Z c5 Z<|z6 Z Z c2<|ai Z c3 Z<|ak Z c2 Z<|ah Z<|zi (s:=142) Z (fun c6=>?_) (fun c6=>?_)
          ·refine z2 Z Z c6<|z2 Z Z c6<|z2 Z Z c6<|z2 Z Z c6<|zb Z Z<|zb Z Z<|zb Z Z<|zb Z Z<|z2 Z Z c6<|ai Z c6 Z<|z7 ?_
           exact ⟨_,iv,bg,aX,by simp_all[bY]<;>omega⟩
          ·refine z6 Z Z c6<|ax j7 Z Zf Z Z<|z6 Z Z c6<|aP Zg Z<|z6 Z Z c6<|aA Z Z<|z6 Z Z c6<|ah Z<|zi (s:=146) Z (fun c7=>?_) (fun c7=>?_)
           ·refine z6 Z Z c7<|ax j7 Z jk Z Z<|z6 Z Z c7<|z8 (yp (j:=0) jm jc Z Z Z (by decide) Z)<|z6 Z Z c7<|aP jf Z<|z6 Z Z c7<|aA Z Z<|z6 Z Z c6<|ai Z c7 Z<|ak Z c6 Z<|z7 ?_
            exact ⟨_,iv,bg,aX,by simp_all[bY]<;>omega⟩
           ·refine z2 Z Z c7<|z2 Z Z c7<|z2 Z Z c7<|z2 Z Z c7<|z6 Z Z c6<|ak Z c7 Z<|ak Z c6 Z<|z7 ?_
            exact ⟨_,iv,bg,aX,by simp_all[bY]<;>omega⟩
       ·refine z2 Z Z c3<|z2 Z Z c3<|z2 Z Z c3<|z2 Z Z c3<|z2 Z Z c3<|z2 Z Z c3<|zb Z Z<|zb Z Z<|zb Z Z<|zb Z Z<|z2 Z Z c3<|z2 Z Z c3<|zb Z Z<|zb Z Z<|zb Z Z<|zb Z Z<|z2 Z Z c3<|z6 Z Z c2<|ak Z c3 Z<|ak Z c2 Z<|ah Z<|z6 Z Z Z<|ax j7 Z Zf Z Z<|z6 Z Z Z<|aP Zg Z<|z6 Z Z Z<|aA Z Z<|z6 Z Z Z<|ah Z<|zi (s:=146) Z (fun c8=>?_) (fun c8=>?_)
        ·refine z6 Z Z c8<|ax j7 Z jk Z Z<|z6 Z Z c8<|z8 (yp (j:=0) jm jc Z Z Z (by decide) Z)<|z6 Z Z c8<|aP jf Z<|z6 Z Z c8<|aA Z Z<|z6 Z Z Z<|ai Z c8 Z<|ak Z Z Z<|z7 ?_
         exact ⟨_,iv,bg,aX,by simp_all[bY]<;>omega⟩
        ·refine z2 Z Z c8<|z2 Z Z c8<|z2 Z Z c8<|z2 Z Z c8<|z6 Z Z Z<|ak Z c8 Z<|ak Z Z Z<|z7 ?_
         exact ⟨_,iv,bg,aX,by simp_all[bY]<;>omega⟩
     ·refine z2 Z Z c1<|z2 Z Z c1<|z2 Z Z c1<|z2 Z Z c1<|z2 Z Z c1<|ak Z c1 Z<|ah Z<|z6 Z Z Z<|ax j7 Z Zf Z Z<|z6 Z Z Z<|aP Zg Z<|z6 Z Z Z<|aA Z Z<|z6 Z Z Z<|ah Z<|zi (s:=122) Z (fun c9=>?_) (fun c9=>?_)
      ·refine z6 Z Z c9<|aa j9 j5 Z Z<|z6 Z Z c9<|ax j7 Z jc Z Z<|z6 Z Z c9<|aP jf Z<|z6 Z Z c9<|zc (cV f b.term.var (fI hTm (by simp_all))) Z<|z6 Z Z c9<|aD Z Z<|z6 Z Z c9<|ah Z<|zi (s:=128) Z (fun c10=>?_) (fun c10=>?_)
       ·refine z2 Z Z c10<|z2 Z Z c10<|z2 Z Z c10<|z2 Z Z c10<|z6 Z Z c9<|ai Z c10 Z<|z6 Z Z c9<|ah Z<|z2 Z Z Z<|z2 Z Z Z<|z2 Z Z Z<|z2 Z Z Z<|z6 Z Z c9<|ai Z Z Z<|z6 Z Z Z<|ai Z c9 Z<|ak Z Z Z<|ah Z<|z2 Z Z Z<|z2 Z Z Z<|z2 Z Z Z<|z2 Z Z Z<|zb Z Z<|zb Z Z<|zb Z Z<|zb Z Z<|z2 Z Z Z<|ai Z Z Z<|z7 ?_
        exact ⟨_,iv,bg,aX,by simp_all[bY]<;>omega⟩
       ·refine z6 Z Z c10<|ax j7 Z jk Z Z<|z6 Z Z c10<|z8 (yp (j:=0) jm jc Z Z Z (by decide) Z)<|z6 Z Z c10<|aP jf Z<|z6 Z Z c10<|aA Z Z<|z6 Z Z c9<|ak Z c10 Z<|z6 Z Z c9<|ah Z<|zi (s:=134) Z (fun c11=>?_) (fun c11=>?_)
        ·refine z2 Z Z c11<|z2 Z Z c11<|z2 Z Z c11<|z2 Z Z c11<|z6 Z Z c9<|ai Z c11 Z<|z6 Z Z Z<|ai Z c9 Z<|ak Z Z Z<|ah Z<|z2 Z Z Z<|z2 Z Z Z<|z2 Z Z Z<|z2 Z Z Z<|zb Z Z<|zb Z Z<|zb Z Z<|zb Z Z<|z2 Z Z Z<|ai Z Z Z<|z7 ?_
         exact ⟨_,iv,bg,aX,by simp_all[bY]<;>omega⟩
        ·refine z6 Z Z c11<|ax j7 Z jk Z Z<|z6 Z Z c11<|z8 (yp (j:=1) jm jc Z Z Z (by decide) Z)<|z6 Z Z c11<|aP jf Z<|z6 Z Z c11<|aA Z Z<|z6 Z Z c9<|ak Z c11 Z<|z6 Z Z Z<|ai Z c9 Z<|ak Z Z Z<|ah Z<|zi (s:=142) Z (fun c12=>?_) (fun c12=>?_)
         ·refine z2 Z Z c12<|z2 Z Z c12<|z2 Z Z c12<|z2 Z Z c12<|zb Z Z<|zb Z Z<|zb Z Z<|zb Z Z<|z2 Z Z c12<|ai Z c12 Z<|z7 ?_
          exact ⟨_,iv,bg,aX,by simp_all[bY]<;>omega⟩
         ·refine z6 Z Z c12<|ax j7 Z Zf Z Z<|z6 Z Z c12<|aP Zg Z<|z6 Z Z c12<|aA Z Z<|z6 Z Z c12<|ah Z<|zi (s:=146) Z (fun c13=>?_) (fun c13=>?_)
          ·refine z6 Z Z c13<|ax j7 Z jk Z Z<|z6 Z Z c13<|z8 (yp (j:=0) jm jc Z Z Z (by decide) Z)<|z6 Z Z c13<|aP jf Z<|z6 Z Z c13<|aA Z Z<|z6 Z Z c12<|ai Z c13 Z<|ak Z c12 Z<|z7 ?_
           exact ⟨_,iv,bg,aX,by simp_all[bY]<;>omega⟩
          ·refine z2 Z Z c13<|z2 Z Z c13<|z2 Z Z c13<|z2 Z Z c13<|z6 Z Z c12<|ak Z c13 Z<|ak Z c12 Z<|z7 ?_
           exact ⟨_,iv,bg,aX,by simp_all[bY]<;>omega⟩
      ·refine z2 Z Z c9<|z2 Z Z c9<|z2 Z Z c9<|z2 Z Z c9<|z2 Z Z c9<|z2 Z Z c9<|zb Z Z<|zb Z Z<|zb Z Z<|zb Z Z<|z2 Z Z c9<|z2 Z Z c9<|zb Z Z<|zb Z Z<|zb Z Z<|zb Z Z<|z2 Z Z c9<|z6 Z Z Z<|ak Z c9 Z<|ak Z Z Z<|ah Z<|z6 Z Z Z<|ax j7 Z Zf Z Z<|z6 Z Z Z<|aP Zg Z<|z6 Z Z Z<|aA Z Z<|z6 Z Z Z<|ah Z<|zi (s:=146) Z (fun c14=>?_) (fun c14=>?_)
       ·refine z6 Z Z c14<|ax j7 Z jk Z Z<|z6 Z Z c14<|z8 (yp (j:=0) jm jc Z Z Z (by decide) Z)<|z6 Z Z c14<|aP jf Z<|z6 Z Z c14<|aA Z Z<|z6 Z Z Z<|ai Z c14 Z<|ak Z Z Z<|z7 ?_
        exact ⟨_,iv,bg,aX,by simp_all[bY]<;>omega⟩
       ·refine z2 Z Z c14<|z2 Z Z c14<|z2 Z Z c14<|z2 Z Z c14<|z6 Z Z Z<|ak Z c14 Z<|ak Z Z Z<|z7 ?_
        exact ⟨_,iv,bg,aX,by simp_all[bY]<;>omega⟩
    ·rintro u hu
     subst hu
     refine zn Z (fun ct=>?_) (fun ct=>?_)
     ·have dt:bY f b.term=false:=by simpa using ct
      refine aj<|ae Z<|z7<|zd<|zg (x:=.bool _) Z ?_
      rw[hbad (by unfold eS;rw[hjall,hkall,dt];rfl)]
     ·have dt:bY f b.term=true:=by simpa using ct
      refine ze<|bA<|aI Z Z<|ab Z<|z7 ?_
      exact ⟨i+1,r3,bg,aX,⟨hi2,bS hi2 hall (by rw[hbi];unfold eS;rw[hjall,hkall,dt];rfl)⟩,by omega⟩
 ·have hin:i=f.blocks.length:=by simp at ci;omega
  rw[hin,yy] at hall
  refine zu<|aj<|ae Z<|z7<|zd<|zg (x:=.bool _) Z ?_
  rw[hall]
end
end Go.Proofs.YtbconpmnckokoaaGreatDoor
