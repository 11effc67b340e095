/- Statements whose order is open are the same in any order. No conditions. -/
import Derived.Test.YtjpnhkmfhlnpcaaGreatDoorJn
import Derived.Test.YtjpnhkmfhlnpcaaGreatDoorJc
set_option linter.unusedVariables false
set_option linter.unusedSimpArgs false
set_option linter.unusedSectionVars false
namespace Go.Proofs.YtjpnhkmfhlnpcaaGreatDoor
section
open Go.Proofs
section
variable {φ:bY}
theorem cg.push:∀{es:List (EV × EV)} {ms:List MapEntry},cg φ es ms→∀{k v:EV} {e:MapEntry},aQ φ k e.key→aQ φ v e.val→cg φ (es++[(k,v)]) (ms++[e])
 |[],_,h,k,v,e,h1,h2=>by have h:_=[]:=h;subst h;exact ⟨e,[],rfl,h1,h2,rfl⟩
 |_::_,_,⟨e',r,a,b,c,d⟩,k,v,e,h1,h2=>by subst a;exact ⟨e',_,rfl,b,c,cg.push d h1 h2⟩
theorem cg.set:∀{es:List (EV × EV)} {ms:List MapEntry} (j:Nat),cg φ es ms→∀{k v:EV} {e:MapEntry},aQ φ k e.key→aQ φ v e.val→cg φ (es.set j (k,v)) (ms.set j e)
 |[],_,_,h,k,v,e,h1,h2=>by have h:_=[]:=h;subst h;exact rfl
 |_::_,_,0,⟨e',r,a,b,c,d⟩,k,v,e,h1,h2=>by subst a;exact ⟨e,_,rfl,h1,h2,d⟩
 |_::_,_,j+1,⟨e',r,a,b,c,d⟩,k,v,e,h1,h2=>by subst a;exact ⟨e',_,rfl,b,c,cg.set j d h1 h2⟩
end
noncomputable def sK (T:TT) (H:Hp) (k t u:Nat) (x y:EV):Option (EV × Hp):=
 match T t,T u with
 |some i,some iu=>match i.d,iu.d,x,y with
  |.slice e,.int _,.ns,.i _ n=>match T e,gH n with
   |some ie,some m=>bif Nat.blt 0 m&&Nat.blt 0 ie.size&&Nat.ble (m*ie.bytes) jK&&Nat.ble m jK then some (.sl k 0 m ie.size .en,H.set k (some (.cells false (pU m ie.z)))) else none
   |_,_=>none
  |_,_,_,_=>none
 |_,_=>none
noncomputable def og (T:TT) (H:Hp) (t:Nat) (x y:EV):Option (EV × Hp):=
 match T t with
 |some i=>match i.d,x with
  |.slice e,.sl b off n k' _=>match T e with
   |some ie=>match sH H y ie.size,H.get b with
    |some (m,news),some (.cells ex cs)=>bif Nat.beq (Nat.min m n) 0 then some (.i .i64 0,H) else bif Nat.beq k' ie.size&&Nat.blt 0 ie.size&&Nat.blt 0 (Nat.min m n)&&Nat.ble (off+Nat.min m n*ie.size) cs.length then
      some (.i .i64 (Nat.min m n),H.set b (some (.cells ex (cs.take off++news.take (Nat.min m n*ie.size)++cs.drop (off+Nat.min m n*ie.size))))) else none
    |_,_=>none
   |none=>none
  |_,_=>none
 |none=>none
noncomputable def yR (T:TT) (g:Nat→EV) (H:Hp) (t:TypeId) (m y z:Operand):Option (EV × Hp):=match T t,bL g m,bL g y,bL g z with
 |some i,some (.m b),some key,some v=>match i.d,H.get b with
  |.map kt _,some (.mp es)=>match T kt with
   |some ik=>match kE T kt ik key es with
    |some (some (j,_))=>some (.u,H.set b (some (.mp (es.set j (key,v)))))
    |some none=>some (.u,H.set b (some (.mp (es++[(key,v)]))))
    |none=>none
   |none=>none
  |_,_=>none
 |_,_,_,_=>none
noncomputable def yS (T:TT) (g:Nat→EV) (H:Hp) (t:TypeId) (m y:Operand):Option (EV × Hp):=match T t,bL g m,bL g y with
 |some i,some (.m b),some key=>match i.d,H.get b with
  |.map kt et,some (.mp es)=>match T kt,T et with
   |some ik,some ie=>match kE T kt ik key es with
    |some (some (j,v))=>some (.tu [v,.i .i64 j],H.set b (some (.mp (es.set j (key,v)))))
    |some none=>some (.tu [ie.v,.i .i64 es.length],H.set b (some (.mp (es++[(key,ie.v)]))))
    |none=>none
   |_,_=>none
  |_,_=>none
 |_,_,_=>none
noncomputable def yT (g:Nat→EV) (H:Hp) (m s z:Operand):Option (EV × Hp):=match bL g m,bL g s,bL g z with
 |some (.m b),some (.i .i64 n),some v=>match H.get b,gH n with
  |some (.mp es),some j=>match es[j]? with
   |some e=>some (.u,H.set b (some (.mp (es.set j (e.1,v)))))
   |none=>none
  |_,_=>none
 |_,_,_=>none
theorem kQ.push {ms:List MapEntry} {e:MapEntry} (h:kQ ms) (he:e.born=ms.length):kQ (ms++[e]):=fun j x hx=>by
 rcases Nat.lt_trichotomy j ms.length with q|q|q
 ·rw[List.getElem?_append_left q] at hx;exact h j x hx
 ·subst q
  rw[List.getElem?_append_right (Nat.le_refl _)] at hx
  simp at hx
  subst hx;exact he
 ·rw[List.getElem?_eq_none (by simp;omega)] at hx;cases hx
theorem kQ.set {ms:List MapEntry} {e e0:MapEntry} {i:Nat} (h:kQ ms) (h0:ms[i]?=some e0) (he:e.born=e0.born):kQ (ms.set i e):=fun j x hx=>by
 by_cases q:i=j
 ·subst q
  rw[List.getElem?_set_self (List.getElem?_eq_some_iff.1 h0).1] at hx
  cases hx
  rw[he];exact h _ _ h0
 ·rw[List.getElem?_set_ne q] at hx;exact h j x hx
theorem cg.len {φ:bY}:∀{es:List (EV × EV)} {ms:List MapEntry},cg φ es ms→es.length=ms.length
 |[],ms,h=>by
  have h:ms=[]:=h
  subst h;rfl
 |_::_,_,⟨e,r,a,_,_,d⟩=>by subst a;simp[cg.len d]
theorem cg.at {φ:bY}:∀{es:List (EV × EV)} {ms:List MapEntry} (j:Nat) {e:EV × EV},cg φ es ms→es[j]?=some e→∃x,ms[j]?=some x∧aQ φ e.1 x.key∧aQ φ e.2 x.val
 |[],_,_,_,_,h=>by cases h
 |_::_,_,0,_,⟨e,r,a,b,c,_⟩,h=>by subst a;cases h;exact ⟨e,rfl,b,c⟩
 |_::_,_,j+1,_,⟨e,r,a,_,_,d⟩,h=>by subst a;exact cg.at j d h
theorem oh {ms:List MapEntry} {j:Nat} {e:MapEntry} {f:MapEntry→MapEntry} (h:ms[j]?=some e):ms.toArray.modify j f=(ms.set j (f e)).toArray:=by
 have hjl:=(List.getElem?_eq_some_iff.1 h).1
 apply Array.ext_getElem?
 intro p
 rw[Array.getElem?_modify,List.getElem?_toArray,List.getElem?_toArray]
 by_cases hp:j=p
 ·subst hp
  rw[if_pos rfl,h,List.getElem?_set_self hjl];rfl
 ·rw[if_neg hp,List.getElem?_set_ne hp]
theorem kQ.find {ms:List MapEntry} (h:kQ ms) {j:Nat} (hj:j<ms.length):ms.toArray.findIdx? (fun e=>(e.born:Int) == (j:Int))=some j:=by
 rw[List.findIdx?_toArray,List.findIdx?_eq_some_iff_getElem]
 refine ⟨hj,?_,fun i hi=>?_⟩
 ·have:=h j _ (q2 hj);simp[this]
 ·have:=h i _ (q2 (Nat.lt_trans hi hj));simp[this];omega
noncomputable def Dz (T:TT) (g:Nat→EV) (H:Hp) (k:Nat) (op:Op):Option (EV × Hp):=
 match op with
 |.store t x y=>match T t,bL g x,bL g y with
  |some i,some (.p b off),some a=>match H.get b with
   |some (.cells ex cs)=>bif a.sto&&a.cs.all EV.cell&&Nat.beq a.cs.length i.size&&Nat.ble (off+i.size) cs.length then some (.u,H.set b (some (.cells ex (cs.take off++a.cs++cs.drop (off+i.size))))) else none
   |_=>none
  |_,_,_=>none
 |.next x true=>match bL g x with
  |some (.p b off)=>match H.get b with
   |some (.it s p)=>bif Nat.beq off 0 then
     match s.data.toList[p]? with
     |some c=>bif Nat.blt c.toNat 128 then some (.tu [.b true,.i .i64 p,.i .i32 c.toNat],H.set b (some (.it s (p+1)))) else none
     |none=>some (.tu [.b false],H)
    else none
   |_=>none
  |_=>none
 |.mapUpdate t m y z=>yR T g H t m y z
 |.mapEntry t m y=>yS T g H t m y
 |.entryStore _ m s z=>yT g H m s z
 |.call ⟨.builtin .append,ar,ts⟩=>match ar.toList,ts.toList with
  |[x,y],[t,u]=>match bL g x,bL g y with
   |some a,some c=>bif Nat.beq t u then sI T H k t a c else sK T H k t u a c
   |_,_=>none
  |_,_=>none
 |.call ⟨.builtin .copy,ar,ts⟩=>match ar.toList,ts.toList with
  |[x,y],[t,_]=>match bL g x,bL g y with
   |some a,some c=>og T H t a c
   |_,_=>none
  |_,_=>none
 |_=>none
noncomputable def EG (T:TT) (g:Nat→EV) (H:Hp) (t:TypeId) (x y:Operand):Option (EV × Hp):=match T t,bL g x,bL g y with
 |some i,some (.p b off),some a=>match H.get b with
  |some (.cells ex cs)=>bif a.sto&&a.cs.all EV.cell&&Nat.beq a.cs.length i.size&&Nat.ble (off+i.size) cs.length then some (.u,H.set b (some (.cells ex (cs.take off++a.cs++cs.drop (off+i.size))))) else none
  |_=>none
 |_,_,_=>none
noncomputable def EH (g:Nat→EV) (H:Hp) (x:Operand) (s:Bool):Option (EV × Hp):=match s with
 |true=>match bL g x with
  |some (.p b off)=>match H.get b with
   |some (.it s p)=>bif Nat.beq off 0 then
     match s.data.toList[p]? with
     |some c=>bif Nat.blt c.toNat 128 then some (.tu [.b true,.i .i64 p,.i .i32 c.toNat],H.set b (some (.it s (p+1)))) else none
     |none=>some (.tu [.b false],H)
    else none
   |_=>none
  |_=>none
 |false=>none
noncomputable def EI (T:TT) (g:Nat→EV) (H:Hp) (k:Nat) (ar:Array Operand) (ts:Array TypeId):Option (EV × Hp):=match ar.toList,ts.toList with
 |[x,y],[t,u]=>match bL g x,bL g y with
  |some a,some c=>bif Nat.beq t u then sI T H k t a c else sK T H k t u a c
  |_,_=>none
 |_,_=>none
noncomputable def EJ (T:TT) (g:Nat→EV) (H:Hp) (ar:Array Operand) (ts:Array TypeId):Option (EV × Hp):=match ar.toList,ts.toList with
 |[x,y],[t,_]=>match bL g x,bL g y with
  |some a,some c=>og T H t a c
  |_,_=>none
 |_,_=>none
noncomputable def EK (T:TT) (g:Nat→EV) (H:Hp) (k:Nat) (b:Builtin) (ar:Array Operand) (ts:Array TypeId):Option (EV × Hp):=match b with
 |.append=>EI T g H k ar ts
 |.copy=>EJ T g H ar ts
 |_=>none
noncomputable def EL (T:TT) (g:Nat→EV) (H:Hp) (k:Nat) (c:Call):Option (EV × Hp):=match c with
 |⟨.builtin b,ar,ts⟩=>EK T g H k b ar ts
 |_=>none
noncomputable def EM (T:TT) (g:Nat→EV) (H:Hp) (k:Nat) (op:Op):Option (EV × Hp):=
 match op with
 |.store t x y=>EG T g H t x y
 |.next x s=>EH g H x s
 |.mapUpdate t m y z=>yR T g H t m y z
 |.mapEntry t m y=>yS T g H t m y
 |.entryStore _ m s z=>yT g H m s z
 |.call c=>EL T g H k c
 |_=>none
theorem DA (T:TT) (g:Nat→EV) (H:Hp) (k:Nat) (op:Op):EM T g H k op=Dz T g H k op:=by
 cases op<;>try rfl
 case next x s=>cases s<;>rfl
 case call c=>
  obtain ⟨cl,ar,ts⟩:=c
  cases cl<;>try rfl
  rename_i b
  cases b<;>rfl
section
variable {P:Program} {φ:bY} {g:Nat→EV} {ρ:bD} {w:World} {T:TT} {I:aI} {H:Hp} {k nx:Nat} {F:List (Nat × Obj)} {E:World}
theorem yU {t u:Nat} {ty:TypeId} (hT:cu P T) (hR:cJ I φ H nx F E w) (hk:φ k=none) (hkx:k<nx) {x y z:EV} {H':Hp} (h:sK T H k t u x y=some (z,H')) {a c:Value} (hx:aQ φ x a) (hy:aQ φ y c) :
  ∃v w',(Builtin.append_ #[t,u] ty #[a,c]).run P w=.ok v w'∧dl φ I F E k nx z H' nx v w':=by
 have hB:jK=140737488355328:=rfl
 unfold sK at h
 split at h
 ·rename_i i iu hi hiu
  split at h
  ·rename_i e ku k2 n hd hdu
   have ht:=hd▸(hT t i hi).und
   have hu:=hdu▸(hT u iu hiu).und
   have hx:a=.slice none 0 0:=hx
   have hy:c=.int k2 n:=hy
   subst hx hy
   split at h
   ·rename_i ie m hie hm
    have hm:=eZ hm
    subst hm
    have hTe:=hT e ie hie
    obtain ⟨f,zv,f1,f2,f3,f4,f5,_⟩:=hTe.inf
    cases hb:(Nat.blt 0 m&&Nat.blt 0 ie.size&&Nat.ble (m*ie.bytes) jK&&Nat.ble m jK) with
    |false=>rw[hb] at h;cases h
    |true=>
     rw[hb] at h
     simp only[cond_true,Option.some.injEq,Prod.mk.injEq] at h
     obtain ⟨rfl,rfl⟩:=h
     simp only[qg] at hb
     have b0:0<m:=Nat.le_of_ble_eq_true hb.1.1.1
     have b1:0<ie.size:=Nat.le_of_ble_eq_true hb.1.1.2
     have b2:=Nat.le_of_ble_eq_true hb.1.2
     have b3:=Nat.le_of_ble_eq_true hb.2
     have hz1:=hTe.cell1 f5
     have hzl:zv.cells.toList.length=ie.size:=by rw[(f5 φ).length,hTe.zl]
     have hrun:=Go.Lib.run_append_nil_zeros (P:=P) w t u ty e f zv k2 ku ht hu f1 f4 m b0 (by rw[f2];exact b1) (by omega) (by rw[f3];omega)
     have hzc:Builtin.zeroCells zv.cells m=(List.replicate m zv.cells.toList).flatten.toArray:=by
      have:=gI zv.cells.toList m (by omega) hz1
      rw[Array.toArray_toList] at this
      rw[←this,Array.length_toList];rfl
     rw[hzc] at hrun
     exact ⟨_,_,hrun,sJ hTe f1 f2 f5 hR hk hkx ((f5 φ).flatR m) (fun u hu=>by
      obtain ⟨r,hr,hu⟩:=List.mem_flatten.1 hu
      rw[List.eq_of_mem_replicate hr] at hu
      exact hz1 u hu) (by simp[hzl]) (grownCap_ge _ _ _ _)⟩
   ·cases h
  ·cases h
 ·cases h
theorem wU {t u:Nat} {ty:TypeId} (hT:cu P T) (hR:cJ I φ H nx F E w) {x y z:EV} {H':Hp} (h:og T H t x y=some (z,H')) {a c:Value} (hx:aQ φ x a) (hy:aQ φ y c) :
  ∃v w',(Builtin.copy_ #[t,u] ty #[a,c]).run P w=.ok v w'∧dl φ I F E k nx z H' nx v w':=by
 unfold og at h
 split at h
 ·rename_i i hi
  split at h
  ·rename_i e b off n k' cp hd
   have ht:=hd▸(hT t i hi).und
   split at h
   ·rename_i ie hie
    have hTe:=hT e ie hie
    split at h
    ·rename_i m news ex cs hnews hcs
     obtain ⟨q,hqe⟩:∃q,Nat.min m n=q:=⟨_,rfl⟩
     rw[hqe] at h
     have hq1:q≤m:=hqe▸Nat.min_le_left m n
     have hq2:q≤n:=hqe▸Nat.min_le_right m n
     cases hq0:Nat.beq q 0 with
     |true=>
      rw[hq0] at h
      simp only[cond_true,Option.some.injEq,Prod.mk.injEq] at h
      obtain ⟨rfl,rfl⟩:=h
      have hq0:=Nat.eq_of_beq_eq_true hq0
      subst hq0
      obtain ⟨pb,o,cap,hq,rfl,x1,x2,x3⟩:=hx
      obtain ⟨sa,c2,nv,rfl,n1,n2,n3,n4⟩:=my hR hnews hy
      refine ⟨.int .i64 0,w,?_,hR.stay Z⟩
      cases sa<;>simp[Builtin.copy_,run_underlying ht,hTe.sz,Builtin.lenOf,hqe,Builtin.firstCells,loadCells,loadCellsFrom,storeCells,goInt,Result.andThen]
     |false=>
     rw[hq0] at h
     simp only[cond_false] at h
     cases hb:(Nat.beq k' ie.size&&Nat.blt 0 ie.size&&Nat.blt 0 q&&Nat.ble (off+q*ie.size) cs.length) with
     |false=>rw[hb] at h;cases h
     |true=>
      rw[hb] at h
      simp only[cond_true,Option.some.injEq,Prod.mk.injEq] at h
      obtain ⟨rfl,rfl⟩:=h
      simp only[qg] at hb
      have b0:=Nat.eq_of_beq_eq_true hb.1.1.1
      have b1:0<ie.size:=Nat.le_of_ble_eq_true hb.1.1.2
      have b2:0<q:=Nat.le_of_ble_eq_true hb.1.2
      have b3:=Nat.le_of_ble_eq_true hb.2
      subst b0
      obtain ⟨pb,o,cap,hq,rfl,x1,x2,_⟩:=hx
      obtain ⟨sa,c2,nv,rfl,n1,n2,n3,n4⟩:=my hR hnews hy
      obtain ⟨sp,rfl,hat⟩:∃sp,sa=some sp∧∀(j:Nat) u,nv[j]?=some u→w.cell? (sp.add j)=some u:=by
       rcases n4 with ⟨_,h0⟩|h0
       ·omega
       ·exact h0
      have hmul:q*ie.size≤m*ie.size:=Nat.mul_le_mul_right _ hq1
      have hnl:(nv.take (q*ie.size)).length=q*ie.size:=by rw[qc,n2];omega
      have hf:=run_firstCells_some (P:=P) w ie.size q sp m c2 (nv.take (q*ie.size)) hnl (fun j v hj=>hat j v (by
       have:=(List.getElem?_eq_some_iff.1 hj).1
       rw[hnl] at this
       rwa [List.getElem?_take_of_lt this] at hj))
      obtain ⟨A,L,hBb,hr,hS⟩:=hR.pick hcs
      obtain ⟨q',S,vs,junk,y1,y2,y3,y4,y5,y6,rfl⟩:=hBb
      rw[hq] at y1;cases y1
      have hvl:=y3.length
      have ho:o=off:=by rw[x2 (by omega),y2,Nat.zero_add]
      subst ho
      have hst:=nO (P:=P) (w:=w) (b:=pb.r) (off:=o) (n:=q*ie.size) (T:=S) (old:=vs++junk) (vs:=nv.take (q*ie.size)) hnl (fun u hu=>n3 u (List.mem_of_mem_take hu)) (by rw[q8];omega) (hS.own _ (.head _))
      have hcells:(vs++junk).take o++nv.take (q*ie.size)++(vs++junk).drop (o+q*ie.size)=(vs.take o++nv.take (q*ie.size)++vs.drop (o+q*ie.size))++junk:=by
       rw[List.take_append_of_le_length (by omega),List.drop_append_of_le_length (by omega)]
       simp
      rw[hcells] at hst
      refine ⟨.int .i64 q,_,?_,I,φ,.refl _,.refl _,fun _ _ _=>Z,Nat.le_refl _,Z,yz hr ⟨pb,S,vs.take o++nv.take (q*ie.size)++vs.drop (o+q*ie.size),junk,hq,y2,((y3.take _).append (n1.take _)).append (y3.drop _),fun u hu=>?_,?_,y6,Z⟩ hS.turn1 hR.top⟩
      ·simp[Builtin.copy_,run_underlying ht,hTe.sz,Builtin.lenOf,hqe,hf,hst,goInt,Result.andThen]
      ·rcases List.mem_append.1 hu with hu|hu
       ·rcases List.mem_append.1 hu with hu|hu
        ·rcases List.mem_append.1 hu with hu|hu
         ·exact y4 u (List.mem_append_left _ (List.mem_of_mem_take hu))
         ·exact n3 u (List.mem_of_mem_take hu)
        ·exact y4 u (List.mem_append_left _ (List.mem_of_mem_drop hu))
       ·exact y4 u (List.mem_append_right _ hu)
      ·rw[←y5]
       simp only[q8,List.length_drop,hnl,qc,n2] at *
       omega
    ·cases h
   ·cases h
  ·cases h
 ·cases h
theorem dz.val {o:Oper} {K:Value→World→Prop} {v:Value} {w':World} (h:(execOp (ev ρ) o).run P w=.ok (.value v) w') (hk:K v w'):dz P o ρ w K:=by
 unfold dz;rw[h];exact hk
theorem dz.skp {o:Oper} {K:Value→World→Prop} {w':World} (h:(execOp (ev ρ) o).run P w=.ok .skip w') (hk:K undef w'):dz P o ρ w K:=by
 unfold dz;rw[h];exact hk
theorem BB (hT:cu P T) (hg:dI φ g ρ) (hR:cJ I φ H nx F E w) (hk:φ k=none) (hkx:k<nx) {o:Oper} {x:EV} {H':Hp} (h:Dz T g H k o.op=some (x,H')):dz P o ρ w (dl φ I F E k nx x H' nx):=by
 obtain ⟨dst,op,ty,pos,af,gu⟩:=o
 dsimp only at h
 unfold Dz at h
 split at h
 ·rename_i t x' y'
  split at h
  ·rename_i i b off a hi hx hy
   have hTi:=hT t i hi
   obtain ⟨q,hq,hxv⟩:=aJ hg hx
   have hyv:=aJ hg hy
   split at h
   ·rename_i ex cs hcs
    cases hb:(a.sto&&a.cs.all EV.cell&&Nat.beq a.cs.length i.size&&Nat.ble (off+i.size) cs.length) with
    |false=>rw[hb] at h;cases h
    |true=>
     rw[hb] at h
     simp only[cond_true,Option.some.injEq,Prod.mk.injEq] at h
     obtain ⟨rfl,rfl⟩:=h
     simp only[qg] at hb
     have b1:=hb.1.1.1
     have b2:=hb.1.1.2
     have b3:=Nat.eq_of_beq_eq_true hb.1.2
     have b4:=Nat.le_of_ble_eq_true hb.2
     have hr:=EV.cs_rel hyv b1
     have h1:=EV.cells_rel hr b2
     obtain ⟨A,L,hBb,hrest,hS⟩:=hR.pick hcs
     obtain ⟨q',S,vs,junk,y1,y2,y3,y4,y5,y6,rfl⟩:=hBb
     rw[hq] at y1;cases y1
     have hvl:=y3.length
     have hrun:=gi (P:=P) (t:=t) (b:=q.r) (off:=off) (v:=ev ρ y') (vs:=(ev ρ y').cells.toList) (old:=vs++junk) (w:=w) hTi.sz (by simp) (by rw[hr.length,b3]) h1 (by rw[q8];omega) (hS.own _ (.head _))
     have hcells:(vs++junk).take off++(ev ρ y').cells.toList++(vs++junk).drop (off+i.size)=(vs.take off++(ev ρ y').cells.toList++vs.drop (off+i.size))++junk:=by
      rw[List.take_append_of_le_length (by omega),List.drop_append_of_le_length (by omega)]
      simp
     rw[hcells] at hrun
     refine dz.skp (w':=w.setRow q.r ((vs.take off++(ev ρ y').cells.toList++vs.drop (off+i.size))++junk).toArray) ?_ ⟨I,φ,.refl _,.refl _,fun _ _ _=>Z,Nat.le_refl _,trivial,yz hrest ⟨q,S,_,junk,hq,y2,((y3.take off).append hr).append (y3.drop _),fun u hu=>?_,?_,y6,Z⟩ hS.turn1 hR.top⟩
     ·simp only[execOp,hxv]
      rw[y2,Nat.zero_add,Sem.run_bind,hrun];rfl
     ·rcases List.mem_append.1 hu with hu|hu
      ·rcases List.mem_append.1 hu with hu|hu
       ·rcases List.mem_append.1 hu with hu|hu
        ·exact y4 u (List.mem_append_left _ (List.mem_of_mem_take hu))
        ·exact h1 u hu
       ·exact y4 u (List.mem_append_left _ (List.mem_of_mem_drop hu))
      ·exact y4 u (List.mem_append_right _ hu)
     ·have hl2:=hr.length
      rw[←y5]
      simp only[q8,qc,List.length_drop,hl2]
      omega
   ·cases h
  ·cases h
 ·rename_i x'
  split at h
  ·rename_i b off hx
   obtain ⟨q,hq,hxv⟩:=aJ hg hx
   split at h
   ·rename_i s p hsp
    obtain ⟨A,L,hBb,hrest,hS⟩:=hR.pick hsp
    obtain ⟨q',y1,y2,rfl⟩:=hBb
    rw[hq] at y1;cases y1
    have hb:=hS.own _ (.head _)
    simp only at hb
    cases ho:Nat.beq off 0 with
    |false=>rw[ho] at h;cases h
    |true=>
     rw[ho] at h
     have ho:=Nat.eq_of_beq_eq_true ho
     subst ho
     have hxv:ev ρ x'=.pointer (some ⟨q.r,0,none⟩):=by rw[hxv,y2]
     simp only[cond_true] at h
     have hsz:s.size=s.data.toList.length:=by rw[Array.length_toList];rfl
     split at h
     ·rename_i c hc
      cases hc2:Nat.blt c.toNat 128 with
      |false=>rw[hc2] at h;cases h
      |true=>
       rw[hc2] at h
       simp only[cond_true,Option.some.injEq,Prod.mk.injEq] at h
       obtain ⟨rfl,rfl⟩:=h
       have hc2:c.toNat<128:=Nat.le_of_ble_eq_true hc2
       have hd:=iR (s:=s) (p:=p) (b:=c) (by rw[←Array.getElem?_toList];exact hc) hc2
       have hp:p<s.size:=by rw[hsz];exact (List.getElem?_eq_some_iff.1 hc).1
       refine dz.val (v:=.tuple #[.bool true,.int .i64 p,.int .i32 c.toNat]) (w':={ w with heap:=w.heap.setIfInBounds q.r (.stringIter s (p+1)) }) ?_ ⟨I,φ,.refl _,.refl _,fun _ _ _=>Z,Nat.le_refl _,⟨[_,_,_],Z,_,_,Z,Z,_,_,Z,Z,_,_,Z,Z,Z⟩,yz hrest ⟨q,hq,y2,Z⟩ (hS.turn Z Z Z ?_ ?_) hR.top⟩
       ·simp[execOp,Instr.next,hxv,dK hb,gh hb,Result.andThen,hp,goInt,hd]
       ·simp[bU hb]
       ·intro j hj;simp[Array.getElem?_setIfInBounds,Ne.symm hj]
     ·rename_i hc
      simp only[Option.some.injEq,Prod.mk.injEq] at h
      obtain ⟨rfl,rfl⟩:=h
      have hp:¬p<s.size:=by rw[hsz];exact fun hlt=>by rw[q2 hlt] at hc;cases hc
      refine dz.val (v:=.tuple #[.bool false]) (w':=w) ?_ (hR.stay ⟨[_],Z,_,_,Z,Z,Z⟩)
      simp[execOp,Instr.next,hxv,dK hb,Result.andThen,hp]
   ·cases h
  ·cases h
 ·rename_i t m' y' z'
  unfold yR at h
  split at h
  ·rename_i i b key v hi hx hy hz
   obtain ⟨q,hq,hxv⟩:=aJ hg hx
   have hyv:=aJ hg hy
   have hzv:=aJ hg hz
   split at h
   ·rename_i kt et es hd hes
    have hu:=hd▸(hT t i hi).und
    split at h
    ·rename_i ik hik
     obtain ⟨A,L,hBb,hrest,hS⟩:=hR.pick hes
     obtain ⟨q',ms,y1,y2,rfl⟩:=hBb
     rw[hq] at y1;cases y1
     have hb2:=hS.own _ (.head _)
     simp only at hb2
     have fin:∀(es':List (EV × EV)) (ms':List MapEntry) (clock':Nat),cg φ es' ms'→kQ ms'→clock'=ms'.length→(execOp (ev ρ) (Oper.mk dst (.mapUpdate t m' y' z') ty pos af gu)).run P w=.ok .skip { w with heap:=w.heap.setIfInBounds q.r (.map ms'.toArray clock') }→dz P (Oper.mk dst (.mapUpdate t m' y' z') ty pos af gu) ρ w (dl φ I F E k nx .u (H.set b (some (.mp es'))) nx):=fun es' ms' clock' hr hbn hcl hrun=>by
      subst hcl
      have hh:=MapKept.heap_set (o':=.map ms'.toArray ms'.length) hb2
      exact dz.skp hrun ⟨I,φ,.refl _,.refl _,fun _ _ _=>rfl,Nat.le_refl _,trivial,yz hrest ⟨q,ms',hq,⟨hr,hbn⟩,rfl⟩ (hS.turn rfl rfl rfl hh.1 hh.2) hR.top⟩
     split at h
     ·rename_i j v0 hf
      obtain ⟨hc,hkeep,⟨e,_⟩|⟨j',y,e,g1,g2,g3,g4,g5⟩⟩:=fC hT hik hyv y2.1 hf
      ·cases e
      ·cases g1
       cases h
       have hc:=hc w false
       have hf:=g2 w
       have hkeep:=hkeep w
       refine fin _ (ms.set j { e with key:=ev ρ y',val:=ev ρ z' }) ms.length (y2.1.set j hyv hzv) (y2.2.set g4 Z) (by simp) ?_
       rw[←oh (f:=fun e=>{ e with key:=ev ρ y',val:=ev ρ z' }) g4]
       simp[execOp,hxv,Instr.mapUpdate,run_underlying hu,MapKept.run_getObj_map hb2,hc,hf,MapKept.run_setObj_map _ hb2,Result.andThen,g4,g5,hkeep]
     ·rename_i hf
      obtain ⟨hc,hkeep,⟨_,g2⟩|⟨j,y,e,g1,_⟩⟩:=fC hT hik hyv y2.1 hf
      ·cases h
       have hc:=hc w false
       have hf:=g2 w
       refine fin _ (ms++[{ key:=ev ρ y',val:=ev ρ z',born:=ms.length }]) (ms.length+1) (y2.1.push hyv hzv) (y2.2.push Z) (by simp) ?_
       simp[execOp,hxv,Instr.mapUpdate,run_underlying hu,MapKept.run_getObj_map hb2,hc,hf,MapKept.run_setObj_map _ hb2,Result.andThen]
      ·cases g1
     ·cases h
    ·cases h
   ·cases h
  ·cases h
 ·rename_i t m' y'
  unfold yS at h
  split at h
  ·rename_i i b key hi hx hy
   obtain ⟨q,hq,hxv⟩:=aJ hg hx
   have hyv:=aJ hg hy
   split at h
   ·rename_i kt et es hd hes
    have hu:=hd▸(hT t i hi).und
    split at h
    ·rename_i ik ie hik hie
     obtain ⟨A,L,hBb,hrest,hS⟩:=hR.pick hes
     obtain ⟨q',ms,y1,y2,rfl⟩:=hBb
     rw[hq] at y1;cases y1
     have hb2:=hS.own _ (.head _)
     simp only at hb2
     have fin:∀(es':List (EV × EV)) (ms':List MapEntry) (clock':Nat) (x:EV) (v:Value),cg φ es' ms'→kQ ms'→clock'=ms'.length→aQ φ x v→(execOp (ev ρ) (Oper.mk dst (.mapEntry t m' y') ty pos af gu)).run P w=.ok (.value v) { w with heap:=w.heap.setIfInBounds q.r (.map ms'.toArray clock') }→dz P (Oper.mk dst (.mapEntry t m' y') ty pos af gu) ρ w (dl φ I F E k nx x (H.set b (some (.mp es'))) nx):=fun es' ms' clock' x v hr hbn hcl hxr hrun=>by
      subst hcl
      have hh:=MapKept.heap_set (o':=.map ms'.toArray ms'.length) hb2
      exact dz.val hrun ⟨I,φ,.refl _,.refl _,fun _ _ _=>rfl,Nat.le_refl _,hxr,yz hrest ⟨q,ms',hq,⟨hr,hbn⟩,rfl⟩ (hS.turn rfl rfl rfl hh.1 hh.2) hR.top⟩
     split at h
     ·rename_i j v0 hf
      obtain ⟨hc,hkeep,⟨e,_⟩|⟨j',y,e,g1,g2,g3,g4,g5⟩⟩:=fC hT hik hyv y2.1 hf
      ·cases e
      ·cases g1
       cases h
       have hc:=hc w false
       have hf:=g2 w
       have hkeep:=hkeep w
       have hbj:=y2.2 j e g4
       refine fin _ (ms.set j { e with key:=ev ρ y' }) ms.length _ (.tuple #[e.val,.int .i64 j]) (y2.1.set j hyv g3) (y2.2.set g4 Z) (by simp) ⟨[e.val,.int .i64 j],Z,_,_,Z,g3,_,_,Z,Z,Z⟩ ?_
       rw[←oh (f:=fun e=>{ e with key:=ev ρ y' }) g4]
       simp[execOp,hxv,Instr.mapEntry,run_underlying hu,MapKept.run_getObj_map hb2,hc,hf,MapKept.run_setObj_map _ hb2,Result.andThen,g4,g5,hkeep,goInt,hbj]
     ·rename_i hf
      obtain ⟨hc,hkeep,⟨_,g2⟩|⟨j,y,e,g1,_⟩⟩:=fC hT hik hyv y2.1 hf
      ·obtain ⟨zv,hz,hzr⟩:=(hT et ie hie).zeroV
       cases h
       have hc:=hc w false
       have hf:=g2 w
       have hz:=hz w
       refine fin _ (ms++[{ key:=ev ρ y',val:=zv,born:=ms.length }]) (ms.length+1) _ (.tuple #[zv,.int .i64 ms.length]) (y2.1.push hyv (hzr φ)) (y2.2.push Z) (by simp) ⟨[zv,.int .i64 ms.length],Z,_,_,Z,hzr φ,_,_,Z,by rw[y2.1.len];rfl,rfl⟩ ?_
       simp[execOp,hxv,Instr.mapEntry,run_underlying hu,MapKept.run_getObj_map hb2,hc,hf,hz,MapKept.run_setObj_map _ hb2,Result.andThen,goInt]
      ·cases g1
     ·cases h
    ·cases h
   ·cases h
  ·cases h
 ·rename_i t m' s' z'
  unfold yT at h
  split at h
  ·rename_i b n v hx hy hz
   obtain ⟨q,hq,hxv⟩:=aJ hg hx
   have hyv:ev ρ s'=.int .i64 n:=aJ hg hy
   have hzv:=aJ hg hz
   split at h
   ·rename_i es j hes hj
    split at h
    ·rename_i e0 he0
     cases h
     obtain ⟨A,L,hBb,hrest,hS⟩:=hR.pick hes
     obtain ⟨q',ms,y1,y2,rfl⟩:=hBb
     rw[hq] at y1;cases y1
     have hb2:=hS.own _ (.head _)
     simp only at hb2
     obtain ⟨e,g4,h1,h2⟩:=y2.1.at j he0
     have hn:n=(j:Int):=eZ hj
     subst hn
     have hfi:=y2.2.find (List.getElem?_eq_some_iff.1 g4).1
     have hrun:(execOp (ev ρ) (Oper.mk dst (.entryStore t m' s' z') ty pos af gu)).run P w=.ok .skip { w with heap:=w.heap.setIfInBounds q.r (.map (ms.set j { e with val:=ev ρ z' }).toArray ms.length) }:=by
      rw[←oh (f:=fun e=>{ e with val:=ev ρ z' }) g4]
      simp only[execOp,hxv,hyv,Instr.entryStore]
      simp[MapKept.run_getObj_map hb2,MapKept.run_setObj_map _ hb2,Result.andThen,asInt,asIntOf,hfi]
     have fin:∀(ms':List MapEntry) (clock':Nat),cg φ (es.set j (e0.1,v)) ms'→kQ ms'→clock'=ms'.length→(execOp (ev ρ) (Oper.mk dst (.entryStore t m' s' z') ty pos af gu)).run P w=.ok .skip { w with heap:=w.heap.setIfInBounds q.r (.map ms'.toArray clock') }→dz P (Oper.mk dst (.entryStore t m' s' z') ty pos af gu) ρ w (dl φ I F E k nx .u (H.set b (some (.mp (es.set j (e0.1,v))))) nx):=fun ms' clock' hr hbn hcl hrun=>by
      subst hcl
      have hh:=MapKept.heap_set (o':=.map ms'.toArray ms'.length) hb2
      exact dz.skp hrun ⟨I,φ,.refl _,.refl _,fun _ _ _=>rfl,Nat.le_refl _,trivial,yz hrest ⟨q,ms',hq,⟨hr,hbn⟩,rfl⟩ (hS.turn rfl rfl rfl hh.1 hh.2) hR.top⟩
     exact fin (ms.set j { e with val:=ev ρ z' }) ms.length (y2.1.set (e:={ e with val:=ev ρ z' }) j h1 hzv) (y2.2.set g4 rfl) (by simp) hrun
    ·cases h
   ·cases h
  ·cases h
 ·split at h
  ·rename_i ar ts _ _ x' y' t u h1 h2
   have h1:=wN h1
   have h2:=wN h2
   subst h1 h2
   split at h
   ·rename_i a c hx hy
    cases htu:Nat.beq t u with
    |false=>
     rw[htu] at h
     obtain ⟨v,w',h3,h4⟩:=yU (ty:=ty) hT hR hk hkx h (aJ hg hx) (aJ hg hy)
     exact dz.val (by simp[execOp,resolve,invoke,builtin,h3]) h4
    |true=>
     rw[htu] at h
     have htu:=Nat.eq_of_beq_eq_true htu
     subst htu
     obtain ⟨v,w',h3,h4⟩:=yQ (ty:=ty) hT hR hk hkx h (aJ hg hx) (aJ hg hy)
     exact dz.val (by simp[execOp,resolve,invoke,builtin,h3]) h4
   ·cases h
  ·cases h
 ·split at h
  ·rename_i ar ts _ _ x' y' t u h1 h2
   have h1:=wN h1
   have h2:=wN h2
   subst h1 h2
   split at h
   ·rename_i a c hx hy
    obtain ⟨v,w',h3,h4⟩:=wU (k:=k) (u:=u) (ty:=ty) hT hR h (aJ hg hx) (aJ hg hy)
    exact dz.val (by simp[execOp,resolve,invoke,builtin,h3]) h4
   ·cases h
  ·cases h
 ·cases h
theorem yV (hT:cu P T) (hg:dI φ g ρ) (hR:cJ I φ H nx F E w) (hk:φ k=none) (hkx:k<nx) {o:Oper} {x:EV} {H':Hp} (h:EM T g H k o.op=some (x,H')):dz P o ρ w (dl φ I F E k nx x H' nx):=BB hT hg hR hk hkx (DA T g H k o.op▸h)
end
end
section
open Go.Proofs
noncomputable def gt (G:Tr EV) (t:Nat):EV:=(G.get t).getD .u
noncomputable def setO (G:Tr EV) (d:Option Nat) (x:EV):Tr EV:=
 match d with
 |some d=>G.set d (some x)
 |none=>G
abbrev bK:=Nat→List EV→Hp→Nat→Option (EV × Hp × Nat)
def cE (P:Program) (E:World) (call:bK):Prop:=
 ∀f ar H nx x H' nx',call f ar H nx=some (x,H',nx')→∀φ I F w vs,cJ I φ H nx F E w→RelVs φ ar vs→Fn P f vs.toArray w (dl φ I F E nx nx x H' nx')
noncomputable def yW (T:TT) (call:bK) (g:Nat→EV) (H:Hp) (nx:Nat) (op:Op):Option (EV × Hp × Nat):=
 match op with
 |.call ⟨.value fo,ar,_⟩=>match bL g fo,mL (bL g) ar.toList with
  |some (.fn f a c),some m=>call f (a++m++c) H nx
  |_,_=>none
 |.call ⟨.invoke ro nm,ar,_⟩=>match bL g ro,mL (bL g) ar.toList with
  |some (.ifc t v),some m=>match (T t).bind fun i=>i.ms nm with
   |some f=>call f (v::m) H nx
   |none=>none
  |_,_=>none
 |_=>none
noncomputable def BC (T:TT) (call:bK) (g:Nat→EV) (H:Hp) (k nx:Nat) (op:Op):Option (EV × Hp × Nat):=
 match Es T g op with
 |some x=>some (x,H,nx)
 |none=>match Ez T g H op with
  |some x=>some (x,H,nx)
  |none=>match DS T g k op with
   |some (x,o)=>some (x,H.set k (some o),nx)
   |none=>match EM T g H k op with
    |some (x,H')=>some (x,H',nx)
    |none=>yW T call g H nx op
section
variable {P:Program} {φ:bY} {g:Nat→EV} {ρ:bD} {w:World} {T:TT} {I:aI} {H H':Hp} {k nx nx':Nat} {F:List (Nat × Obj)} {E:World} {call:bK}
theorem dl.weak {x:EV} {v:Value} (h:dl φ I F E nx nx x H' nx' v w):dl φ I F E k nx x H' nx' v w:=
 let ⟨J,ψ,a,b,c,d,e,f⟩:=h;⟨J,ψ,a,b,fun j hj _=>c j hj (Nat.ne_of_lt hj),d,e,f⟩
theorem dI.setO {G:Tr EV} (hg:dI φ (gt G) ρ) {x:EV} {v:Value} (hx:aQ φ x v) (d:Option Nat):dI φ (gt (setO G d x)) (updO ρ d v):=by
 cases d with
 |none=>exact hg
 |some d=>
  intro t
  show aQ φ (((G.set d (some x)).get t).getD .u) (upd ρ d v t)
  rw[Tr.get_set]
  by_cases e:t=d
  ·rw[if_pos e];subst e;rw[eE];exact hx
  ·rw[if_neg e,cT _ _ e];exact hg t
theorem sL (hT:cu P T) (hC:cE P E call) (hg:dI φ g ρ) (hR:cJ I φ H nx F E w) {o:Oper} {x:EV} (h:yW T call g H nx o.op=some (x,H',nx')):dz P o ρ w (dl φ I F E k nx x H' nx'):=by
 obtain ⟨dst,op,ty,pos,af,gu⟩:=o
 dsimp only at h
 unfold yW at h
 split at h
 ·rename_i fo ar ts
  split at h
  ·rename_i f a c m hf hm
   obtain ⟨vs,us,he,h1,h2⟩:=aJ hg hf
   have hm:=ll hg hm
   have hc:=hC _ _ _ _ _ _ _ h φ I F w _ hR ((h1.append hm).append h2)
   obtain ⟨⟨fn,cd,h3,hb,hn⟩,hcalls⟩:=hc
   unfold dz
   have hrun:(execOp (ev ρ) (Oper.mk dst (.call { callee:=.value fo,args:=ar,argTypes:=ts }) ty pos af gu)).run P w=.ok (.enter f (vs++ar.toList.map (ev ρ)++us).toArray) w:=by
    simp[execOp,resolve,he,Deferred.ofValue,invoke,callFunc,h3,hb,hn]
   rw[hrun]
   exact hcalls.mono fun e w' ⟨v,g1,g2⟩=>⟨v,g1,g2.weak⟩
  ·cases h
 ·rename_i ro nm ar ts
  split at h
  ·rename_i t v m hf hm
   split at h
   ·rename_i f hms
    obtain ⟨i,hi,hms⟩:=Option.bind_eq_some_iff.1 hms
    obtain ⟨u,he,h1⟩:=aJ hg hf
    have hm:=ll hg hm
    have hc:=hC _ _ _ _ _ _ _ h φ I F w _ hR (show RelVs φ (v::m) (u::ar.toList.map (ev ρ)) from ⟨_,_,rfl,h1,hm⟩)
    obtain ⟨⟨fn,cd,h3,hb,hn⟩,hcalls⟩:=hc
    have hmt:=(hT t i hi).mt nm f hms
    unfold dz
    have hrun:(execOp (ev ρ) (Oper.mk dst (.call { callee:=.invoke ro nm,args:=ar,argTypes:=ts }) ty pos af gu)).run P w=.ok (.enter f (u::ar.toList.map (ev ρ)).toArray) w:=by
     have e1:(method (P.types.size+Made.depth) t u nm).run P w=.ok (f,u) w:=hmt (P.types.size+99) u w
     have e2:((#[ev ρ ro]++ar.map (ev ρ):Array Value).extract 1 (#[ev ρ ro]++ar.map (ev ρ):Array Value).size)=ar.map (ev ρ):=by
      apply Array.ext'
      simp only[Array.toList_extract,List.extract,Array.toList_append,Array.size_append,List.size_toArray,Array.size_map]
      simp
      exact List.take_of_length_le (by simp)
     have e3:(#[ev ρ ro]++ar.map (ev ρ):Array Value)[0]?=some (.iface t u):=by simp[he,Array.getElem?_append]
     have hpr:(program:Sem Program).run P w=.ok P w:=rfl
     have e4:(invoke (.fn (.method nm) #[]) (#[ev ρ ro]++ar.map (ev ρ))).run P w=.ok (.enter f (u::ar.toList.map (ev ρ)).toArray) w:=by
      unfold invoke
      simp only[e3,e2,callMethod,Sem.run_bind,hpr,Result.andThen_ok,e1,callFunc,h3,hb]
      simp[hn]
     have e5:(resolve (ev ρ) { callee:=.invoke ro nm,args:=ar,argTypes:=ts } ty).run P w=.ok { target:=.fn (.method nm) #[],args:=#[ev ρ ro]++ar.map (ev ρ) } w:=rfl
     show (do let d ←resolve (ev ρ) { callee:=.invoke ro nm,args:=ar,argTypes:=ts } ty;invoke d.target d.args:Sem Next).run P w=_
     rw[Sem.run_bind,e5]
     exact e4
    rw[hrun]
    exact hcalls.mono fun e w' ⟨v,g1,g2⟩=>⟨v,g1,g2.weak⟩
   ·cases h
  ·cases h
 ·cases h
theorem sM (hT:cu P T) (hC:cE P E call) (hg:dI φ g ρ) (hR:cJ I φ H nx F E w) (hk:φ k=none) (hkx:k<nx) {o:Oper} {x:EV} (h:BC T call g H k nx o.op=some (x,H',nx')):dz P o ρ w (dl φ I F E k nx x H' nx'):=by
 unfold BC at h
 split at h
 ·rename_i y hy
  cases h
  obtain ⟨v,h1,h2⟩:=yL (P:=P) (w:=w) hT hg hy
  exact dz.val h1 (hR.stay h2)
 ·split at h
  ·rename_i y hy
   cases h
   obtain ⟨v,h1,h2⟩:=yO hT hg hR hy
   exact dz.val h1 (hR.stay h2)
  ·split at h
   ·rename_i y vo hy
    cases h
    obtain ⟨L,hr,hS⟩:=hR.freshN hk
    obtain ⟨v,w',q,A,h1,h2,h3,h4⟩:=yP (P:=P) hT hg hy hk hS
    exact dz.val h1 ⟨I,φ.put k q,.refl _,q0 hk q,fun j _ hj=>iK φ q hj,Nat.le_refl _,h2,yz (hr.mono (.refl _) (q0 hk q)) h3 h4 (jJ hR.top hkx q)⟩
   ·split at h
    ·rename_i y H1 hy
     cases h
     exact yV hT hg hR hk hkx hy
    ·exact sL hT hC hg hR h
end
noncomputable def pV (ops:List Oper) (g:Nat→EV) (o:Oper):Option Bool:=
 match o.guard with
 |none=>some true
 |some (j,b)=>match (ops[j]?).bind (·.dst) with
  |some s=>match g s with
   |.b b'=>some (b' == b)
   |.tu _=>some false
   |_=>none
  |none=>none
noncomputable def pW (T:TT) (call:bK) (ops:List Oper):List Oper→Tr EV→Hp→Nat→Option (Tr EV × Hp × Nat)
 |[],G,H,nx=>some (G,H,nx)
 |o::rest,G,H,nx=>match pV ops (gt G) o with
  |none=>none
  |some t=>bif t then
    match BC T call (gt G) H nx (nx+1) o.op with
    |some (x,H',nx')=>pW T call ops rest (setO G o.dst x) H' nx'
    |none=>none
   else pW T call ops rest (setO G o.dst (.tu [])) H nx
def e9 (φ:bY) (I:aI) (F:List (Nat × Obj)) (E:World) (nx:Nat) (G:Tr EV) (H:Hp) (nx':Nat) (ρ:bD) (w:World):Prop:=
 ∃J ψ,I.le J∧φ.le ψ∧(∀j,j<nx→ψ j=φ j)∧nx≤nx'∧dI ψ (gt G) ρ∧cJ J ψ H nx' F E w
section
variable {P:Program} {φ ψ:bY} {g:Nat→EV} {ρ:bD} {w:World} {T:TT} {I J:aI} {H H':Hp} {k nx nx' n:Nat} {F:List (Nat × Obj)} {E:World} {call:bK} {G G':Tr EV}
theorem e9.up (hI:I.le J) (h:φ.le ψ) (hs:∀j,j<nx→ψ j=φ j) {n1:Nat} (hn:nx≤n1):e9 ψ J F E n1 G H nx' ρ w→e9 φ I F E nx G H nx' ρ w:=
 fun ⟨K,χ,a,b,c,d,e,f⟩=>⟨K,χ,hI.trans a,h.trans b,fun j hj=>(c j (by omega)).trans (hs j hj),by omega,e,f⟩
theorem sN {ops:List Oper} {o:Oper} {t:Bool} (hg:dI φ g ρ) (h:pV ops g o=some t):bG ops.toArray o ρ=t:=by
 unfold pV at h
 unfold bG
 cases hgu:o.guard with
 |none=>rw[hgu] at h;cases h;rfl
 |some jb=>
  obtain ⟨j,b⟩:=jb
  rw[hgu] at h
  simp only[List.getElem?_toArray] at h ⊢
  cases hd:(ops[j]?).bind (fun o:Oper=>o.dst) with
  |none=>rw[hd] at h;cases h
  |some s=>
   rw[hd] at h
   simp only at h ⊢
   have hs:=hg s
   split at h
   ·rename_i b' hb
    cases h
    rw[hb] at hs
    have hs:ρ s=.bool b':=hs
    rw[hs]
   ·rename_i hb
    cases h
    rw[hb] at hs
    obtain ⟨vs,hs,_⟩:=hs
    rw[hs]
   ·cases h
theorem mz (hT:cu P T) (hC:cE P E call) {ops:List Oper}:∀(rest:List Oper) (G:Tr EV) (H:Hp) (nx:Nat) (G':Tr EV) (H':Hp) (nx':Nat),pW T call ops rest G H nx=some (G',H',nx') →
  ∀(φ:bY) (I:aI) (ρ:bD) (w:World),dI φ (gt G) ρ→cJ I φ H nx F E w→bq P ops.toArray (e9 φ I F E nx G' H' nx') rest ρ w
 |[],G,H,nx,G',H',nx',h,φ,I,ρ,w,hg,hR=>by
  cases h
  exact ⟨I,φ,.refl _,.refl _,fun _ _=>rfl,Nat.le_refl _,hg,hR⟩
 |o::rest,G,H,nx,G',H',nx',h,φ,I,ρ,w,hg,hR=>by
  unfold pW at h
  split at h
  ·cases h
  ·rename_i t ht
   have hw:=sN hg ht
   unfold bq
   rw[hw]
   cases t with
   |false=>
    simp only[cond_false] at h
    rw[if_neg (by decide)]
    exact mz hT hC rest _ _ _ _ _ _ h φ I _ w (hg.setO (x:=.tu []) (v:=undef) ⟨[],rfl,rfl⟩ o.dst) hR
   |true=>
    simp only[cond_true] at h
    rw[if_pos rfl]
    split at h
    ·rename_i x H1 nx1 hx
     refine (sM hT hC hg (hR.mono (Nat.le_succ nx)) (hR.top nx (Nat.le_refl _)) (Nat.lt_succ_self nx) hx).mono fun v w' ⟨J,ψ,a,b,c,d,e,f⟩=>?_
     have:=mz hT hC rest _ _ _ _ _ _ h ψ J (updO ρ o.dst v) w' ((hg.mono b).setO e o.dst) f
     exact yt (fun _ _=>e9.up a b (fun j hj=>c j (by omega) (by omega)) (by omega)) _ _ _ this
    ·cases h
end
end
section
open Go.Proofs
def EN:Operand→Option Nat
 |.tmp t=>some t
 |_=>none
def qj (l:List Oper) (o:Oper):List Nat:=
 (match o.guard with
  |some (j,_)=>(match (l[j]?).bind (·.dst) with
   |some s=>[s]
   |none=>[])
  |none=>[])++o.op.operands.toList.filterMap EN
def kR (t:Nat):List Nat→Bool
 |[]=>false
 |x::l=>Nat.beq t x||kR t l
theorem fa {t:Nat}:∀{l:List Nat},kR t l=true↔t∈l
 |[]=>by simp[kR]
 |x::l=>by
  have ih:=@fa t l
  unfold kR
  rw[Bool.or_eq_true,ih,List.mem_cons]
  constructor
  ·rintro (h|h)
   ·exact .inl (Nat.eq_of_beq_eq_true h)
   ·exact .inr h
  ·rintro (h|h)
   ·exact .inl (by rw[h];exact Nat.beq_refl x)
   ·exact .inr h
noncomputable def wW (lk:List Nat) (G:Tr EV):Nat→EV:=fun t=>bif kR t lk then gt G t else .u
inductive Rc where
 |pv (x:EV)
 |lv (x:EV)
 |av (x:EV) (o:VO)
 |cv (x:EV)
def Rc.x:Rc→EV
 |.pv x | .lv x | .av x _ | .cv x=>x
def bx (nx0:Nat) (p:Nat→Bool):List Rc→Nat→List (Nat × VO)
 |[],_=>[]
 |.av _ o::rs,a=>bif p a then (nx0+a,o)::bx nx0 p rs (a+1) else bx nx0 p rs (a+1)
 |_::rs,a=>bx nx0 p rs (a+1)
noncomputable def ol:List (Nat × VO)→Hp→Option Hp
 |[],H=>some H
 |(k,o)::r,H=>match H.get k with
  |none=>ol r (H.set k (some o))
  |some _=>none
def yX (am:List Nat) (o:Oper):Nat:=o.after.toList.foldl (fun m e=>bif Region.binds .any e then m ||| (2 ^ e.on ||| (am[e.on]?).getD 0) else m) 0
def fV:List Oper→List Nat→List Nat
 |[],am=>am
 |o::r,am=>fV r (am++[yX am o])
abbrev rB:=Hp × Nat × Nat
def qA (fl m:Nat) (a:Nat):Bool:=m.testBit a&&!fl.testBit a
noncomputable def pass (T:TT) (call:bK) (l:List Oper) (am:List Nat) (nx0:Nat):List Oper→Nat→List Rc→Tr EV→List rB→Hp→Nat→Nat→Option Nat→Option (List Rc × Tr EV × List rB)
 |[],_,rs,G,S,_,_,_,_=>some (rs,G,S)
 |o::rest,i,rs,G,S,H,nx,fl,last=>
  let g:=wW (qj l o) G
  match pV l g o with
  |none=>none
  |some t=>bif t then
    match Es T g o.op with
    |some x=>pass T call l am nx0 rest (i+1) (rs++[.pv x]) (setO G o.dst x) S H nx fl last
    |none=>match DS T g (nx0+i) o.op with
     |some (x,vo)=>pass T call l am nx0 rest (i+1) (rs++[.av x vo]) (setO G o.dst x) S H nx fl last
     |none=>
      match ol (bx nx0 (qA fl ((am[i]?).getD 0)) rs 0) H with
      |none=>none
      |some H1=>match Ez T g H1 o.op with
       |some x=>pass T call l am nx0 rest (i+1) (rs++[.lv x]) (setO G o.dst x) S H nx fl last
       |none=>match (match EM T g H1 (nx0+i) o.op with
         |some (x,H')=>some (x,H',nx)
         |none=>yW T call g H1 nx o.op) with
        |none=>none
        |some (x,H',nx')=>bif last.elim true (fun c=>((am[i]?).getD 0).testBit c) then
          pass T call l am nx0 rest (i+1) (rs++[.cv x]) (setO G o.dst x) (S++[(H',nx',fl ||| (am[i]?).getD 0)]) H' nx' (fl ||| (am[i]?).getD 0) (some i)
         else none
   else pass T call l am nx0 rest (i+1) (rs++[.pv (.tu [])]) (setO G o.dst (.tu [])) S H nx fl last
def dZ:Rc→Bool
 |.cv _=>true
 |_=>false
def dw (R:List Rc) (i:Nat):Nat:=((R.take i).filter dZ).length
def rC (R:List Rc) (am:List Nat) (i j:Nat):Bool:=
 (List.range R.length).all fun c=>match R[c]? with
  |some (.cv _)=>(!((am[i]?).getD 0).testBit c||Nat.blt (dw R c) j)&&(!((am[c]?).getD 0).testBit i||Nat.ble j (dw R c))
  |_=>true
noncomputable def fb (T:TT) (l:List Oper) (am:List Nat) (nx0:Nat) (R:List Rc) (G:Tr EV) (S:List rB):Bool:=
 (List.range R.length).all fun i=>match R[i]?,l[i]? with
  |some (.lv x),some o=>(List.range S.length).all fun j=>!rC R am i j||(match S[j]? with
   |some (H,_,fl)=>(match ol (bx nx0 (qA fl ((am[i]?).getD 0)) (R.take i) 0) H with
    |some H1=>(match Ez T (wW (qj l o) G) H1 o.op with
     |some y=>eqE 40 x y
     |none=>false)
    |none=>false)
   |none=>false)
  |_,_=>true
where
 eqE:Nat→EV→EV→Bool
  |0,_,_=>false
  |n+1,x,y=>match x,y with
   |.u,.u=>true
   |.b a,.b c=>a == c
   |.i k a,.i k' c=>decide (k=k')&&decide (a=c)
   |.s a,.s c=>m2 a c
   |.np,.np=>true
   |.p a b,.p c d=>Nat.beq a c&&Nat.beq b d
   |.ns,.ns=>true
   |.sl a b c d e,.sl a' b' c' d' e'=>Nat.beq a a'&&Nat.beq b b'&&Nat.beq c c'&&Nat.beq d d'&&(match e,e' with
    |.ex m,.ex m'=>Nat.beq m m'
    |.en,.en=>true
    |.un,.un=>true
    |_,_=>false)
   |.ag l,.ag m=>eqL n l m
   |.tu l,.tu m=>eqL n l m
   |.fn f a c,.fn f' a' c'=>Nat.beq f f'&&eqL n a a'&&eqL n c c'
   |.nf,.nf=>true
   |.ifc t v,.ifc t' v'=>Nat.beq t t'&&eqE n v v'
   |.ni,.ni=>true
   |.m a,.m b=>Nat.beq a b
   |.nm,.nm=>true
   |.vr a,.vr b=>Nat.beq a b
   |.us a b x,.us c d y=>Nat.beq a c&&Nat.beq b d&&Nat.beq x y
   |_,_=>false
 eqL:Nat→List EV→List EV→Bool
  |0,_,_=>false
  |_+1,[],[]=>true
  |n+1,x::l,y::m=>eqE n x y&&eqL n l m
  |_,_,_=>false
def om (l:List Oper) (am:List Nat):Bool:=
 (List.range l.length).all fun i=>match l[i]? with
  |some o=>o.after.toList.all (fun e=>!Region.binds .any e||Nat.blt e.on i) &&
    (List.range l.length).all fun j=>match (l[j]?).bind (·.dst) with
     |some d=>(!kR d (qj l o)||((am[i]?).getD 0).testBit j)&&(Nat.beq i j||!(match o.dst with
      |some d'=>Nat.beq d d'
      |none=>false))
     |none=>true
  |none=>true
noncomputable def oo (T:TT) (call:bK) (l:List Oper) (G:Tr EV) (H:Hp) (nx:Nat):Option (Tr EV × Hp × Nat):=
 let am:=fV l []
 bif om l am then
  match pass T call l am nx l 0 [] G [(H,nx+l.length,0)] H (nx+l.length) 0 none with
  |some (R,GF,S)=>bif fb T l am nx R GF S then
    match S.getLast? with
    |some (Hm,nm,fl)=>match ol (bx nx (fun a=>!fl.testBit a) R 0) Hm with
     |some H'=>some (GF,H',nm)
     |none=>none
    |none=>none
   else none
  |none=>none
 else none
end
section
open Go.Proofs
def jL (l:List Oper) (X:Nat→Bool):Prop:=∀i o,X i=true→l[i]?=some o→∀e∈o.after,Region.binds .any e=true→X e.on=true
def mA (l:List Oper):Prop:=∀i o,l[i]?=some o→∀e∈o.after,Region.binds .any e=true→e.on<i
def yY (l:List Oper) (X:Nat→Bool) (am:List Nat):Prop:=
 ∀(i m:Nat) (o:Oper),am[i]?=some m→l[i]?=some o→(∀j,m.testBit j=true→j<i)∧((∀e∈o.after,Region.binds .any e=true→X e.on=true)→∀j,m.testBit j=true→X j=true)
theorem mB {am:List Nat} {o:Oper} {j:Nat} (h:(yX am o).testBit j=true):∃e∈o.after,Region.binds .any e=true∧(j=e.on∨∃m,am[e.on]?=some m∧m.testBit j=true):=by
 unfold yX at h
 have key:∀(es:List Edge) (m0:Nat),(es.foldl (fun m e=>bif Region.binds .any e then m ||| (2 ^ e.on ||| (am[e.on]?).getD 0) else m) m0).testBit j=true→m0.testBit j=true∨∃e∈es,Region.binds .any e=true∧(j=e.on∨∃m,am[e.on]?=some m∧m.testBit j=true):=by
  intro es
  induction es with
  |nil=>intro m0 h;exact .inl h
  |cons e es ih=>
   intro m0 h
   rw[List.foldl_cons] at h
   rcases ih _ h with h1|⟨e',h1,h2⟩
   ·cases hb:Region.binds .any e with
    |false=>rw[hb] at h1;exact .inl h1
    |true=>
     rw[hb] at h1
     simp only[cond_true,Nat.testBit_or,Bool.or_eq_true] at h1
     rcases h1 with h1|h1|h1
     ·exact .inl h1
     ·refine .inr ⟨e,.head _,hb,.inl ?_⟩
      rw[Nat.testBit_two_pow] at h1
      exact (of_decide_eq_true h1).symm
     ·refine .inr ⟨e,.head _,hb,.inr ?_⟩
      cases hm:am[e.on]? with
      |none=>rw[hm] at h1;simp at h1
      |some m=>rw[hm] at h1;exact ⟨m,rfl,h1⟩
   ·exact .inr ⟨e',.tail _ h1,h2⟩
 rcases key o.after.toList 0 h with h1|⟨e,h1,h2⟩
 ·simp at h1
 ·exact ⟨e,by simpa using h1,h2⟩
theorem sO {l:List Oper} {X:Nat→Bool} (hX:jL l X) (hE:mA l):∀(r:List Oper) (am:List Nat),l.drop am.length=r→yY l X am→yY l X (fV r am)
 |[],am,_,h=>h
 |o::r,am,hd,h=>by
  unfold fV
  have ho:l[am.length]?=some o:=by
   have:=congrArg (·[0]?) hd
   simpa using this
  refine sO hX hE r _ (by rw[q8,List.length_singleton];have:=congrArg (List.drop 1) hd;simpa [List.drop_drop] using this) fun i m o' hm ho'=>?_
  by_cases hi:i<am.length
  ·rw[List.getElem?_append_left hi] at hm
   exact h i m o' hm ho'
  ·have hlt:=(List.getElem?_eq_some_iff.1 hm).1
   rw[q8,List.length_singleton] at hlt
   have hie:i=am.length:=by omega
   subst hie
   rw[ho] at ho';cases ho'
   rw[List.getElem?_append_right (Nat.le_refl _),Nat.sub_self] at hm
   simp only[List.getElem?_cons_zero,Option.some.injEq] at hm
   subst hm
   constructor
   ·intro j hj
    obtain ⟨e,h1,h2,h3⟩:=mB hj
    have hlt:=hE _ o ho e h1 h2
    rcases h3 with rfl|⟨m,hm,hmj⟩
    ·exact hlt
    ·have hle:e.on<l.length:=Nat.lt_trans hlt (List.getElem?_eq_some_iff.1 ho).1
     have:=(h e.on m _ hm (q2 hle)).1 j hmj
     omega
   ·intro hall j hj
    obtain ⟨e,h1,h2,h3⟩:=mB hj
    have hlt:=hE _ o ho e h1 h2
    have hXe:=hall e h1 h2
    rcases h3 with rfl|⟨m,hm,hmj⟩
    ·exact hXe
    ·have hle:e.on<l.length:=Nat.lt_trans hlt (List.getElem?_eq_some_iff.1 ho).1
     exact (h e.on m _ hm (q2 hle)).2 (fun e' h1' h2'=>hX e.on _ hXe (q2 hle) e' h1' h2') j hmj
theorem yZ {l:List Oper} {X:Nat→Bool} (hX:jL l X) (hE:mA l):yY l X (fV l []):=sO hX hE l [] rfl fun i m o h=>by simp at h
section
variable {nx0:Nat}
theorem dE {p q:Nat→Bool}:∀(R:List Rc) (a:Nat),(∀j,q j=true→p j=true)→(bx nx0 p R a).Perm (bx nx0 q R a++bx nx0 (fun j=>p j&&!q j) R a)
 |[],_,_=>.refl _
 |.av x o::R,a,h=>by
  have ih:=dE R (a+1) h
  unfold bx
  cases hp:p a with
  |false=>
   have hq:q a=false:=by cases hq:q a with
    |false=>rfl
    |true=>rw[h a hq] at hp;cases hp
   simp only[hq,cond_false,Bool.false_and];exact ih
  |true=>
   cases hq:q a with
   |true=>simp only[cond_true,Bool.not_true,Bool.and_false,cond_false,List.cons_append];exact ih.cons _
   |false=>simp only[cond_true,cond_false,Bool.not_false,Bool.and_true];exact (ih.cons _).trans List.perm_middle.symm
 |.pv _::R,a,h=>dE R (a+1) h
 |.lv _::R,a,h=>dE R (a+1) h
 |.cv _::R,a,h=>dE R (a+1) h
theorem dF {p q:Nat→Bool}:∀(R:List Rc) (a:Nat),(∀j x o,R[j]?=some (.av x o)→p (a+j)=q (a+j))→bx nx0 p R a=bx nx0 q R a
 |[],_,_=>rfl
 |r::R,a,h=>by
  have ih:=dF R (a+1) fun j x o hj=>(by omega:a+(j+1)=a+1+j)▸h (j+1) x o (by simpa using hj)
  cases r with
  |av x o=>
   unfold bx
   have:=h 0 x o rfl
   rw[Nat.add_zero] at this
   rw[this,ih]
  |pv x=>exact ih
  |lv x=>exact ih
  |cv x=>exact ih
theorem kj (p:Nat→Bool):∀(R S:List Rc) (a:Nat),bx nx0 p (R++S) a=bx nx0 p R a++bx nx0 p S (a+R.length)
 |[],S,a=>rfl
 |r::R,S,a=>by
  have ih:=kj p R S (a+1)
  rw[show a+1+R.length=a+(r::R).length by rw[List.length_cons];omega] at ih
  rw[List.cons_append]
  cases r with
  |av x o=>
   show (bif p a then (nx0+a,o)::bx nx0 p (R++S) (a+1) else bx nx0 p (R++S) (a+1))=(bif p a then (nx0+a,o)::bx nx0 p R (a+1) else bx nx0 p R (a+1))++bx nx0 p S (a+(Rc.av x o::R).length)
   rw[ih]
   cases p a<;>rfl
  |pv x=>exact ih
  |lv x=>exact ih
  |cv x=>exact ih
theorem fc {p:Nat→Bool}:∀(R:List Rc) (a:Nat),(∀j,a≤j→p j=false)→bx nx0 p R a=[]
 |[],_,_=>rfl
 |r::R,a,h=>by
  have ih:=fc R (a+1) fun j hj=>h j (by omega)
  cases r with
  |av x o=>unfold bx;rw[h a (Nat.le_refl _)];exact ih
  |pv x=>exact ih
  |lv x=>exact ih
  |cv x=>exact ih
end
section
variable {φ:bY} {I:aI} {H H':Hp} {nx k:Nat} {F A:List (Nat × Obj)} {E w:World} {o:VO}
theorem cJ.take (h:cJ I φ H nx (A++F) E w) (hb:eX I φ k o A) (hk:H.get k=none):cJ I φ (H.set k (some o)) nx F E w:=by
 obtain ⟨M,L,hn,hm,hr,hS⟩:=h.ex
 refine yz (A:=A) (L:=L) ⟨M,hn,fun j o'=>?_,hr⟩ hb (hS.perm ?_) h.top
 ·rw[hm j o']
  exact ⟨fun hj=>⟨fun e=>(by subst e;rw[hk] at hj;cases hj),hj⟩,fun hj=>hj.2⟩
 ·rw[←q4,←q4]
  exact List.perm_append_comm.append_right F
theorem cJ.takeAll:∀{M:List (Nat × VO)} {L:List (Nat × Obj)} {H H':Hp},eY I φ M L→ol M H=some H'→cJ I φ H nx (L++F) E w→cJ I φ H' nx F E w
 |[],L,H,H',h1,h2,h3=>by
  have h1:L=[]:=h1
  subst h1;cases h2;exact h3
 |(k,o)::M,L,H,H',⟨A,B,e,h1,h1'⟩,h2,h3=>by
  subst e
  unfold ol at h2
  split at h2
  ·rename_i hk
   rw[q4] at h3
   exact cJ.takeAll h1' h2 (h3.take h1 hk)
  ·cases h2
theorem eY.app:∀{M N:List (Nat × VO)} {L:List (Nat × Obj)},eY I φ (M++N) L→∃A B,L=A++B∧eY I φ M A∧eY I φ N B
 |[],N,L,h=>⟨[],L,rfl,rfl,h⟩
 |x::M,N,L,⟨A,B,e,h1,h2⟩=>by
  obtain ⟨C,D,e2,h3,h4⟩:=eY.app h2
  exact ⟨A++C,D,by rw[e,e2,q4],⟨A,C,rfl,h1,h3⟩,h4⟩
theorem cJ.permF {F':List (Nat × Obj)} (h:cJ I φ H nx F E w) (hp:F'.Perm F):cJ I φ H nx F' E w:=by
 obtain ⟨M,L,hn,hm,hr,hS⟩:=h.ex
 exact ⟨h.top,M,L,hn,hm,hr,hS.perm (hp.append_left L)⟩
end
theorem wY {lk:List Nat} {G G':Tr EV} (h:∀t∈lk,gt G t=gt G' t):wW lk G=wW lk G':=by
 funext t
 unfold wW
 cases hm:kR t lk with
 |false=>rfl
 |true=>exact h t (fa.1 hm)
noncomputable def zA (T:TT) (call:bK) (g:Nat→EV) (H:Hp) (k nx:Nat) (op:Op):Option (EV × Hp × Nat):=
 match EM T g H k op with
 |some (x,H')=>some (x,H',nx)
 |none=>yW T call g H nx op
def CP (T:TT) (call:bK) (l:List Oper) (am:List Nat) (nx0:Nat) (R:List Rc) (GF:Tr EV) (S:List rB) (i:Nat) (o:Oper) (r:Rc):Prop:=
 ∃t,pV l (wW (qj l o) GF) o=some t∧(t=false→r=.pv (.tu []))∧(t=true→match r with
  |.pv x=>Es T (wW (qj l o) GF) o.op=some x
  |.av x vo=>DS T (wW (qj l o) GF) (nx0+i) o.op=some (x,vo)
  |.lv _=>True
  |.cv x=>∃H nx fl H1 H' nx',S[dw R i]?=some (H,nx,fl)∧S[dw R i+1]?=some (H',nx',fl ||| (am[i]?).getD 0)∧ol (bx nx0 (qA fl ((am[i]?).getD 0)) (R.take i) 0) H=some H1 ∧
    zA T call (wW (qj l o) GF) H1 (nx0+i) nx o.op=some (x,H',nx')∧(dw R i=0∨∃c y,R[c]?=some (.cv y)∧dw R c+1=dw R i∧((am[i]?).getD 0).testBit c=true))
def mC (T:TT) (call:bK) (l:List Oper) (am:List Nat) (nx0:Nat) (i:Nat) (rs:List Rc) (G:Tr EV) (S:List rB) (R:List Rc) (GF:Tr EV) (SF:List rB):Prop:=
 (∃rr,R=rs++rr∧rr.length+i=l.length)∧(∃ss,SF=S++ss)∧SF.length=(R.filter dZ).length+1∧(∀t,(∀j o,i≤j→l[j]?=some o→o.dst≠some t)→gt GF t=gt G t) ∧
  ∀j o,i≤j→l[j]?=some o→∃r,R[j]?=some r∧CP T call l am nx0 R GF SF j o r∧∀d,o.dst=some d→gt GF d=r.x
theorem oq (G:Tr EV) (d:Option Nat) (x:EV) (t:Nat):gt (setO G d x) t=if d=some t then x else gt G t:=by
 cases d with
 |none=>rw[if_neg (by simp)];rfl
 |some d=>
  unfold gt setO
  rw[Tr.get_set]
  by_cases e:t=d
  ·rw[if_pos e,if_pos (by rw[e])];rfl
  ·rw[if_neg e,if_neg (fun h=>e (Option.some.inj h).symm)]
theorem fE {T:TT} {call:bK} {l:List Oper} {am:List Nat} {nx0:Nat} (hD:∀(i j:Nat) (o o':Oper) d,l[i]?=some o→l[j]?=some o'→o.dst=some d→o'.dst=some d→i=j) (hW:∀(i:Nat) (o:Oper) t,l[i]?=some o→t∈qj l o→∀(j:Nat) (o':Oper),l[j]?=some o'→o'.dst=some t→j<i)
  {i:Nat} {o:Oper} {rs:List Rc} {G:Tr EV} {S S':List rB} {R:List Rc} {GF:Tr EV} {SF:List rB} {r:Rc} (ho:l[i]?=some o) (hrs:rs.length=i) (hS:∃ss,S'=S++ss) (h:mC T call l am nx0 (i+1) (rs++[r]) (setO G o.dst r.x) S' R GF SF)
  (hf:(∃rr,R=rs++(r::rr))→(∃ss,SF=S'++ss)→wW (qj l o) GF=wW (qj l o) G→CP T call l am nx0 R GF SF i o r):mC T call l am nx0 i rs G S R GF SF:=by
 obtain ⟨⟨rr,h1,h1'⟩,⟨ss,h2⟩,h3,h4,h5⟩:=h
 obtain ⟨s0,hs0⟩:=hS
 have hR:R=rs++(r::rr):=by rw[h1];simp
 have hget:R[i]?=some r:=by rw[hR,List.getElem?_append_right (by omega),hrs,Nat.sub_self];rfl
 refine ⟨⟨r::rr,hR,by rw[List.length_cons];omega⟩,⟨s0++ss,by rw[h2,hs0,q4]⟩,h3,fun t ht=>?_,fun j o' hj ho'=>?_⟩
 ·rw[h4 t fun j o' hj ho'=>ht j o' (by omega) ho',oq,if_neg (ht i o (Nat.le_refl _) ho)]
 ·by_cases e:j=i
  ·subst e
   rw[ho] at ho';cases ho'
   refine ⟨r,hget,hf ⟨rr,hR⟩ ⟨ss,h2⟩ (wY fun t ht=>?_),fun d hd=>?_⟩
   ·rw[h4 t fun j' o' hj' ho2 e2=>by have:=hW j o t ho ht j' o' ho2 e2;omega,oq,if_neg fun e2=>by have:=hW j o t ho ht j o ho e2;omega]
   ·rw[h4 d fun j' o' hj' ho2 e2=>by have:=hD j j' o o' d ho ho2 hd e2;omega,oq,if_pos hd]
  ·exact h5 j o' (by omega) ho'
theorem pX {rs rr:List Rc} {c:Nat} (h:c≤rs.length):dw (rs++rr) c=dw rs c:=by
 unfold dw;rw[List.take_append_of_le_length h]
theorem pY (rs rr:List Rc):dw (rs++rr) rs.length=(rs.filter dZ).length:=by
 unfold dw;rw[List.take_left]
theorem mD {T:TT} {call:bK} {l:List Oper} {am:List Nat} {nx0:Nat} (hD:∀(i j:Nat) (o o':Oper) d,l[i]?=some o→l[j]?=some o'→o.dst=some d→o'.dst=some d→i=j) (hW:∀(i:Nat) (o:Oper) t,l[i]?=some o→t∈qj l o→∀(j:Nat) (o':Oper),l[j]?=some o'→o'.dst=some t→j<i) :
  ∀(rest:List Oper) (i:Nat) (rs:List Rc) (G:Tr EV) (S:List rB) (H:Hp) (nx fl:Nat) (last:Option Nat) (R:List Rc) (GF:Tr EV) (SF:List rB),l.drop i=rest→i≤l.length→rs.length=i→S.length=(rs.filter dZ).length+1→S[(rs.filter dZ).length]?=some (H,nx,fl) →
   (∀c,last=some c→(∃y,rs[c]?=some (.cv y))∧dw rs c+1=(rs.filter dZ).length)→(last=none→(rs.filter dZ).length=0)→pass T call l am nx0 rest i rs G S H nx fl last=some (R,GF,SF)→mC T call l am nx0 i rs G S R GF SF
 |[],i,rs,G,S,H,nx,fl,last,R,GF,SF,hd,hi,hrs,hS,hSl,hl1,hl2,h=>by
  cases h
  have:i=l.length:=by
   have:=congrArg List.length hd
   simp at this;omega
  refine ⟨⟨[],by simp,by simpa using this⟩,⟨[],by simp⟩,hS,fun _ _=>Z,fun j o hj ho=>?_⟩
  have:=(List.getElem?_eq_some_iff.1 ho).1
  omega
 |o::rest,i,rs,G,S,H,nx,fl,last,R,GF,SF,hd,hi,hrs,hS,hSl,hl1,hl2,h=>by
  have ho:l[i]?=some o:=by
   have:=congrArg (·[0]?) hd
   simpa using this
  have hlt:i<l.length:=(List.getElem?_eq_some_iff.1 ho).1
  have hd2:l.drop (i+1)=rest:=by have:=congrArg (List.drop 1) hd;simpa [List.drop_drop] using this
  have hcv:∀r:Rc,dZ r=false→((rs++[r]).filter dZ).length=(rs.filter dZ).length:=fun r hr=>by
   rw[List.filter_append];simp[hr]
  have hlast:∀r:Rc,dZ r=false→∀c,last=some c→(∃y,(rs++[r])[c]?=some (.cv y))∧dw (rs++[r]) c+1=((rs++[r]).filter dZ).length:=fun r hr c hc=>by
   obtain ⟨⟨y,hy⟩,h2⟩:=hl1 c hc
   have hcl:=(List.getElem?_eq_some_iff.1 hy).1
   exact ⟨⟨y,by rw[List.getElem?_append_left hcl];exact hy⟩,by rw[pX (Nat.le_of_lt hcl),hcv r hr];exact h2⟩
  have go:∀(r:Rc),dZ r=false→pass T call l am nx0 rest (i+1) (rs++[r]) (setO G o.dst r.x) S H nx fl last=some (R,GF,SF)→mC T call l am nx0 (i+1) (rs++[r]) (setO G o.dst r.x) S R GF SF:=fun r hr hp=>
   mD hD hW rest (i+1) (rs++[r]) _ S H nx fl last R GF SF hd2 hlt (by simp[hrs]) (by rw[hcv r hr];exact hS) (by rw[hcv r hr];exact hSl) (hlast r hr) (fun e=>by rw[hcv r hr];exact hl2 e) hp
  unfold pass at h
  dsimp only at h
  split at h
  ·cases h
  ·rename_i t ht
   cases t with
   |false=>
    simp only[cond_false] at h
    exact fE hD hW ho hrs ⟨[],by simp⟩ (go (.pv (.tu [])) rfl h) fun _ _ hg=>⟨false,by rw[hg];exact ht,fun _=>rfl,fun e=>by cases e⟩
   |true=>
    simp only[cond_true] at h
    split at h
    ·rename_i x hx
     exact fE hD hW ho hrs ⟨[],by simp⟩ (go (.pv x) rfl h) fun _ _ hg=>⟨true,by rw[hg];exact ht,fun e=>(by cases e),fun _=>by rw[hg];exact hx⟩
    ·split at h
     ·rename_i x vo hx
      exact fE hD hW ho hrs ⟨[],by simp⟩ (go (.av x vo) rfl h) fun _ _ hg=>⟨true,by rw[hg];exact ht,fun e=>(by cases e),fun _=>by rw[hg];exact hx⟩
     ·split at h
      ·cases h
      ·rename_i H1 hH1
       split at h
       ·rename_i x hx
        exact fE hD hW ho hrs ⟨[],by simp⟩ (go (.lv x) rfl h) fun _ _ hg=>⟨true,by rw[hg];exact ht,fun e=>(by cases e),fun _=>trivial⟩
       ·split at h
        ·cases h
        ·rename_i x H' nx' hx
         cases hb:last.elim true (fun c=>((am[i]?).getD 0).testBit c) with
         |false=>rw[hb] at h;cases h
         |true=>
          rw[hb] at h
          simp only[cond_true] at h
          have hcv1:((rs++[Rc.cv x]).filter dZ).length=(rs.filter dZ).length+1:=by rw[List.filter_append,q8];rfl
          have hrec:=mD hD hW rest (i+1) (rs++[.cv x]) (setO G o.dst x) (S++[(H',nx',fl ||| (am[i]?).getD 0)]) H' nx' (fl ||| (am[i]?).getD 0) (some i) R GF SF hd2 hlt (by simp[hrs]) (by rw[hcv1,q8,hS];rfl) (by rw[hcv1,List.getElem?_append_right (by omega),hS,Nat.sub_self];rfl)
           (fun c hc=>by
            cases hc
            exact ⟨⟨x,by rw[List.getElem?_append_right (by omega),hrs,Nat.sub_self];rfl⟩,by rw[hcv1,←hrs,pY]⟩) (fun e=>by cases e) h
          refine fE hD hW ho hrs ⟨_,rfl⟩ hrec fun ⟨rr,hR⟩ ⟨ss,hSF⟩ hg=>⟨true,by rw[hg];exact ht,fun e=>(by cases e),fun _=>?_⟩
          have hcp:dw R i=(rs.filter dZ).length:=by rw[hR,←hrs,pY]
          refine ⟨H,nx,fl,H1,H',nx',?_,?_,?_,by rw[hg];exact hx,?_⟩
          ·rw[hcp,hSF,q4,List.getElem?_append_left (by omega)];exact hSl
          ·rw[hcp,hSF,List.getElem?_append_left (by rw[q8,hS];simp),List.getElem?_append_right (by omega),hS,Nat.sub_self];rfl
          ·rw[hR,←hrs,List.take_left,hrs];exact hH1
          ·cases last with
           |none=>left;rw[hcp];exact hl2 rfl
           |some c=>
            right
            obtain ⟨⟨y,hy⟩,h2⟩:=hl1 c rfl
            have hcl:=(List.getElem?_eq_some_iff.1 hy).1
            exact ⟨c,y,by rw[hR,List.getElem?_append_left hcl];exact hy,by rw[hcp,hR,pX (Nat.le_of_lt hcl)];exact h2,hb⟩
def ez (listed:Array Bool) (i:Nat):Bool:=listed.getD i false
theorem ln {listed:Array Bool} {i j:Nat} (h:i<listed.size):ez (listed.setIfInBounds i true) j=(ez listed j||Nat.beq j i):=by
 unfold ez
 by_cases e:i=j
 ·subst e
  rw[show Nat.beq i i=true from Nat.beq_refl i,Bool.or_true]
  simp[h]
 ·rw[getD_set_ne false e]
  have:Nat.beq j i=false:=by cases hb:Nat.beq j i with
   |false=>rfl
   |true=>exact absurd (Nat.eq_of_beq_eq_true hb).symm e
  rw[this,Bool.or_false]
theorem kl {l:List Oper} {am:List Nat} (h:om l am=true):mA l∧(∀(i:Nat) (o:Oper) t,l[i]?=some o→t∈qj l o→∀(j:Nat) (o':Oper),l[j]?=some o'→o'.dst=some t→((am[i]?).getD 0).testBit j=true) ∧
  ∀(i j:Nat) (o o':Oper) d,l[i]?=some o→l[j]?=some o'→o.dst=some d→o'.dst=some d→i=j:=by
 have key:∀i o,l[i]?=some o→(o.after.toList.all (fun e=>!Region.binds .any e||Nat.blt e.on i) &&
    (List.range l.length).all fun j=>match (l[j]?).bind (·.dst) with
     |some d=>(!kR d (qj l o)||((am[i]?).getD 0).testBit j)&&(Nat.beq i j||!(match o.dst with
      |some d'=>Nat.beq d d'
      |none=>false))
     |none=>true)=true:=fun i o ho=>by
  unfold om at h
  have:=List.all_eq_true.1 h i (List.mem_range.2 (List.getElem?_eq_some_iff.1 ho).1)
  rw[ho] at this
  exact this
 have key2:∀(i j:Nat) (o o':Oper) d,l[i]?=some o→l[j]?=some o'→o'.dst=some d→(kR d (qj l o)=true→((am[i]?).getD 0).testBit j=true)∧(o.dst=some d→i=j):=fun i j o o' d ho ho' hd=>by
  have h1:=key i o ho
  simp only[qg] at h1
  have h2:=List.all_eq_true.1 h1.2 j (List.mem_range.2 (List.getElem?_eq_some_iff.1 ho').1)
  rw[ho'] at h2
  simp only[Option.bind_some,hd,qg,Bool.or_eq_true,Bool.not_eq_true'] at h2
  refine ⟨fun hm=>h2.1.resolve_left (by rw[hm];decide),fun hod=>?_⟩
  rcases h2.2 with h3|h3
  ·exact Nat.eq_of_beq_eq_true h3
  ·rw[hod] at h3
   simp only at h3
   rw[show Nat.beq d d=true from Nat.beq_refl d] at h3;cases h3
 refine ⟨fun i o ho e he hb=>?_,fun i o t ho ht j o' ho' hd=>(key2 i j o o' t ho ho' hd).1 (fa.2 ht),fun i j o o' d ho ho' hd hd'=>(key2 i j o o' d ho ho' hd').2 hd⟩
 have h1:=key i o ho
 simp only[qg] at h1
 have h2:=List.all_eq_true.1 h1.1 e (by simpa using he)
 rw[hb] at h2
 have h2:Nat.blt e.on i=true:=by simpa using h2
 exact Nat.le_of_ble_eq_true h2
structure cN (φ0:bY) (I0:aI) (F:List (Nat × Obj)) (E:World) (nx0:Nat) (l:List Oper) (R:List Rc) (GF:Tr EV) (S:List rB) (X:Nat→Bool) (j:Nat) (φ:bY) (I:aI) (H:Hp) (nx fl:Nat) (ρ:bD) (w:World):Prop where
 closed:jL l X
 stage:S[j]?=some (H,nx,fl)
 chain:∀i y,R[i]?=some (.cv y)→(X i=true↔dw R i<j)
 flX:∀a,fl.testBit a=true→X a=true
 slots:∀t,(∀(i:Nat) (o:Oper),l[i]?=some o→o.dst=some t→X i=true)→aQ φ (gt GF t) (ρ t)
 free:∀i,i<l.length→X i=false→φ (nx0+i)=none
 le:φ0.le φ
 leI:I0.le I
 keep:∀t,t<nx0→φ t=φ0 t
 top:nx0+l.length≤nx
 mem:∃Lx,eY I φ (bx nx0 (fun a=>X a&&!fl.testBit a) R 0) Lx∧cJ I φ H nx (Lx++F) E w
section
variable {φ0 φ:bY} {I0 I:aI} {F:List (Nat × Obj)} {E w:World} {nx0:Nat} {l:List Oper} {R:List Rc} {GF:Tr EV} {S:List rB} {X:Nat→Bool} {j:Nat} {H:Hp} {nx fl:Nat} {ρ:bD}
theorem cN.closed' (h:cN φ0 I0 F E nx0 l R GF S X j φ I H nx fl ρ w) {i:Nat} {o:Oper} (ho:l[i]?=some o) (hr:∀e∈o.after,Region.binds .any e=true→X e.on=true):jL l (fun a=>X a||Nat.beq a i):=fun a o' ha ho' e he hb=>by
 simp only[Bool.or_eq_true] at ha ⊢
 rcases ha with ha|ha
 ·exact .inl (h.closed a o' ha ho' e he hb)
 ·have:=Nat.eq_of_beq_eq_true ha
  subst this
  rw[ho] at ho';cases ho'
  exact .inl (hr e he hb)
theorem cN.slots' (h:cN φ0 I0 F E nx0 l R GF S X j φ I H nx fl ρ w) {i:Nat} {o:Oper} (ho:l[i]?=some o) {x:EV} {v:Value} {ψ:bY} (hle:φ.le ψ) (hx:aQ ψ x v) (hd:∀d,o.dst=some d→gt GF d=x) :
  ∀t,(∀(i':Nat) (o':Oper),l[i']?=some o'→o'.dst=some t→(X i'||Nat.beq i' i)=true)→aQ ψ (gt GF t) (updO ρ o.dst v t):=fun t ht=>by
 by_cases e:o.dst=some t
 ·rw[hd t e,e]
  show aQ ψ x (upd ρ t v t)
  rw[eE];exact hx
 ·have:updO ρ o.dst v t=ρ t:=by
   cases hdd:o.dst with
   |none=>rfl
   |some d=>exact cT _ _ fun e2=>e (by rw[hdd,e2])
  rw[this]
  refine (h.slots t fun i' o' ho' hd'=>?_).mono hle
  have:=ht i' o' ho' hd'
  simp only[Bool.or_eq_true] at this
  rcases this with h1|h1
  ·exact h1
  ·have:=Nat.eq_of_beq_eq_true h1
   subst this
   rw[ho] at ho';cases ho'
   exact absurd hd' e
theorem cN.quiet (h:cN φ0 I0 F E nx0 l R GF S X j φ I H nx fl ρ w) {i:Nat} {o:Oper} (ho:l[i]?=some o) (hr:∀e∈o.after,Region.binds .any e=true→X e.on=true) {r:Rc} (hR:R[i]?=some r) (hcv:dZ r=false) (hav:∀x vo,r≠.av x vo) {v:Value} (hx:aQ φ r.x v) (hd:∀d,o.dst=some d→gt GF d=r.x) :
  cN φ0 I0 F E nx0 l R GF S (fun a=>X a||Nat.beq a i) j φ I H nx fl (updO ρ o.dst v) w:=by
 refine ⟨h.closed' ho hr,h.stage,fun i' y hy=>?_,fun a ha=>by rw[h.flX a ha];rfl,h.slots' ho (.refl _) hx hd,fun i' hi' hx'=>h.free i' hi' ?_,h.le,h.leI,h.keep,h.top,?_⟩
 ·rw[←h.chain i' y hy]
  have:Nat.beq i' i=false:=by cases hb:Nat.beq i' i with
   |false=>rfl
   |true=>
    have:=Nat.eq_of_beq_eq_true hb
    subst this
    rw[hR] at hy;cases hy;cases hcv
  rw[this,Bool.or_false]
 ·cases hX:X i' with
  |false=>rfl
  |true=>rw[hX] at hx';cases hx'
 ·obtain ⟨Lx,h1,h2⟩:=h.mem
  refine ⟨Lx,?_,h2⟩
  rw[dF (q:=fun a=>X a&&!fl.testBit a) R 0 fun a x vo ha=>?_]
  ·exact h1
  ·rw[Nat.zero_add]
   have:Nat.beq a i=false:=by cases hb:Nat.beq a i with
    |false=>rfl
    |true=>
     have:=Nat.eq_of_beq_eq_true hb
     subst this
     rw[hR] at ha;cases ha;exact absurd rfl (hav x vo)
   simp only[this,Bool.or_false]
end
theorem wZ {nx0 i:Nat} {R:List Rc} {x:EV} {vo:VO} (h:R[i]?=some (.av x vo)):bx nx0 (fun a=>Nat.beq a i) R 0=[(nx0+i,vo)]:=by
 obtain ⟨hlt,he⟩:=List.getElem?_eq_some_iff.1 h
 have hR:R=R.take i++(.av x vo::R.drop (i+1)):=by
  rw[←he,←List.drop_eq_getElem_cons hlt,List.take_append_drop]
 have hb:∀a,a≠i→Nat.beq a i=false:=fun a ha=>by
  cases hb:Nat.beq a i with
  |false=>rfl
  |true=>exact absurd (Nat.eq_of_beq_eq_true hb) ha
 have hl:(R.take i).length=i:=by rw[qc];omega
 rw[hR,kj,hl,Nat.zero_add]
 have h1:bx nx0 (fun a=>Nat.beq a i) (R.take i) 0=[]:=by
  rw[dF (q:=fun _=>false) (R.take i) 0 fun j y o hj=>?_]
  ·exact fc _ _ fun _ _=>rfl
  ·have:=(List.getElem?_eq_some_iff.1 hj).1
   rw[hl] at this
   exact hb _ (by omega)
 have h2:bx nx0 (fun a=>Nat.beq a i) (R.drop (i+1)) (i+1)=[]:=fc _ _ fun a ha=>hb a (by omega)
 rw[h1,List.nil_append]
 show (bif Nat.beq i i then (nx0+i,vo)::bx nx0 (fun a=>Nat.beq a i) (R.drop (i+1)) (i+1) else bx nx0 (fun a=>Nat.beq a i) (R.drop (i+1)) (i+1))=_
 rw[show Nat.beq i i=true from Nat.beq_refl i,h2];rfl
section
variable {P:Program} {T:TT} {φ0 φ:bY} {I0 I:aI} {F:List (Nat × Obj)} {E w:World} {nx0:Nat} {l:List Oper} {R:List Rc} {GF:Tr EV} {S:List rB} {X:Nat→Bool} {j:Nat} {H:Hp} {nx fl:Nat} {ρ:bD}
theorem cN.make (hT:cu P T) (h:cN φ0 I0 F E nx0 l R GF S X j φ I H nx fl ρ w) {i:Nat} {o:Oper} (ho:l[i]?=some o) (hXi:X i=false) (hr:∀e∈o.after,Region.binds .any e=true→X e.on=true) {x:EV} {vo:VO} (hR:R[i]?=some (.av x vo)) {g:Nat→EV} (hg:dI φ g ρ) (hx:DS T g (nx0+i) o.op=some (x,vo)) (hd:∀d,o.dst=some d→gt GF d=x) :
  dz P o ρ w fun v w'=>∃φ',cN φ0 I0 F E nx0 l R GF S (fun a=>X a||Nat.beq a i) j φ' I H nx fl (updO ρ o.dst v) w':=by
 have hil:i<l.length:=(List.getElem?_eq_some_iff.1 ho).1
 have hk:=h.free i hil hXi
 have hkx:nx0+i<nx:=by have:=h.top;omega
 obtain ⟨Lx,hm,hRel⟩:=h.mem
 obtain ⟨M,L,hn,hM,hrep,hS⟩:=hRel.ex
 obtain ⟨v,w',q,A,h1,h2,h3,h4⟩:=yP (P:=P) hT hg hx hk hS
 have hle:=q0 hk q
 refine dz.val h1 ⟨φ.put (nx0+i) q,h.closed' ho hr,h.stage,fun i' y hy=>?_,fun a ha=>by rw[h.flX a ha];rfl,h.slots' ho hle h2 hd,fun i' hi' hx'=>?_,h.le.trans hle,h.leI,fun t ht=>by rw[iK φ q (by omega)];exact h.keep t ht,h.top,?_⟩
 ·rw[←h.chain i' y hy]
  have:Nat.beq i' i=false:=by cases hb:Nat.beq i' i with
   |false=>rfl
   |true=>
    have:=Nat.eq_of_beq_eq_true hb
    subst this
    rw[hR] at hy;cases hy
  rw[this,Bool.or_false]
 ·simp only[Bool.or_eq_false_iff] at hx'
  have:i'≠i:=fun e=>by rw[e,show Nat.beq i i=true from Nat.beq_refl i] at hx';cases hx'.2
  rw[iK φ q (by omega)];exact h.free i' hi' hx'.1
 ·have hfi:fl.testBit i=false:=by cases hb:fl.testBit i with
   |false=>rfl
   |true=>rw[h.flX i hb] at hXi;cases hXi
  have hp:(bx nx0 (fun a=>(X a||Nat.beq a i)&&!fl.testBit a) R 0).Perm ((nx0+i,vo)::bx nx0 (fun a=>X a&&!fl.testBit a) R 0):=by
   have hs:=dE (nx0:=nx0) (p:=fun a=>(X a||Nat.beq a i)&&!fl.testBit a) (q:=fun a=>Nat.beq a i) R 0 fun a ha=>by
    have:=Nat.eq_of_beq_eq_true ha
    subst this
    simp[hfi]
   have e3:bx nx0 (fun a=>(X a||Nat.beq a i)&&!fl.testBit a&&!Nat.beq a i) R 0=bx nx0 (fun a=>X a&&!fl.testBit a) R 0:=dF R 0 fun a y o' ha=>by
    rw[Nat.zero_add]
    cases hb:Nat.beq a i with
    |false=>simp
    |true=>
     have:=Nat.eq_of_beq_eq_true hb
     subst this
     simp[hXi]
   rw[wZ hR,e3] at hs
   exact hs
  obtain ⟨L',h5,h6⟩:=eY.perm hp.symm (L:=A++Lx) ⟨A,Lx,rfl,h3,hm.mono (.refl _) hle⟩
  refine ⟨L',h5,jJ hRel.top hkx q,M,L,hn,hM,hrep.mono (.refl _) hle,h4.perm ?_⟩
  refine ((h6.symm.append_right F).append_left L).trans ?_
  rw[q4,←q4,←q4 A]
  exact List.perm_append_comm.append_right _
end
theorem sP {R:List Rc} {i i':Nat} {y:EV} (h:i<i') (hi:R[i]?=some (.cv y)):dw R i<dw R i':=by
 have hlt:=(List.getElem?_eq_some_iff.1 hi).1
 have h1:dw R (i+1)=dw R i+1:=by
  unfold dw
  obtain ⟨_,he⟩:=List.getElem?_eq_some_iff.1 hi
  rw[q3 hlt,he,List.filter_append,q8];rfl
 have h2:dw R (i+1)≤dw R i':=by
  unfold dw
  exact ((List.take_sublist_take_left (l:=R) (show i+1≤i' from h)).filter dZ).length_le
 omega
section
variable {P:Program} {T:TT} {call:bK} {φ0 φ:bY} {I0 I:aI} {F:List (Nat × Obj)} {E w:World} {nx0:Nat} {l:List Oper} {R:List Rc} {GF:Tr EV} {S:List rB} {X:Nat→Bool} {j:Nat} {H:Hp} {nx fl:Nat} {ρ:bD}
theorem cN.heap (h:cN φ0 I0 F E nx0 l R GF S X j φ I H nx fl ρ w) {i m:Nat} (hi:i≤R.length) (hb:∀a,m.testBit a=true→a<i∧X a=true) {H1:Hp} (ha:ol (bx nx0 (qA fl m) (R.take i) 0) H=some H1) :
  ∃B,eY I φ (bx nx0 (fun a=>(X a&&!fl.testBit a)&&!qA fl m a) R 0) B∧cJ I φ H1 nx (B++F) E w:=by
 obtain ⟨Lx,hm,hR⟩:=h.mem
 have hq:∀a,qA fl m a=true→(fun a=>X a&&!fl.testBit a) a=true:=fun a hq=>by
  unfold qA at hq
  simp only[qg] at hq ⊢
  exact ⟨(hb a hq.1).2,hq.2⟩
 have hs:=dE (nx0:=nx0) R 0 hq
 have hpre:bx nx0 (qA fl m) R 0=bx nx0 (qA fl m) (R.take i) 0:=by
  have e:bx nx0 (qA fl m) (R.take i++R.drop i) 0=bx nx0 (qA fl m) (R.take i) 0++bx nx0 (qA fl m) (R.drop i) (0+(R.take i).length):=kj _ _ _ _
  rw[List.take_append_drop] at e
  rw[e,fc (R.drop i) _ fun a ha=>?_,List.append_nil]
  rw[qc] at ha
  unfold qA
  cases hbit:m.testBit a with
  |false=>rfl
  |true=>have:=(hb a hbit).1;omega
 obtain ⟨L',h1,h2⟩:=hm.perm hs
 obtain ⟨A,B,rfl,h3,h4⟩:=eY.app h1
 rw[hpre] at h3
 exact ⟨B,h4,cJ.takeAll h3 ha (by rw[←q4];exact hR.permF (h2.symm.append_right F))⟩
theorem cN.write (hT:cu P T) (hC:cE P E call) (h:cN φ0 I0 F E nx0 l R GF S X j φ I H nx fl ρ w) {i m:Nat} {o:Oper} (ho:l[i]?=some o) (hil:i<R.length) (hXi:X i=false) (hr:∀e∈o.after,Region.binds .any e=true→X e.on=true) (hb:∀a,m.testBit a=true→a<i∧X a=true) {x:EV} (hR:R[i]?=some (.cv x)) (hj:dw R i=j)
  {H1 H':Hp} {nx':Nat} (hS:S[j+1]?=some (H',nx',fl ||| m)) (ha:ol (bx nx0 (qA fl m) (R.take i) 0) H=some H1) {g:Nat→EV} (hg:dI φ g ρ) (hx:zA T call g H1 (nx0+i) nx o.op=some (x,H',nx')) (hd:∀d,o.dst=some d→gt GF d=x) :
  dz P o ρ w fun v w'=>∃φ' I',cN φ0 I0 F E nx0 l R GF S (fun a=>X a||Nat.beq a i) (j+1) φ' I' H' nx' (fl ||| m) (updO ρ o.dst v) w':=by
 have hil2:i<l.length:=(List.getElem?_eq_some_iff.1 ho).1
 have hk:=h.free i hil2 hXi
 have hkx:nx0+i<nx:=by have:=h.top;omega
 obtain ⟨B,hB,hRel⟩:=h.heap (Nat.le_of_lt hil) hb ha
 have hop:dz P o ρ w (dl φ I (B++F) E (nx0+i) nx x H' nx'):=by
  unfold zA at hx
  split at hx
  ·rename_i y H2 hc
   cases hx
   exact yV hT hg hRel hk hkx hc
  ·exact sL hT hC hg hRel hx
 refine hop.mono fun v w' ⟨J,ψ,a,b,c,d,e,f⟩=>⟨ψ,J,h.closed' ho hr,hS,fun i' y hy=>?_,fun t ht=>?_,h.slots' ho b e hd,fun i' hi' hx'=>?_,h.le.trans b,h.leI.trans a,fun t ht=>by rw[c t (by have:=h.top;omega) (by omega)];exact h.keep t ht,by have:=h.top;omega,B,?_,f⟩
 ·by_cases e2:i'=i
  ·subst e2
   rw[hj,show Nat.beq i' i'=true from Nat.beq_refl i',Bool.or_true]
   simp
  ·have hbq:Nat.beq i' i=false:=by cases hb2:Nat.beq i' i with
    |false=>rfl
    |true=>exact absurd (Nat.eq_of_beq_eq_true hb2) e2
   rw[hbq,Bool.or_false,h.chain i' y hy]
   have hne:dw R i'≠j:=fun e3=>by
    rcases Nat.lt_or_gt_of_ne e2 with h1|h1
    ·have:=sP h1 hy;omega
    ·have:=sP h1 hR;omega
   omega
 ·rw[Nat.testBit_or,Bool.or_eq_true] at ht
  rcases ht with h1|h1
  ·rw[h.flX t h1];rfl
  ·rw[(hb t h1).2];rfl
 ·simp only[Bool.or_eq_false_iff] at hx'
  have:i'≠i:=fun e=>by rw[e,show Nat.beq i i=true from Nat.beq_refl i] at hx';cases hx'.2
  rw[c _ (by have:=h.top;omega) (by omega)];exact h.free i' hi' hx'.1
 ·rw[dF (q:=fun a=>(X a&&!fl.testBit a)&&!qA fl m a) R 0 fun t y o' ht=>?_]
  ·exact hB.mono a b
  ·rw[Nat.zero_add]
   have hbq:Nat.beq t i=false:=by cases hb2:Nat.beq t i with
    |false=>rfl
    |true=>
     have:=Nat.eq_of_beq_eq_true hb2
     subst this
     rw[hR] at ht;cases ht
   simp only[hbq,Bool.or_false,qA,Nat.testBit_or]
   cases X t<;>cases fl.testBit t<;>cases m.testBit t<;>rfl
end
theorem mE:∀n,(∀x y,fb.eqE n x y=true→x=y)∧∀l m,fb.eqL n l m=true→l=m
 |0=>⟨fun x y h=>(by unfold fb.eqE at h;cases h),fun l m h=>(by unfold fb.eqL at h;cases h)⟩
 |n+1=>by
  obtain ⟨ih1,ih2⟩:=mE n
  have nb:∀{a b:Nat},Nat.beq a b=true→a=b:=fun h=>Nat.eq_of_beq_eq_true h
  constructor
  ·intro x y h
   unfold fb.eqE at h
   split at h
   case h_8=>
    rename_i a b c d e a' b' c' d' e'
    simp only[qg] at h
    obtain ⟨⟨⟨⟨h1,h2⟩,h3⟩,h4⟩,h5⟩:=h
    rw[nb h1,nb h2,nb h3,nb h4]
    split at h5
    ·rw[nb h5]
    ·rfl
    ·rfl
    ·cases h5
   all_goals first
    |rfl
    |(cases h;done)
    |(simp only[qg,qh] at h;rw[h.1,h.2];done)
    |(simp only[qg] at h;rw[nb h.1,nb h.2];done)
    |(simp only[qg] at h;rw[nb h.1.1,nb h.1.2,nb h.2];done)
    |(rw[ih2 _ _ h];done)
    |(rw[nb h];done)
    |(simp only[qg] at h;rw[nb h.1.1,ih2 _ _ h.1.2,ih2 _ _ h.2];done)
    |(simp only[qg] at h;rw[nb h.1,ih1 _ _ h.2];done)
    |(rw[fT] at h;rw[of_decide_eq_true h];done)
    |(rw[beq_iff_eq.1 h];done)
  ·intro l m h
   unfold fb.eqL at h
   split at h
   ·cases ‹_=0›
   ·rfl
   ·simp only[qg] at h
    first
     |rw[ih1 _ _ h.1,ih2 _ _ h.2]
     |(rename_i e;cases e;rw[ih1 _ _ h.1,ih2 _ _ h.2])
   ·cases h
theorem mF {l:List Oper} {X:Nat→Bool} (hX:jL l X) (hE:mA l) {i:Nat} {o:Oper} (ho:l[i]?=some o) (hr:∀e∈o.after,Region.binds .any e=true→X e.on=true):∀a,(((fV l [])[i]?).getD 0).testBit a=true→a<i∧X a=true:=fun a ha=>by
 cases hm:(fV l [])[i]? with
 |none=>rw[hm] at ha;simp at ha
 |some m=>
  rw[hm] at ha
  obtain ⟨h1,h2⟩:=yZ hX hE i m o hm ho
  exact ⟨h1 a ha,h2 hr a ha⟩
theorem rD {p q:Nat→Bool} {i:Nat} (hp:p i=true) (hq:q i=false) (h:∀a,q a=true→p a=true):∀l:List Nat,i∈l→(l.filter q).length<(l.filter p).length
 |[],hi=>by cases hi
 |a::l,hi=>by
  have le:∀l:List Nat,(l.filter q).length≤(l.filter p).length:=fun l=>by
   induction l with
   |nil=>exact Nat.le_refl _
   |cons b l ih=>
    rw[List.filter_cons,List.filter_cons]
    cases hb:q b with
    |true=>rw[if_pos rfl,if_pos (h b hb)];simpa using ih
    |false=>rw[if_neg (by decide)];split<;>(try rw[List.length_cons])<;>omega
  rcases List.mem_cons.1 hi with rfl|hi
  ·rw[List.filter_cons,List.filter_cons,if_neg (by rw[hq];decide),if_pos hp,List.length_cons]
   have:=le l;omega
  ·have ih:=rD hp hq h l hi
   rw[List.filter_cons,List.filter_cons]
   cases hb:q a with
   |true=>rw[if_pos rfl,if_pos (h a hb)];simpa using ih
   |false=>rw[if_neg (by decide)];split<;>(try rw[List.length_cons])<;>omega
section
variable {P:Program} {T:TT} {call:bK} {φ0 φ:bY} {I0 I:aI} {F:List (Nat × Obj)} {E w:World} {nx0:Nat} {l:List Oper} {R:List Rc} {GF G0:Tr EV} {S S0:List rB} {X:Nat→Bool} {j:Nat} {H:Hp} {nx fl:Nat} {ρ:bD}
theorem cN.step (hT:cu P T) (hC:cE P E call) (hst:om l (fV l [])=true) (hP:mC T call l (fV l []) nx0 0 [] G0 S0 R GF S) (hL:fb T l (fV l []) nx0 R GF S=true) (h:cN φ0 I0 F E nx0 l R GF S X j φ I H nx fl ρ w) {i:Nat} {o:Oper} (ho:l[i]?=some o) (hXi:X i=false) (hr:∀e∈o.after,Region.binds .any e=true→X e.on=true) :
  bq P l.toArray (fun ρ' w'=>∃j φ I H nx fl,cN φ0 I0 F E nx0 l R GF S (fun a=>X a||Nat.beq a i) j φ I H nx fl ρ' w') [o] ρ w:=by
 obtain ⟨hE,hW,_⟩:=kl hst
 obtain ⟨⟨rr,hRR,hlen⟩,_,hSl,_,hall⟩:=hP
 obtain ⟨r,hRi,⟨t,hw,hf,htr⟩,hd⟩:=hall i o (q5 _) ho
 have hbits:=mF h.closed hE ho hr
 have hgm:dI φ (wW (qj l o) GF) ρ:=fun t'=>by
  unfold wW
  cases hm:kR t' (qj l o) with
  |false=>trivial
  |true=>exact h.slots t' fun i' o' ho' hd'=>(hbits i' (hW i o t' ho (fa.1 hm) i' o' ho' hd')).2
 have hwt:=sN hgm hw
 have hil:i<R.length:=(List.getElem?_eq_some_iff.1 hRi).1
 unfold bq
 rw[hwt]
 cases t with
 |false=>
  rw[if_neg (by decide)]
  have:=hf rfl
  subst this
  exact ⟨j,φ,I,H,nx,fl,h.quiet ho hr hRi rfl (fun _ _ e=>by cases e) (v:=undef) ⟨[],rfl,rfl⟩ hd⟩
 |true=>
  rw[if_pos rfl]
  have htr:=htr rfl
  cases r with
  |pv x=>
   obtain ⟨v,h1,h2⟩:=yL (P:=P) (w:=w) hT hgm htr
   exact dz.val h1 ⟨j,φ,I,H,nx,fl,h.quiet ho hr hRi rfl (fun _ _ e=>by cases e) h2 hd⟩
  |av x vo=>exact (h.make hT ho hXi hr hRi hgm htr hd).mono fun v w' ⟨φ',h'⟩=>⟨j,φ',I,H,nx,fl,h'⟩
  |lv x=>
   have hmay:rC R (fV l []) i j=true:=by
    unfold rC
    refine List.all_eq_true.2 fun c hc=>?_
    have hcl:=List.mem_range.1 hc
    split
    ·rename_i y hy
     have hcc:=h.chain c y hy
     simp only[qg,Bool.or_eq_true,Bool.not_eq_true']
     constructor
     ·cases hb:(((fV l [])[i]?).getD 0).testBit c with
      |false=>exact .inl rfl
      |true=>exact .inr (Nat.ble_eq_true_of_le (hcc.1 (hbits c hb).2))
     ·cases hb:(((fV l [])[c]?).getD 0).testBit i with
      |false=>exact .inl rfl
      |true=>
       refine .inr (Nat.ble_eq_true_of_le ?_)
       refine Nat.le_of_not_lt fun hlt=>?_
       have hXc:=hcc.2 hlt
       have hcl2:c<l.length:=by rw[hRR,List.nil_append] at hcl;omega
       have:=(mF h.closed hE (q2 hcl2) (fun e he hb=>h.closed c _ hXc (q2 hcl2) e he hb) i hb).2
       rw[hXi] at this;cases this
    ·rfl
   unfold fb at hL
   have h1:=List.all_eq_true.1 hL i (List.mem_range.2 hil)
   rw[hRi,ho] at h1
   simp only at h1
   have hjl:=(List.getElem?_eq_some_iff.1 h.stage).1
   have h2:=List.all_eq_true.1 h1 j (List.mem_range.2 hjl)
   rw[hmay,h.stage] at h2
   simp only[Bool.not_true,Bool.false_or] at h2
   split at h2
   ·rename_i H1 hadd
    split at h2
    ·rename_i y hy
     have hxy:=(mE 40).1 x y h2
     subst hxy
     obtain ⟨B,hB,hRel⟩:=h.heap (Nat.le_of_lt hil) hbits hadd
     obtain ⟨v,h3,h4⟩:=yO hT hgm hRel hy
     exact dz.val h3 ⟨j,φ,I,H,nx,fl,h.quiet ho hr hRi rfl (fun _ _ e=>by cases e) h4 hd⟩
    ·cases h2
   ·cases h2
  |cv x=>
   obtain ⟨H2,nx2,fl2,H1,H',nx',s1,s2,s3,s4,s5⟩:=htr
   have hge:¬dw R i<j:=fun hlt=>by rw[(h.chain i x hRi).2 hlt] at hXi;cases hXi
   have hj:dw R i=j:=by
    rcases s5 with e|⟨c,y,hc,e,hb⟩
    ·omega
    ·have:=(h.chain c y hc).1 (hbits c hb).2
     omega
   rw[hj,h.stage] at s1
   cases s1
   rw[hj] at s2
   exact (h.write hT hC ho hil hXi hr hbits hRi hj s2 s3 hgm s4 hd).mono fun v w' ⟨φ',I',h'⟩=>⟨j+1,φ',I',H',nx',_,h'⟩
end
theorem sQ:∀(R:List Rc),0<(R.filter dZ).length→∃c y,R[c]?=some (.cv y)∧dw R c+1=(R.filter dZ).length
 |[],h=>by simp at h
 |r::R,h=>by
  have hc:∀c,dw (r::R) (c+1)=(if dZ r=true then 1 else 0)+dw R c:=fun c=>by
   unfold dw
   rw[List.take_succ_cons,List.filter_cons]
   split
   ·rw[List.length_cons];omega
   ·omega
  have hf:((r::R).filter dZ).length=(if dZ r=true then 1 else 0)+(R.filter dZ).length:=by
   rw[List.filter_cons]
   split
   ·rw[List.length_cons];omega
   ·omega
  by_cases hR:0<(R.filter dZ).length
  ·obtain ⟨c,y,h1,h2⟩:=sQ R hR
   exact ⟨c+1,y,by simpa using h1,by rw[hc,hf];omega⟩
  ·cases r with
   |cv y=>exact ⟨0,y,rfl,by rw[hf];show 0+1=1+_;omega⟩
   |pv x=>exact absurd h (by rw[hf,if_neg (fun e=>by cases e)];omega)
   |lv x=>exact absurd h (by rw[hf,if_neg (fun e=>by cases e)];omega)
   |av x o=>exact absurd h (by rw[hf,if_neg (fun e=>by cases e)];omega)
section
variable {P:Program} {φ:bY} {ρ:bD} {w:World} {T:TT} {I:aI} {F:List (Nat × Obj)} {E:World} {call:bK}
theorem nG (hT:cu P T) (hC:cE P E call) {l:List Oper} {G G':Tr EV} {H H':Hp} {nx nx':Nat} (h:oo T call l G H nx=some (G',H',nx')) (hg:dI φ (gt G) ρ) (hR:cJ I φ H nx F E w) {Q:bD→World→Prop} (hQ:∀ρ' w',e9 φ I F E nx G' H' nx' ρ' w'→Q ρ' w') :
  bE P l.toArray (fun _=>True) (fun _=>True) (fun _=>false) Q l.length (Array.replicate l.length false) ρ w:=by
 unfold oo at h
 dsimp only at h
 cases hst:om l (fV l []) with
 |false=>rw[hst] at h;cases h
 |true=>
  rw[hst] at h
  simp only[cond_true] at h
  obtain ⟨hE,hW,hD⟩:=kl hst
  split at h
  ·rename_i R GF S hpass
   cases hL:fb T l (fV l []) nx R GF S with
   |false=>rw[hL] at h;cases h
   |true=>
    rw[hL] at h
    simp only[cond_true] at h
    split at h
    ·rename_i Hm nm flm hlast
     split at h
     ·rename_i H2 hadd
      cases h
      have hP:=mD hD (fun i o t ho ht j o' ho' hd'=>(mF (X:=fun _=>true) (fun _ _ _ _ _ _ _=>rfl) hE ho (fun _ _ _=>rfl) j (hW i o t ho ht j o' ho' hd')).1) l 0 [] G [(H,nx+l.length,0)] H (nx+l.length) 0 none R G' S rfl (q5 _) rfl rfl rfl (fun c hc=>by cases hc) (fun _=>rfl) hpass
      obtain ⟨⟨rr,hRR,hlen⟩,⟨ss,hSS⟩,hSl,hGF,_⟩:=id hP
      have hRl:R.length=l.length:=by rw[hRR,List.nil_append];omega
      have fin:∀(X:Nat→Bool) ρ' w',(∀i,i<l.length→X i=true)→(∃j ψ J H1 n1 fl,cN φ I F E nx l R G' S X j ψ J H1 n1 fl ρ' w')→Q ρ' w':=fun X ρ' w' hall ⟨j,ψ,J,H1,n1,fl,hi⟩=>by
       have hjl:=(List.getElem?_eq_some_iff.1 hi.stage).1
       have hj:j=(R.filter dZ).length:=by
        by_cases h0:0<(R.filter dZ).length
        ·obtain ⟨c,y,h1,h2⟩:=sQ R h0
         have hc:=(List.getElem?_eq_some_iff.1 h1).1
         have:=(hi.chain c y h1).1 (hall c (by omega))
         omega
        ·omega
       rw[List.getLast?_eq_getElem?,hSl,Nat.add_sub_cancel,←hj,hi.stage] at hlast
       cases hlast
       obtain ⟨Lx,h1,h2⟩:=hi.mem
       rw[dF (q:=fun a=>!flm.testBit a) R 0 fun a y o ha=>by
        have:=(List.getElem?_eq_some_iff.1 ha).1
        rw[Nat.zero_add,hall a (by omega),Bool.true_and]] at h1
       exact hQ ρ' w' ⟨J,ψ,hi.leI,hi.le,hi.keep,by have:=hi.top;omega,fun t=>hi.slots t fun i' o' ho' _=>hall i' (List.getElem?_eq_some_iff.1 ho').1,cJ.takeAll h1 hadd h2⟩
      have main:∀(fuel:Nat) (listed:Array Bool) (ρ':bD) (w':World),listed.size=l.length→((List.range l.length).filter fun i=>!ez listed i).length≤fuel→(∃j ψ J H1 n1 fl,cN φ I F E nx l R G' S (ez listed) j ψ J H1 n1 fl ρ' w')→bE P l.toArray (fun _=>True) (fun _=>True) (fun _=>false) Q fuel listed ρ' w':=by
       have rdy:∀(listed:Array Bool),listed.size=l.length→Region.ready .any l.toArray listed=[]→∀i,i<l.length→ez listed i=true:=fun listed hsz hre i=>by
        induction i using Nat.strongRecOn with
        |_ i ih=>
         intro hi
         cases hX:ez listed i with
         |true=>rfl
         |false=>
          have:i∈Region.ready .any l.toArray listed:=mem_ready.2 ⟨by
           unfold ez at hX
           have:i<listed.size:=by omega
           simp only[Array.getD_eq_getD_getElem?,Array.getElem?_eq_getElem this,Option.getD_some] at hX ⊢
           exact hX,l[i],by simp[hi],fun e he hb=>by
           have:=hE i l[i] (q2 hi) e he hb
           exact ih e.on this (by omega)⟩
          rw[hre] at this;cases this
       intro fuel
       induction fuel with
       |zero=>
        intro listed ρ' w' hsz hc hi
        have hall:∀i,i<l.length→ez listed i=true:=fun i hil=>by
         cases hX:ez listed i with
         |true=>rfl
         |false=>
          have h0:(List.range l.length).filter (fun i=>!ez listed i)=[]:=List.eq_nil_of_length_eq_zero (by omega)
          have:=List.filter_eq_nil_iff.1 h0 i (List.mem_range.2 hil)
          rw[hX] at this;exact absurd rfl this
        refine ⟨?_,fin _ _ _ hall hi⟩
        refine List.eq_nil_iff_forall_not_mem.2 fun i hir=>?_
        obtain ⟨h1,o,ho,_⟩:=mem_ready.1 hir
        have hil:i<l.length:=by
         have:=(Array.getElem?_eq_some_iff.1 ho).1
         simpa using this
        have h2:=hall i hil
        unfold ez at h2
        have:i<listed.size:=by omega
        simp only[Array.getD_eq_getD_getElem?,Array.getElem?_eq_getElem this,Option.getD_some] at h1 h2
        rw[h1] at h2;cases h2
       |succ fuel ih=>
        intro listed ρ' w' hsz hc hi
        refine ⟨fun hre=>fin _ _ _ (rdy listed hsz hre) hi,fun i hir o ho=>?_⟩
        obtain ⟨h1,o2,ho2,hedge⟩:=mem_ready.1 hir
        rw[ho] at ho2;cases ho2
        have ho:l[i]?=some o:=by simpa using ho
        have hil:=(List.getElem?_eq_some_iff.1 ho).1
        have hXi:ez listed i=false:=by
         unfold ez
         have:i<listed.size:=by omega
         simp only[Array.getD_eq_getD_getElem?,Array.getElem?_eq_getElem this,Option.getD_some] at h1 ⊢
         exact h1
        obtain ⟨j,ψ,J,H1,n1,fl,hi⟩:=hi
        refine yt (fun ρ2 w2 hi2=>⟨⟨trivial,.inr trivial⟩,ih _ ρ2 w2 (by simpa using hsz) ?_ ?_⟩) _ _ _ (hi.step hT hC hst hP hL ho hXi hedge)
        ·have hX:∀a,ez (listed.setIfInBounds i true) a=(ez listed a||Nat.beq a i):=fun a=>ln (by omega)
         have:=rD (p:=fun i=>!ez listed i) (q:=fun a=>!ez (listed.setIfInBounds i true) a) (i:=i) (by rw[hXi];rfl) (by rw[hX,show Nat.beq i i=true from Nat.beq_refl i];simp) (fun a ha=>by rw[hX] at ha;simp at ha ⊢;exact ha.1) (List.range l.length) (List.mem_range.2 hil)
         omega
        ·have e:ez (listed.setIfInBounds i true)=fun a=>ez listed a||Nat.beq a i:=funext fun a=>ln (by omega)
         rw[e];exact hi2
      have hX0:∀i,ez (Array.replicate l.length false) i=false:=fun i=>by
       unfold ez
       simp only[Array.getD_eq_getD_getElem?,Array.getElem?_replicate]
       split<;>rfl
      refine main l.length _ ρ w (by simp) (by have:=List.length_filter_le (fun i=>!ez (Array.replicate l.length false) i) (List.range l.length);simpa using this) ⟨0,φ,I,H,nx+l.length,0,?_⟩
      refine ⟨fun i o hx=>(by rw[hX0] at hx;cases hx),by rw[hSS];rfl,fun i y _=>(by rw[hX0];simp),fun a ha=>(by simp at ha),fun t ht=>?_,fun i _ _=>hR.top _ (by omega),.refl _,.refl _,fun _ _=>rfl,Nat.le_refl _,[],?_,hR.mono (by omega)⟩
      ·rw[hGF t fun i o _ ho hd'=>by have:=ht i o ho hd';rw[hX0] at this;cases this]
       exact hg t
      ·rw[fc R 0 fun a _=>by simp[hX0]];rfl
     ·cases h
    ·cases h
  ·cases h
end
def ot (l:List Oper) (o:Oper):Bool:=(List.range l.length).all (fun i=>o.after.toList.any (fun e=>Region.binds .any e&&Nat.beq e.on i))&&(o.after.toList.all (fun e=>!Region.binds .any e||Nat.blt e.on l.length)&&o.guard.isNone&&l.all fun p=>p.guard.all fun g=>Nat.blt g.1 l.length)
noncomputable def ou (T:TT) (call:bK) (l:List Oper) (G:Tr EV) (H:Hp) (nx:Nat):Option (Tr EV × Hp × Nat):=
 bif om l (fV l []) then oo T call l G H nx
 else match l.getLast? with
  |none=>none
  |some o=>bif om l.dropLast (fV l.dropLast [])&&ot l.dropLast o then
    match oo T call l.dropLast G H nx with
    |some (G1,H1,n1)=>match BC T call (gt G1) H1 n1 (n1+1) o.op with
     |some (x,H2,n2)=>some (setO G1 o.dst x,H2,n2)
     |none=>none
    |none=>none
   else none
theorem pZ {l:List Oper} {o:Oper} (h:ot l o=true):(∀i,i<l.length→∃e∈o.after,Region.binds .any e=true∧e.on=i)∧o.guard=none∧(∀p∈l,∀j b,p.guard=some (j,b)→j<l.length)∧∀e∈o.after,Region.binds .any e=true→e.on<l.length:=by
 unfold ot at h
 simp only[qg,List.all_eq_true,List.any_eq_true,List.mem_range] at h
 obtain ⟨h1,⟨h4,h2⟩,h3⟩:=h
 refine ⟨fun i hi=>?_,?_,fun p hp j b hg=>?_,fun e he hb=>?_⟩
 ·obtain ⟨e,he,hb,hj⟩:=h1 i hi
  exact ⟨e,by simpa using he,hb,Nat.eq_of_beq_eq_true hj⟩
 ·cases hg:o.guard with
  |none=>rfl
  |some g=>rw[hg] at h2;cases h2
 ·have:=h3 p hp
  rw[hg] at this
  exact Nat.le_of_ble_eq_true this
 ·have:=h4 e (by simpa using he)
  rw[hb] at this
  simpa using this
section
variable {P:Program} {l:List Oper} {o:Oper}
theorem km {listed:Array Bool} {b:Bool} {i:Nat} (h:i<listed.size):(listed.push b).getD i true=listed.getD i true:=by
 simp only[Array.getD_eq_getD_getElem?]
 rw[Array.getElem?_push_lt (by omega),Array.getElem?_eq_getElem h]
theorem w0 {listed:Array Bool} {b:Bool}:(listed.push b).getD listed.size true=b:=by
 simp only[Array.getD_eq_getD_getElem?,Array.getElem?_push_size,Option.getD_some]
theorem p6 {p:Oper} {ρ:bD} (hg:∀j b,p.guard=some (j,b)→j<l.length):bG (l++[o]).toArray p ρ=bG l.toArray p ρ:=by
 unfold bG
 cases h:p.guard with
 |none=>rfl
 |some g=>
  obtain ⟨j,b⟩:=g
  have:=hg j b h
  have e:(l++[o]).toArray[j]?=l.toArray[j]?:=by simp only[List.getElem?_toArray];rw[List.getElem?_append_left this]
  simp only[e]
theorem w3 {Q Q':bD→World→Prop} (hlast:∀i,i<l.length→∃e∈o.after,Region.binds .any e=true∧e.on=i) (hon:∀e∈o.after,Region.binds .any e=true→e.on<l.length) (hE:mA l) (hg:∀p∈l,∀j b,p.guard=some (j,b)→j<l.length)
  (hQ:∀ρ w,Q' ρ w→bq P (l++[o]).toArray Q [o] ρ w):∀(fuel:Nat) (listed:Array Bool) (ρ:bD) (w:World),listed.size=l.length→((List.range l.length).filter fun i=>!ez listed i).length≤fuel →
  bE P l.toArray (fun _=>True) (fun _=>True) (fun _=>false) Q' fuel listed ρ w→bE P (l++[o]).toArray (fun _=>True) (fun _=>True) (fun _=>false) Q (fuel+1) (listed.push false) ρ w:=by
 have hlen:(l++[o]).length=l.length+1:=by simp
 have rdy:∀(listed:Array Bool),listed.size=l.length→Region.ready .any l.toArray listed=[]→∀i,i<l.length→ez listed i=true:=fun listed hsz hre i=>by
  induction i using Nat.strongRecOn with
  |_ i ih=>
   intro hi
   cases hX:ez listed i with
   |true=>rfl
   |false=>
    have:i∈Region.ready .any l.toArray listed:=mem_ready.2 ⟨by
     unfold ez at hX
     have:i<listed.size:=by omega
     simp only[Array.getD_eq_getD_getElem?,Array.getElem?_eq_getElem this,Option.getD_some] at hX ⊢
     exact hX,l[i],by simp[hi],fun e he hb=>by
     have:=hE i l[i] (q2 hi) e he hb
     exact ih e.on this (by omega)⟩
    rw[hre] at this;cases this
 have stP:∀(listed:Array Bool) (b:Bool) (i:Nat),i<listed.size→ez (listed.push b) i=ez listed i:=fun listed b i hi=>by
  unfold ez
  simp only[Array.getD_eq_getD_getElem?]
  rw[Array.getElem?_push_lt hi,Array.getElem?_eq_getElem hi]
 have stL:∀(listed:Array Bool) (b:Bool),ez (listed.push b) listed.size=b:=fun listed b=>by
  unfold ez
  simp only[Array.getD_eq_getD_getElem?,Array.getElem?_push_size,Option.getD_some]
 have fin:∀(fuel:Nat) (listed:Array Bool) (ρ:bD) (w:World),listed.size=l.length→(∀i,i<l.length→ez listed i=true)→Q' ρ w→bE P (l++[o]).toArray (fun _=>True) (fun _=>True) (fun _=>false) Q (fuel+1) (listed.push false) ρ w:=fun fuel listed ρ w hsz hall hq=>by
  have hmem:l.length∈Region.ready .any (l++[o]).toArray (listed.push false):=mem_ready.2 ⟨by rw[←hsz];exact w0,o,by simp,fun e he hb=>by
   have h8:=hon e he hb
   show ez (listed.push false) e.on=true
   rw[stP listed false e.on (by omega)];exact hall e.on h8⟩
  refine ⟨fun hre=>(by rw[hre] at hmem;cases hmem),fun i hir p hp=>?_⟩
  ·obtain ⟨h1,p',hp',_⟩:=mem_ready.1 hir
   rw[hp] at hp';cases hp'
   have hp:(l++[o])[i]?=some p:=by simpa using hp
   have hil:=(List.getElem?_eq_some_iff.1 hp).1
   have hi:i=l.length:=by
    rcases (by omega:i<l.length∨i=l.length) with h|h
    ·have h2:=hall i h
     unfold ez at h2
     rw[km (by omega)] at h1
     have:i<listed.size:=by omega
     simp only[Array.getD_eq_getD_getElem?,Array.getElem?_eq_getElem this,Option.getD_some] at h1 h2
     rw[h1] at h2;cases h2
    ·exact h
   subst hi
   have hpo:p=o:=by simpa using hp.symm
   subst hpo
   refine yt (fun ρ2 w2 hq2=>⟨⟨trivial,.inr trivial⟩,?_⟩) _ _ _ (hQ ρ w hq)
   have hnone:Region.ready .any (l++[p]).toArray ((listed.push false).setIfInBounds l.length true)=[]:=List.eq_nil_iff_forall_not_mem.2 fun k hk=>by
    obtain ⟨h3,p3,hp3,_⟩:=mem_ready.1 hk
    have hkl:k<l.length+1:=by
     have:=(Array.getElem?_eq_some_iff.1 hp3).1
     simpa using this
    have h4:ez ((listed.push false).setIfInBounds l.length true) k=true:=by
     rw[ln (by simp;omega)]
     rcases (by omega:k<l.length∨k=l.length) with h|h
     ·rw[stP listed false k (by omega),hall k h];rfl
     ·rw[h,show Nat.beq l.length l.length=true from Nat.beq_refl _,Bool.or_true]
    unfold ez at h4
    have:k<((listed.push false).setIfInBounds l.length true).size:=by simp;omega
    simp only[Array.getD_eq_getD_getElem?,Array.getElem?_eq_getElem this,Option.getD_some] at h3 h4
    rw[h3] at h4;cases h4
   cases fuel with
   |zero=>exact ⟨hnone,hq2⟩
   |succ n=>exact ⟨fun _=>hq2,fun k hk=>by rw[hnone] at hk;cases hk⟩
 intro fuel
 induction fuel with
 |zero=>
  intro listed ρ w hsz hc ⟨hre,hq⟩
  exact fin 0 listed ρ w hsz (rdy listed hsz hre) hq
 |succ fuel ih=>
  intro listed ρ w hsz hc ⟨h1,h2⟩
  by_cases hre:Region.ready .any l.toArray listed=[]
  ·exact fin (fuel+1) listed ρ w hsz (rdy listed hsz hre) (h1 hre)
  ·have hex:∃i,i<l.length∧ez listed i=false:=by
    obtain ⟨i,hi⟩:=List.exists_mem_of_ne_nil _ hre
    obtain ⟨h3,p,hp,_⟩:=mem_ready.1 hi
    have hil:i<l.length:=by
     have:=(Array.getElem?_eq_some_iff.1 hp).1
     simpa using this
    refine ⟨i,hil,?_⟩
    unfold ez
    have:i<listed.size:=by omega
    simp only[Array.getD_eq_getD_getElem?,Array.getElem?_eq_getElem this,Option.getD_some] at h3 ⊢
    exact h3
   have hsame:∀i,i∈Region.ready .any (l++[o]).toArray (listed.push false)↔i∈Region.ready .any l.toArray listed:=fun i=>by
    constructor
    ·intro hi
     obtain ⟨h3,p,hp,he⟩:=mem_ready.1 hi
     have hp:(l++[o])[i]?=some p:=by simpa using hp
     have hil:=(List.getElem?_eq_some_iff.1 hp).1
     rcases (by omega:i<l.length∨i=l.length) with h|h
     ·refine mem_ready.2 ⟨by rw[←km (b:=false) (by omega)];exact h3,p,by simpa [List.getElem?_append_left h] using hp,fun e hm hb=>?_⟩
      have hlt:=hE i p (by simpa [List.getElem?_append_left h] using hp) e hm hb
      have:=he e hm hb
      show ez listed e.on=true
      rw[←stP listed false e.on (by omega)];exact this
     ·subst h
      have hpo:p=o:=by simpa using hp.symm
      subst hpo
      obtain ⟨k,hk,hks⟩:=hex
      obtain ⟨e,hm,hb,hon⟩:=hlast k hk
      have:=he e hm hb
      rw[hon] at this
      have h5:=stP listed false k (by omega)
      rw[hks] at h5
      have h6:ez (listed.push false) k=true:=this
      rw[h5] at h6;cases h6
    ·intro hi
     obtain ⟨h3,p,hp,he⟩:=mem_ready.1 hi
     have hp:l[i]?=some p:=by simpa using hp
     have hil:=(List.getElem?_eq_some_iff.1 hp).1
     refine mem_ready.2 ⟨by rw[km (by omega)];exact h3,p,by simpa [List.getElem?_append_left hil] using hp,fun e hm hb=>?_⟩
     have hlt:=hE i p hp e hm hb
     have:=he e hm hb
     have h5:=stP listed false e.on (by omega)
     show ez (listed.push false) e.on=true
     rw[h5];exact this
   refine ⟨fun hre2=>?_,fun i hir p hp=>?_⟩
   ·exfalso
    obtain ⟨i,hi⟩:=List.exists_mem_of_ne_nil _ hre
    have:=(hsame i).2 hi
    rw[hre2] at this;cases this
   ·have hi:=(hsame i).1 hir
    obtain ⟨h3,p2,hp2,_⟩:=mem_ready.1 hi
    have hp2l:l[i]?=some p2:=by simpa using hp2
    have hil:=(List.getElem?_eq_some_iff.1 hp2l).1
    have hpp:p=p2:=by
     have hp:(l++[o])[i]?=some p:=by simpa using hp
     rw[List.getElem?_append_left hil,hp2l] at hp
     exact (Option.some.inj hp).symm
    subst hpp
    have hst:=h2 i hi p hp2
    have hpm:p∈l:=qb hp2l
    have hst2:bq P (l++[o]).toArray (fun ρ' w'=>((fun _=>True) w'∧(dk (fun _=>false) (listed.setIfInBounds i true)∨(fun _=>True) w'))∧bE P l.toArray (fun _=>True) (fun _=>True) (fun _=>false) Q' fuel (listed.setIfInBounds i true) ρ' w') [p] ρ w:=by
     unfold bq at hst ⊢
     rw[p6 (hg p hpm)]
     exact hst
    refine yt (fun ρ2 w2 hq2=>⟨⟨trivial,.inr trivial⟩,?_⟩) _ _ _ hst2
    have hXi:ez listed i=false:=by
     unfold ez
     have:i<listed.size:=by omega
     simp only[Array.getD_eq_getD_getElem?,Array.getElem?_eq_getElem this,Option.getD_some] at h3 ⊢
     exact h3
    have:=ih (listed.setIfInBounds i true) ρ2 w2 (by simpa using hsz) (by
     have hX:∀a,ez (listed.setIfInBounds i true) a=(ez listed a||Nat.beq a i):=fun a=>ln (by omega)
     have:=rD (p:=fun i=>!ez listed i) (q:=fun a=>!ez (listed.setIfInBounds i true) a) (i:=i) (by rw[hXi];rfl) (by rw[hX,show Nat.beq i i=true from Nat.beq_refl i];simp) (fun a ha=>by rw[hX] at ha;simp at ha ⊢;exact ha.1) (List.range l.length) (List.mem_range.2 hil)
     omega) hq2.2
    rwa [show (listed.push false).setIfInBounds i true=(listed.setIfInBounds i true).push false by
     apply Array.ext_getElem?
     intro k
     simp only[Array.getElem?_setIfInBounds,Array.getElem?_push,Array.size_push,Array.size_setIfInBounds]
     (repeat' split)<;>first|rfl|omega|(subst_vars;simp_all;done)|(subst_vars;omega)]
end
section
variable {P:Program} {φ:bY} {ρ:bD} {w:World} {T:TT} {I:aI} {F:List (Nat × Obj)} {E:World} {call:bK}
theorem rE (hT:cu P T) (hC:cE P E call) {l:List Oper} {G G':Tr EV} {H H':Hp} {nx nx':Nat} (h:ou T call l G H nx=some (G',H',nx')) (hg:dI φ (gt G) ρ) (hR:cJ I φ H nx F E w) {Q:bD→World→Prop} (hQ:∀ρ' w',e9 φ I F E nx G' H' nx' ρ' w'→Q ρ' w') :
  bE P l.toArray (fun _=>True) (fun _=>True) (fun _=>false) Q l.length (Array.replicate l.length false) ρ w:=by
 unfold ou at h
 cases hst:om l (fV l []) with
 |true=>rw[hst] at h;exact nG hT hC h hg hR hQ
 |false=>
  rw[hst] at h
  simp only[cond_false] at h
  split at h
  ·cases h
  ·rename_i o ho
   have hne:l≠[]:=fun e=>by rw[e] at ho;cases ho
   have hl:l=l.dropLast++[o]:=by
    have h0:=List.getLast?_eq_some_getLast hne
    rw[ho] at h0
    rw[Option.some.inj h0]
    exact (List.dropLast_concat_getLast hne).symm
   obtain ⟨m,hm⟩:∃m,l.dropLast=m:=⟨_,rfl⟩
   rw[hm] at h hl
   subst hl
   cases hok:(om m (fV m [])&&ot m o) with
   |false=>rw[hok] at h;cases h
   |true=>
    rw[hok] at h
    simp only[cond_true] at h
    rw[qg] at hok
    obtain ⟨hE,_,_⟩:=kl hok.1
    obtain ⟨h1,h2,h3,h4⟩:=pZ hok.2
    split at h
    ·rename_i G1 H1 n1 hd
     split at h
     ·rename_i x H2 n2 hx
      cases h
      have key:=w3 (P:=P) (l:=m) (o:=o) (Q:=Q) (Q':=fun ρ' w'=>e9 φ I F E nx G1 H1 n1 ρ' w') h1 h4 hE h3 (fun ρ1 w1 hp=>by
       obtain ⟨J,ψ,a,b,c,d,e,f⟩:=hp
       unfold bq
       rw[show bG (m++[o]).toArray o ρ1=true by unfold bG;rw[h2],if_pos rfl]
       have htop:=f.top
       refine (sM hT hC e (f.mono (Nat.le_succ n1)) (htop n1 (Nat.le_refl _)) (Nat.lt_succ_self n1) hx).mono fun v w2 ⟨K,χ,a2,b2,c2,d2,e2,f2⟩=>?_
       exact hQ _ _ ⟨K,χ,a.trans a2,b.trans b2,fun j hj=>(c2 j (by omega) (by omega)).trans (c j hj),by omega,(e.mono b2).setO e2 o.dst,f2⟩) m.length (Array.replicate m.length false) ρ w (by simp) (by have:=List.length_filter_le (fun i=>!ez (Array.replicate m.length false) i) (List.range m.length);simpa using this) (nG hT hC hd hg hR fun _ _ hp=>hp)
      rw[show (m++[o]).length=m.length+1 by simp,show Array.replicate (m.length+1) false=(Array.replicate m.length false).push false from Array.replicate_succ]
      exact key
     ·cases h
    ·cases h
end
end
end Go.Proofs.YtjpnhkmfhlnpcaaGreatDoor
