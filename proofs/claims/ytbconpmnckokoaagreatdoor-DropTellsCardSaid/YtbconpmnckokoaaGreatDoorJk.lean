/- Statements whose order is open, over a heap told exactly: what they need to be the same in any order. No conditions. -/
import Derived.Test.YtbconpmnckokoaaGreatDoorJj
import Derived.Test.YtbconpmnckokoaaGreatDoorJe
set_option linter.unusedVariables false
set_option linter.unusedSimpArgs false
set_option linter.unusedSectionVars false
namespace Go.Proofs.YtbconpmnckokoaaGreatDoor
section
open Go.Proofs
def me (n:Nat) (z:List EV):List EV:=(List.replicate n z).flatten
noncomputable def xh (T:TT) (g:Nat→EV) (k:Nat) (op:Op):Option (EV × VO):=
 match op with
 |.alloc t=>match T t with
  |some i=>some (.p k 0,.cells true i.z)
  |none=>none
 |.box _ x=>match bw g x with
  |some a=>bif a.sto&&a.cs.all EV.cell then some (.p k 0,.cells true a.cs) else none
  |none=>none
 |.buildSlice t n ps=>match T t with
  |some i=>match i.d with
   |.slice e=>match T e,jV (fun p:Nat × Operand=>bw g p.2) ps.toList with
    |some ie,some vs=>bif Nat.blt 0 (n*ie.size)&&Nat.ble (n*ie.size) 16777216 then
      match jB (fun j=>some (j*ie.size,ie.size)) (me n ie.z) ((ps.toList.map (·.1)).zip vs) with
      |some rs=>bif rs.all EV.cell&&Nat.beq rs.length (n*ie.size) then some (.sl k 0 n ie.size (.ex n),.cells true rs) else none
      |none=>none
     else bif Nat.beq n 0&&ps.toList.isEmpty then some (.sl k 0 0 ie.size (.ex 0),.cells true []) else none
    |_,_=>none
   |_=>none
  |none=>none
 |.makeSlice t x y=>match T t,bw g x,bw g y with
  |some i,some (.i _ l),some (.i _ c)=>match i.d,eW l,eW c with
   |.slice e,some l,some c=>match T e with
    |some ie=>bif Nat.blt 0 ie.size&&Nat.ble l c&&Nat.ble (ie.bytes*c) 281474976710656&&Nat.ble c 281474976710656 then some (.sl k 0 l ie.size (.ex c),.cells true (me c ie.z)) else none
    |none=>none
   |_,_,_=>none
  |_,_,_=>none
 |.makeMap _ none=>some (.m k,.mp [])
 |.range t x=>match T t,bw g x with
  |some i,some (.s s)=>match i.d with
   |.string=>some (.p k 0,.it s 0)
   |_=>none
  |_,_=>none
 |_=>none
noncomputable def yP (T:TT) (k:Nat) (t:TypeId):Option (EV × VO):=match T t with
 |some i=>some (.p k 0,.cells true i.z)
 |none=>none
noncomputable def yQ (g:Nat→EV) (k:Nat) (x:Operand):Option (EV × VO):=match bw g x with
 |some a=>bif a.sto&&a.cs.all EV.cell then some (.p k 0,.cells true a.cs) else none
 |none=>none
noncomputable def yR (T:TT) (g:Nat→EV) (k:Nat) (t:TypeId) (n:Nat) (ps:Array (Nat × Operand)):Option (EV × VO):=match T t with
 |some i=>match i.d with
  |.slice e=>match T e,jV (fun p:Nat × Operand=>bw g p.2) ps.toList with
   |some ie,some vs=>bif Nat.blt 0 (n*ie.size)&&Nat.ble (n*ie.size) 16777216 then
     match jB (fun j=>some (j*ie.size,ie.size)) (me n ie.z) ((ps.toList.map (·.1)).zip vs) with
     |some rs=>bif rs.all EV.cell&&Nat.beq rs.length (n*ie.size) then some (.sl k 0 n ie.size (.ex n),.cells true rs) else none
     |none=>none
    else bif Nat.beq n 0&&ps.toList.isEmpty then some (.sl k 0 0 ie.size (.ex 0),.cells true []) else none
   |_,_=>none
  |_=>none
 |none=>none
noncomputable def yS (T:TT) (g:Nat→EV) (k:Nat) (t:TypeId) (x y:Operand):Option (EV × VO):=match T t,bw g x,bw g y with
 |some i,some (.i _ l),some (.i _ c)=>match i.d,eW l,eW c with
  |.slice e,some l,some c=>match T e with
   |some ie=>bif Nat.blt 0 ie.size&&Nat.ble l c&&Nat.ble (ie.bytes*c) 281474976710656&&Nat.ble c 281474976710656 then some (.sl k 0 l ie.size (.ex c),.cells true (me c ie.z)) else none
   |none=>none
  |_,_,_=>none
 |_,_,_=>none
noncomputable def yT (k:Nat) (r:Option Operand):Option (EV × VO):=match r with
 |none=>some (.m k,.mp [])
 |_=>none
noncomputable def yU (T:TT) (g:Nat→EV) (k:Nat) (t:TypeId) (x:Operand):Option (EV × VO):=match T t,bw g x with
 |some i,some (.s s)=>match i.d with
  |.string=>some (.p k 0,.it s 0)
  |_=>none
 |_,_=>none
noncomputable def xF (T:TT) (g:Nat→EV) (k:Nat) (op:Op):Option (EV × VO):=
 match op with
 |.alloc t=>yP T k t
 |.box _ x=>yQ g k x
 |.buildSlice t n ps=>yR T g k t n ps
 |.makeSlice t x y=>yS T g k t x y
 |.makeMap _ r=>yT k r
 |.range t x=>yU T g k t x
 |_=>none
theorem xi (T:TT) (g:Nat→EV) (k:Nat) (op:Op):xF T g k op=xh T g k op:=by
 cases op<;>try rfl
 case makeMap t r=>cases r<;>rfl
section
variable {P:Program} {φ:bD} {g:Nat→EV} {ρ:bn} {w:World} {T:TT} {I:aF} {H:Hp} {k nx:Nat} {F L:List (Nat × Obj)} {E:World}
theorem fO {r:Nat} {vs:List Value} {cs:List EV} {t:TypeId} (h:RelVs φ cs vs) (h1:∀u∈vs,u.oneCell'=true) (hk:φ k=none):dJ I (φ.put k ⟨r,0,vs.length⟩) k (.cells true cs) [(r,.cells vs.toArray t (0,0))]:=
 ⟨⟨r,0,vs.length⟩,t,vs,[],yg _ _ _,rfl,h.mono (yo hk _),by simpa using h1,by simp,fun _=>rfl,by simp⟩
theorem RelVs.flatR {z:List EV} {vs:List Value} (h:RelVs φ z vs):∀n,RelVs φ (me n z) (List.replicate n vs).flatten
 |0=>rfl
 |n+1=>by
  unfold me
  rw[List.replicate_succ,List.replicate_succ,List.flatten_cons,List.flatten_cons]
  exact h.append (RelVs.flatR h n)
theorem k7.cell1 {t:TypeId} {i:TI} (h:k7 P t i) {zv:Value} (hz:∀φ,RelVs φ i.z zv.cells.toList):∀u∈zv.cells.toList,u.oneCell'=true:=EV.cells_rel (hz fun _=>none) h.z1
theorem m9 {t e:TypeId} {ty:TypeId} {pos:String} {af:Array Edge} {gu:Option (Nat × Bool)} {d:Option Nat} {n:Nat} (hu:P.underlying t=some (.slice e)) (hs:∀w,(sizeOf e).run P w=.ok n w) :
  (execOp (ev ρ) (Oper.mk d (.buildSlice t 0 #[]) ty pos af gu)).run P w=.ok (.value (.slice (some ⟨w.heap.size,0,none⟩) 0 0)) (w.alloc (.cells #[] e)):=by
 simp[execOp,Instr.buildSlice,run_underlying hu,hs,Instr.fill,newRow]
 congr 2
 exact Array.eq_empty_of_size_eq_zero (by simp)
theorem vh (hT:bK P T) (hg:cP φ g ρ) {o:Oper} {x:EV} {vo:VO} (h:xh T g k o.op=some (x,vo)) (hk:φ k=none) (hS:SL I L E w) :
  ∃v w' q A,(execOp (ev ρ) o).run P w=.ok (.value v) w'∧aL (φ.put k q) x v∧dJ I (φ.put k q) k vo A∧SL I (A++L) E w':=by
 obtain ⟨dst,op,ty,pos,af,gu⟩:=o
 dsimp only at h
 unfold xh at h
 split at h
 ·rename_i t
  split at h
  ·rename_i i hi
   simp only[Option.some.injEq,Prod.mk.injEq] at h
   obtain ⟨rfl,rfl⟩:=h
   obtain ⟨zv,hz,hzr,_⟩:=(hT t i hi).zero
   have hz1:=(hT t i hi).cell1 hzr
   refine ⟨.pointer (some ⟨w.heap.size,0,none⟩),w.alloc (.cells zv.cells t),⟨w.heap.size,0,zv.cells.toList.length⟩,[(w.heap.size,.cells zv.cells.toList.toArray t (0,0))],?_,⟨_,yg _ _ _,Z⟩,fO (hzr φ) hz1 hk,?_⟩
   ·simp[execOp,Instr.alloc,hz,ee]
   ·rw[Array.toArray_toList];exact hS.alloc _
  ·cases h
 ·rename_i t x'
  split at h
  ·rename_i a hx
   cases hb:(a.sto&&a.cs.all EV.cell) with
   |false=>rw[hb] at h;cases h
   |true=>
    rw[hb] at h
    simp only[cond_true,Option.some.injEq,Prod.mk.injEq] at h
    obtain ⟨rfl,rfl⟩:=h
    simp only[q1] at hb
    have hr:=EV.cs_rel (aG hg hx) hb.1
    have h1:=EV.cells_rel hr hb.2
    refine ⟨.pointer (some ⟨w.heap.size,0,none⟩),w.alloc (.cells (ev ρ x').cells t),⟨w.heap.size,0,(ev ρ x').cells.toList.length⟩,[(w.heap.size,.cells (ev ρ x').cells.toList.toArray t (0,0))],?_,⟨_,yg _ _ _,Z⟩,fO hr h1 hk,?_⟩
    ·simp[execOp,Instr.box,ee]
    ·rw[Array.toArray_toList];exact hS.alloc _
  ·cases h
 ·rename_i t n ps
  split at h
  ·rename_i i hi
   split at h
   ·rename_i e hd
    have hu:=hd▸(hT t i hi).und
    split at h
    ·rename_i ie vs hie hvs
     have hTe:=hT e ie hie
     obtain ⟨zv,hz,hzr,hzs⟩:=hTe.zero
     have hz1:=hTe.cell1 hzr
     have hpr:=fc (φ:=φ) (g:=fun p:Nat × Operand=>ev ρ p.2) (fun p a hp=>aG hg hp) ps.toList vs hvs
     have epar:(ps.map fun p=>(p.1,ev ρ p.2)).toList=ps.toList.map fun p=>(p.1,ev ρ p.2):=by simp
     cases hb:(Nat.blt 0 (n*ie.size)&&Nat.ble (n*ie.size) 16777216) with
     |true=>
      rw[hb] at h
      simp only[cond_true] at h
      simp only[q1] at hb
      have b1:0<n*ie.size:=Nat.le_of_ble_eq_true hb.1
      have b2:=Nat.le_of_ble_eq_true hb.2
      split at h
      ·rename_i rs hrs
       cases hb3:(rs.all EV.cell&&Nat.beq rs.length (n*ie.size)) with
       |false=>rw[hb3] at h;cases h
       |true=>
        rw[hb3] at h
        simp only[cond_true,Option.some.injEq,Prod.mk.injEq] at h
        obtain ⟨rfl,rfl⟩:=h
        simp only[q1] at hb3
        have b4:=Nat.eq_of_beq_eq_true hb3.2
        have hzl:zv.cells.toList.length=ie.size:=by rw[Array.length_toList];exact hzs
        have hmc:madeCells zv.cells (n*ie.size)=(List.replicate n zv.cells.toList).flatten.toArray:=by
         have:=eX zv.cells.toList n (by rw[hzl];exact Nat.pos_of_ne_zero fun e=>by rw[e,Nat.mul_zero] at b1;omega) hz1
         rw[hzl,Array.toArray_toList] at this
         exact this
        have hl:(ps.toList.map (·.1)).length=vs.length:=by have:=hpr.length;simp at this ⊢;exact this
        obtain ⟨vc,f1,f2⟩:=fN (place:=fun j=>some (j*ie.size,ie.size)) (ps.toList.map fun p=>(p.1,ev ρ p.2)) _ (me n ie.z) (madeCells zv.cells (n*ie.size)) rs (by rw[gY _ _ hl,List.map_map];rfl) (by rw[gZ _ _ hl,List.map_map];exact hpr) (by rw[hmc];exact (hzr φ).flatR n) hrs
        have h1:=EV.cells_rel f2 hb3.1
        have hvl:vc.toList.length=n*ie.size:=by rw[f2.length,b4]
        have hrun:(Instr.buildSlice t n (ps.map fun p=>(p.1,ev ρ p.2))).run P w=.ok (.slice (some ⟨w.heap.size,0,none⟩) n n) (w.alloc (.cells vc e)):=by
         unfold Instr.buildSlice
         simp only[Sem.run_bind,Result.andThen_ok,run_underlying hu,hTe.sz]
         rw[if_neg (by omega)]
         have f1':Instr.fill (fun i=>some (i*ie.size,ie.size)) ((Array.range (n*ie.size)).map (zv.cells[·% zv.cells.size]!)) (ps.map fun p=>(p.1,ev ρ p.2)).toList=some vc:=by rw[epar];exact f1
         simp only[Sem.run_pure,Result.andThen_ok,if_neg (by omega:¬n*ie.size=0),Sem.run_bind,hz,f1',newRow]
         simp
        refine ⟨.slice (some ⟨w.heap.size,0,none⟩) n n,w.alloc (.cells vc e),⟨w.heap.size,0,vc.toList.length⟩,[(w.heap.size,.cells vc.toList.toArray e (0,0))],dM hrun,⟨_,0,n,yg _ _ _,Z,Nat.le_refl _,fun _=>Z,Z⟩,fO f2 h1 hk,?_⟩
        rw[Array.toArray_toList];exact hS.alloc _
      ·cases h
     |false=>
      rw[hb] at h
      simp only[cond_false] at h
      cases hb3:(Nat.beq n 0&&ps.toList.isEmpty) with
      |false=>rw[hb3] at h;cases h
      |true=>
       rw[hb3] at h
       simp only[cond_true,Option.some.injEq,Prod.mk.injEq] at h
       obtain ⟨rfl,rfl⟩:=h
       simp only[q1] at hb3
       have b4:=Nat.eq_of_beq_eq_true hb3.1
       subst b4
       have hps:ps=#[]:=Array.toList_inj.1 (List.isEmpty_iff.1 hb3.2)
       subst hps
       refine ⟨.slice (some ⟨w.heap.size,0,none⟩) 0 0,w.alloc (.cells #[] e),⟨w.heap.size,0,0⟩,[(w.heap.size,.cells ([]:List Value).toArray e (0,0))],m9 hu hTe.sz,⟨_,0,0,yg _ _ _,Z,Nat.le_refl _,fun _=>Z,Z⟩,fO (vs:=[]) Z (by simp) hk,hS.alloc _⟩
    ·cases h
   ·cases h
  ·cases h
 ·rename_i t x' y'
  split at h
  ·rename_i i k1 l k2 c hi hx hy
   have hx:ev ρ x'=.int k1 l:=aG hg hx
   have hy:ev ρ y'=.int k2 c:=aG hg hy
   split at h
   ·rename_i e l' c' hd hl hc
    have hl:=dL hl
    have hc:=dL hc
    subst hl hc
    have hu:=hd▸(hT t i hi).und
    split at h
    ·rename_i ie hie
     have hTe:=hT e ie hie
     cases hb:(Nat.blt 0 ie.size&&Nat.ble l' c'&&Nat.ble (ie.bytes*c') 281474976710656&&Nat.ble c' 281474976710656) with
     |false=>rw[hb] at h;cases h
     |true=>
      rw[hb] at h
      simp only[cond_true,Option.some.injEq,Prod.mk.injEq] at h
      obtain ⟨rfl,rfl⟩:=h
      simp only[q1] at hb
      have b1:0<ie.size:=Nat.le_of_ble_eq_true hb.1.1.1
      have b2:=Nat.le_of_ble_eq_true hb.1.1.2
      have b3:=Nat.le_of_ble_eq_true hb.1.2
      have b4:=Nat.le_of_ble_eq_true hb.2
      obtain ⟨f,zv,f1,f2,f3,f4,f5,_⟩:=hTe.inf
      have hz1:=hTe.cell1 f5
      have hzl:zv.cells.toList.length=ie.size:=by rw[(f5 φ).length,hTe.zl]
      have hrun:=run_make (P:=P) w t e f zv hu f1 f4 k1 k2 l' c' (by omega) (by omega) (by rw[f3,←Int.natCast_mul];omega) (by omega)
      have hmc:madeCells zv.cells (c'*ie.size)=(List.replicate c' zv.cells.toList).flatten.toArray:=by
       have:=eX zv.cells.toList c' (by omega) hz1
       rw[hzl,Array.toArray_toList] at this
       exact this
      rw[Int.toNat_natCast,Int.toNat_natCast,f2,hmc] at hrun
      have hr:=(f5 φ).flatR c'
      have hlen:(List.replicate c' zv.cells.toList).flatten.length=c'*ie.size:=by simp[hzl]
      refine ⟨.slice (some ⟨w.heap.size,0,none⟩) l' c',_,⟨w.heap.size,0,(List.replicate c' zv.cells.toList).flatten.length⟩,[(w.heap.size,.cells (List.replicate c' zv.cells.toList).flatten.toArray e (0,0))],?_,⟨_,0,c',yg _ _ _,Z,b2,fun _=>Z,Z⟩,fO hr (fun u hu=>?_) hk,hS.alloc _⟩
      ·refine dM ?_
       rw[hx,hy];exact hrun
      ·obtain ⟨r,hr,hu⟩:=List.mem_flatten.1 hu
       rw[List.eq_of_mem_replicate hr] at hu
       exact hz1 u hu
    ·cases h
   ·cases h
  ·cases h
 ·simp only[Option.some.injEq,Prod.mk.injEq] at h
  obtain ⟨rfl,rfl⟩:=h
  refine ⟨.map (some w.heap.size),w.alloc (.map #[] 0),⟨w.heap.size,0,0⟩,[(w.heap.size,.map #[] 0)],?_,⟨_,yg _ _ _,Z⟩,⟨_,[],yg _ _ _,⟨Z,fun _ _ h=>by cases h⟩,Z⟩,hS.alloc _⟩
  simp only[execOp,Option.map_none]
  rw[Sem.run_bind,run_makeMap_plain];rfl
 ·rename_i t x'
  split at h
  ·rename_i i s hi hx
   have hx:ev ρ x'=.string s:=aG hg hx
   split at h
   ·rename_i hd
    have hu:=hd▸(hT t i hi).und
    simp only[Option.some.injEq,Prod.mk.injEq] at h
    obtain ⟨rfl,rfl⟩:=h
    refine ⟨.pointer (some ⟨w.heap.size,0,none⟩),w.alloc (.stringIter s 0),⟨w.heap.size,0,0⟩,[(w.heap.size,.stringIter s 0)],?_,⟨_,yg _ _ _,Z⟩,⟨_,yg _ _ _,Z,Z⟩,hS.alloc _⟩
    simp[execOp,Instr.range,hx,run_underlying hu]
   ·cases h
  ·cases h
 ·cases h
theorem tf (hT:bK P T) (hg:cP φ g ρ) {o:Oper} {x:EV} {vo:VO} (h:xF T g k o.op=some (x,vo)) (hk:φ k=none) (hS:SL I L E w) :
  ∃v w' q A,(execOp (ev ρ) o).run P w=.ok (.value v) w'∧aL (φ.put k q) x v∧dJ I (φ.put k q) k vo A∧SL I (A++L) E w':=vh hT hg (xi T g k o.op▸h) hk hS
end
end
section
open Go.Proofs
def cC (φ:bD) (I:aF) (F:List (Nat × Obj)) (E:World) (k nx:Nat) (x:EV) (H:Hp) (nx':Nat) (v:Value) (w:World):Prop:=
 ∃J ψ,I.le J∧φ.le ψ∧(∀j,j<nx→j≠k→ψ j=φ j)∧nx≤nx'∧aL ψ x v∧bR J ψ H nx' F E w
section
variable {φ:bD} {I:aF} {H:Hp} {k nx:Nat} {F L A:List (Nat × Obj)} {E w w':World} {o:VO} {q:nQ}
theorem bR.freshN (h:bR I φ H nx F E w) (hk:φ k=none):∃L,kg I φ H k L∧SL I (L++F) E w:=by
 obtain ⟨M,L,hn,hm,hr,hS⟩:=h.ex
 refine ⟨L,⟨M,hn,fun j o'=>?_,hr⟩,hS⟩
 rw[←hm j o']
 refine ⟨fun hj=>⟨fun e=>?_,hj⟩,fun hj=>hj.2⟩
 obtain ⟨q,hq⟩:=hr.phi _ hj
 subst e
 rw[hk] at hq;cases hq
theorem fx (φ:bD) (q:nQ) {j:Nat} (h:j≠k):φ.put k q j=φ j:=if_neg h
theorem fP (h:∀j,nx≤j→φ j=none) (hk:k<nx) (q:nQ):∀j,nx≤j→φ.put k q j=none:=fun j hj=>by rw[fx φ q (by omega)];exact h j hj
theorem bR.addB (h:bR I φ H nx F E w) (hk:φ k=none) (hx:k<nx) {x:EV} {v:Value} (hv:aL (φ.put k q) x v) (hb:dJ I (φ.put k q) k o A) (hS:∀L,SL I (L++F) E w→SL I (A++(L++F)) E w'):cC φ I F E k nx x (H.set k (some o)) nx v w':=by
 obtain ⟨L,hr,hS0⟩:=h.freshN hk
 exact ⟨I,φ.put k q,.refl _,yo hk q,fun j _ hj=>fx φ q hj,Nat.le_refl _,hv,yn (hr.mono (.refl _) (yo hk q)) hb (hS L hS0) (fP h.top hx q)⟩
theorem bR.stay (h:bR I φ H nx F E w) {x:EV} {v:Value} (hv:aL φ x v):cC φ I F E k nx x H nx v w:=⟨I,φ,.refl _,.refl _,fun _ _ _=>rfl,Nat.le_refl _,hv,h⟩
end
section
variable {φ:bD} {I:aF} {H:Hp} {k b:Nat} {L:List (Nat × Obj)}
theorem kg.moved (h:kg I φ H b L) (hk:φ k=none):kg I φ (H.set b none) k L:=by
 obtain ⟨M,hn,hm,hr⟩:=h
 refine ⟨M,hn,fun j o=>?_,hr⟩
 rw[hm j o,Tr.get_set]
 constructor
 ·rintro ⟨h1,h2⟩
  refine ⟨fun e=>?_,by rw[if_neg h1];exact h2⟩
  obtain ⟨q,hq⟩:=hr.phi _ ((hm j o).2 ⟨h1,h2⟩)
  subst e
  rw[hk] at hq;cases hq
 ·rintro ⟨_,h2⟩
  by_cases e:j=b
  ·rw[if_pos e] at h2;cases h2
  ·rw[if_neg e] at h2;exact ⟨e,h2⟩
end
def fQ:Nat:=140737488355328
noncomputable def n6 (H:Hp) (y:EV) (size:Nat):Option (Nat × List EV):=
 match y with
 |.ns=>some (0,[])
 |.sl b off m k _=>bif Nat.beq k size then (cellsOf H b off (m*size)).map fun l=>(m,l) else none
 |_=>none
def wK (n:Nat):Cp→Bool
 |.ex cap=>Nat.ble n cap
 |.en=>true
 |.un=>false
noncomputable def n7 (T:TT) (H:Hp) (k t:Nat) (x y:EV):Option (EV × Hp):=
 match T t with
 |some i=>match i.d with
  |.slice e=>match T e with
   |some ie=>match n6 H y ie.size with
    |some (m,news)=>match x with
     |.ns=>bif Nat.beq m 0 then some (.ns,H) else bif Nat.ble (m*ie.bytes) fQ&&Nat.ble m fQ then some (.sl k 0 m ie.size .en,H.set k (some (.cells false news))) else none
     |.sl b off n k' c=>bif Nat.beq m 0 then some (.sl b off n k' c,H) else
      bif Nat.beq k' ie.size&&Nat.blt 0 ie.size&&Nat.ble ((n+m)*ie.bytes) fQ&&Nat.ble (n+m) fQ then
       match H.get b with
       |some (.cells ex cs)=>bif wK (n+m) c&&Nat.ble (off+(n+m)*ie.size) cs.length then
         some (.sl b off (n+m) k' c,H.set b (some (.cells ex (cs.take (off+n*ie.size)++news++cs.drop (off+(n+m)*ie.size)))))
        else match c with
         |.ex cap=>bif Nat.blt cap (n+m)&&Nat.ble (off+n*ie.size) cs.length then some (.sl k 0 (n+m) ie.size .en,H.set k (some (.cells false ((cs.drop off).take (n*ie.size)++news)))) else none
         |.en=>bif Nat.beq off 0&&Nat.beq (n*ie.size) cs.length then some (.sl k 0 (n+m) ie.size .en,(H.set b none).set k (some (.cells false (cs++news)))) else none
         |.un=>none
       |some (.kn cs)=>match c with
        |.ex cap=>bif Nat.blt cap (n+m)&&Nat.ble (off+n*ie.size) cs.length then some (.sl k 0 (n+m) ie.size .en,H.set k (some (.cells false ((cs.drop off).take (n*ie.size)++news)))) else none
        |_=>none
       |_=>none
      else none
     |_=>none
    |none=>none
   |none=>none
  |_=>none
 |none=>none
section
variable {P:Program} {φ:bD} {w:World} {T:TT} {I:aF} {H:Hp} {k nx:Nat} {F:List (Nat × Obj)} {E:World} {t e ty:TypeId}
theorem jE (hR:bR I φ H nx F E w) {y:EV} {size m:Nat} {news:List EV} (h:n6 H y size=some (m,news)) {c:Value} (hy:aL φ y c) :
  ∃sa c2 nv,c=.slice sa m c2∧RelVs φ news nv∧nv.length=m*size∧(∀u∈nv,u.oneCell'=true)∧((sa=none∧m=0)∨∃sp,sa=some sp∧∀(j:Nat) u,nv[j]?=some u→w.cell? (sp.add j)=some u):=by
 unfold n6 at h
 split at h
 ·cases h
  exact ⟨none,0,[],hy,rfl,by simp,by simp,.inl ⟨rfl,rfl⟩⟩
 ·rename_i b off m' k' cp
  cases hb:Nat.beq k' size with
  |false=>rw[hb] at h;cases h
  |true=>
   rw[hb] at h
   obtain ⟨l,hl,he⟩:=Option.map_eq_some_iff.1 h
   cases he
   obtain ⟨q,o,cap,hq,rfl,h1,h2,_⟩:=hy
   obtain ⟨vs,g1,g2,g3,g4⟩:=dN hR hl hq
   refine ⟨_,cap,vs,Z,g1,g2,g3,.inr ⟨_,Z,fun j u hj=>?_⟩⟩
   have hjl:=(List.getElem?_eq_some_iff.1 hj).1
   have hm0:cap≠0:=fun e=>by
    have:m=0:=by omega
    rw[g2,this,Nat.zero_mul] at hjl;omega
   rw[bd,h2 hm0]
   exact g4 j u hj
 ·cases h
theorem eD {i:TypeInfo} (ht:P.underlying t=some (.slice e)) (hi:P.info? e=some i) {a sa:Option Addr} {n cap c:Nat} (h:n≤cap) (h0:a=none→n=0∧cap=0) :
  (Builtin.append_ #[t,t] ty #[.slice a n cap,.slice sa 0 c]).run P w=.ok (.slice a n cap) w:=by
 cases a with
 |none=>
  obtain ⟨rfl,rfl⟩:=h0 rfl
  cases sa<;>simp[Builtin.append_,run_underlying ht,sizeOf,typeInfo,hi,Builtin.lenOf,Builtin.firstCells,loadCells,loadCellsFrom,storeCells]
 |some p=>cases sa<;>simp[Builtin.append_,run_underlying ht,sizeOf,typeInfo,hi,Builtin.lenOf,Builtin.firstCells,h,loadCells,loadCellsFrom,storeCells]
theorem eb {i:TypeInfo} (ht:P.underlying t=some (.slice e)) (hi:P.info? e=some i) {g off n cap m c:Nat} {S:TypeId} {cur:Array Value} (hg:w.heap[g]?=some (.cells cur S (0,0))) {a:Addr} {news:List Value}
  (hl:news.length=m*i.size) (hn:∀(j:Nat) u,news[j]?=some u→w.cell? (a.add j)=some u) (h1:∀u∈news,u.oneCell'=true) (hroom:n+m≤cap) (hfit:off+n*i.size+news.length≤cur.size) :
  (Builtin.append_ #[t,t] ty #[.slice (some ⟨g,off,none⟩) n cap,.slice (some a) m c]).run P w=.ok (.slice (some ⟨g,off,none⟩) (n+m) cap) (w.setRow g (cur.toList.take (off+n*i.size)++news++cur.toList.drop (off+n*i.size+news.length)).toArray):=by
 have hf:=run_firstCells_some (P:=P) w i.size m a m c news hl hn
 have hst:=run_storeCells_at P g (off+n*i.size) S news 0 cur w hg (by simpa using hfit) h1
 simp only[Nat.add_zero] at hst
 simp[Builtin.append_,run_underlying ht,sizeOf,typeInfo,hi,Builtin.lenOf,hroom,hf,bd,hst]
theorem rR {z:Array Value} {n:Nat}:(Builtin.zeroCells z n).size=n*z.size:=size_zeroCells z n
theorem n8 {i:TypeInfo} {zv:Value} {ie:TI} (hTe:k7 P e ie) (hi:P.info? e=some i) (hsz:i.size=ie.size) (hzr:∀φ,RelVs φ ie.z zv.cells.toList) (hR:bR I φ H nx F E w) (hk:φ k=none) (hkx:k<nx) {cs:List EV} {vs:List Value} {cap m:Nat}
  (hr:RelVs φ cs vs) (h1:∀u∈vs,u.oneCell'=true) (hl:vs.length=m*ie.size) (hc:m≤cap):cC φ I F E k nx (.sl k 0 m ie.size .en) (H.set k (some (.cells false cs))) nx (.slice (some ⟨w.heap.size,0,none⟩) m cap) (w.drew.alloc (.cells (vs.toArray++Builtin.zeroCells zv.cells (cap - m)) e)):=by
 have hz1:=hTe.cell1 hzr
 have hzl:zv.cells.size=ie.size:=by have:=(hzr φ).length;rw[hTe.zl] at this;simpa using this
 have htot:(vs++(Builtin.zeroCells zv.cells (cap - m)).toList).length=cap*ie.size:=by
  rw[yz,hl,Array.length_toList,rR,hzl,←Nat.add_mul];congr 1;omega
 refine hR.addB (q:=⟨w.heap.size,0,cap*ie.size⟩) (A:=[(w.heap.size,.cells (vs++(Builtin.zeroCells zv.cells (cap - m)).toList).toArray e (0,0))]) hk hkx ⟨_,0,cap,yg _ _ _,rfl,hc,fun _=>rfl,by show 0+0+cap*ie.size=cap*ie.size;omega⟩
  ⟨_,e,vs,(Builtin.zeroCells zv.cells (cap - m)).toList,yg _ _ _,rfl,hr.mono (yo hk _),fun u hu=>?_,htot,(fun h=>by cases h),rfl⟩ fun L hS=>?_
 ·rcases List.mem_append.1 hu with hu|hu
  ·exact h1 u hu
  ·simp only[Builtin.zeroCells] at hu
   simp at hu
   obtain ⟨a,ha,rfl⟩:=hu
   have hp:a % zv.cells.size<zv.cells.size:=Nat.mod_lt _ (Nat.pos_of_ne_zero fun e=>by rw[e,Nat.mul_zero] at ha;omega)
   rw[getElem!_pos zv.cells (a % zv.cells.size) hp]
   exact hz1 _ (by simp)
 ·have h2:=hS.drew.alloc (.cells (vs.toArray++Builtin.zeroCells zv.cells (cap - m)) e)
  have he:(vs++(Builtin.zeroCells zv.cells (cap - m)).toList).toArray=vs.toArray++Builtin.zeroCells zv.cells (cap - m):=by apply Array.toList_inj.1;simp
  rw[he]
  exact h2
theorem tg (hT:bK P T) (hR:bR I φ H nx F E w) (hk:φ k=none) (hkx:k<nx) {x y z:EV} {H':Hp} (h:n7 T H k t x y=some (z,H')) {a c:Value} (hx:aL φ x a) (hy:aL φ y c) :
  ∃v w',(Builtin.append_ #[t,t] ty #[a,c]).run P w=.ok v w'∧cC φ I F E k nx z H' nx v w':=by
 have hB:fQ=140737488355328:=rfl
 unfold n7 at h
 split at h
 ·rename_i i hi
  split at h
  ·rename_i e hd
   have ht:=hd▸(hT t i hi).und
   split at h
   ·rename_i ie hie
    have hTe:=hT e ie hie
    obtain ⟨f,zv,f1,f2,f3,f4,f5,_⟩:=hTe.inf
    split at h
    ·rename_i m news hnews
     obtain ⟨sa,c2,nv,rfl,n1,n2,n3,n4⟩:=jE hR hnews hy
     split at h
     ·have hx:a=.slice none 0 0:=hx
      subst hx
      cases hm:Nat.beq m 0 with
      |true=>
       rw[hm] at h
       simp only[cond_true,Option.some.injEq,Prod.mk.injEq] at h
       obtain ⟨rfl,rfl⟩:=h
       have hm:=Nat.eq_of_beq_eq_true hm
       subst hm
       exact ⟨_,w,eD ht f1 (Nat.le_refl _) (fun _=>⟨rfl,rfl⟩),hR.stay rfl⟩
      |false=>
       rw[hm] at h
       simp only[cond_false] at h
       have hm0:m≠0:=fun e=>by rw[e] at hm;cases hm
       cases hb:(Nat.ble (m*ie.bytes) fQ&&Nat.ble m fQ) with
       |false=>rw[hb] at h;cases h
       |true=>
        rw[hb] at h
        simp only[cond_true,Option.some.injEq,Prod.mk.injEq] at h
        obtain ⟨rfl,rfl⟩:=h
        simp only[q1] at hb
        have b1:=Nat.le_of_ble_eq_true hb.1
        have b2:=Nat.le_of_ble_eq_true hb.2
        rcases n4 with ⟨_,h0⟩|⟨sp,rfl,hat⟩
        ·exact absurd h0 hm0
        ·have hrun:=run_append_nil (P:=P) w t ty e f zv ht f1 f4 sp m c2 nv (by rw[n2,f2]) hat (by omega) (by omega) (by rw[f3];omega)
         exact ⟨_,_,hrun,n8 hTe f1 f2 f5 hR hk hkx n1 n3 n2 (grownCap_ge _ _ _ _)⟩
     ·rename_i b off n k' cp
      obtain ⟨q,o,cap,hq,rfl,x1,x2,x3⟩:=hx
      cases hm:Nat.beq m 0 with
      |true=>
       rw[hm] at h
       simp only[cond_true,Option.some.injEq,Prod.mk.injEq] at h
       obtain ⟨rfl,rfl⟩:=h
       have hm:=Nat.eq_of_beq_eq_true hm
       subst hm
       exact ⟨_,w,eD ht f1 x1 (fun e=>by cases e),hR.stay ⟨q,o,cap,hq,rfl,x1,x2,x3⟩⟩
      |false=>
       rw[hm] at h
       simp only[cond_false] at h
       have hm0:m≠0:=fun e=>by rw[e] at hm;cases hm
       obtain ⟨sp,rfl,hat⟩:∃sp,sa=some sp∧∀(j:Nat) u,nv[j]?=some u→w.cell? (sp.add j)=some u:=by
        rcases n4 with ⟨_,h0⟩|h0
        ·exact absurd h0 hm0
        ·exact h0
       cases hb:(Nat.beq k' ie.size&&Nat.blt 0 ie.size&&Nat.ble ((n+m)*ie.bytes) fQ&&Nat.ble (n+m) fQ) with
       |false=>rw[hb] at h;cases h
       |true=>
        rw[hb] at h
        simp only[cond_true] at h
        simp only[q1] at hb
        have b0:=Nat.eq_of_beq_eq_true hb.1.1.1
        have b1:0<ie.size:=Nat.le_of_ble_eq_true hb.1.1.2
        have b2:=Nat.le_of_ble_eq_true hb.1.2
        have b3:=Nat.le_of_ble_eq_true hb.2
        subst b0
        have move:∀{cs:List EV},((H.get b).bind VO.cs?)=some cs→cap<n+m→Nat.ble (off+n*ie.size) cs.length=true →
          ∃v w',(Builtin.append_ #[t,t] ty #[.slice (some ⟨q.r,o,none⟩) n cap,.slice (some sp) m c2]).run P w=.ok v w'∧cC φ I F E k nx (.sl k 0 (n+m) ie.size .en) (H.set k (some (.cells false ((cs.drop off).take (n*ie.size)++news)))) nx v w':=fun {cs} hcs hlt hle=>by
         obtain ⟨vs,g1,g2,g3,g4⟩:=dN (n:=n*ie.size) (off:=off) (l:=(cs.drop off).take (n*ie.size)) hR (by unfold cellsOf;rw[hcs];dsimp only;rw[hle];rfl) hq
         have hrun:=run_append_grow (P:=P) w t ty e f zv ht f1 f4 ⟨q.r,o,none⟩ n cap vs (by rw[g2,f2]) (fun j v hj=>by
          have hjl:=(List.getElem?_eq_some_iff.1 hj).1
          have hn0:n≠0:=fun e=>by rw[g2,e,Nat.zero_mul] at hjl;omega
          rw[bd,x2 (by omega)]
          exact g4 j v hj) sp m c2 nv (by rw[n2,f2]) hat hlt (by omega) (growslice_fits hlt (by rw[f3];omega))
         refine ⟨_,_,hrun,?_⟩
         have he:(vs.toArray++nv.toArray:Array Value)=(vs++nv).toArray:=by simp
         rw[he]
         exact n8 hTe f1 f2 f5 hR hk hkx (g1.append n1) (fun u hu=>(List.mem_append.1 hu).elim (g3 u) (n3 u)) (by rw[yz,g2,n2,Nat.add_mul]) (grownCap_ge _ _ _ _)
        split at h
        ·rename_i ex cs hcs
         have hcs2:(H.get b).bind VO.cs?=some cs:=by rw[hcs];rfl
         cases hin:(wK (n+m) cp&&Nat.ble (off+(n+m)*ie.size) cs.length) with
         |true=>
          rw[hin] at h
          simp only[cond_true,Option.some.injEq,Prod.mk.injEq] at h
          obtain ⟨rfl,rfl⟩:=h
          simp only[q1] at hin
          have i2:=Nat.le_of_ble_eq_true hin.2
          obtain ⟨A,L,hBb,hr,hS⟩:=hR.pick hcs
          obtain ⟨q',S,vs,junk,y1,y2,y3,y4,y5,y6,rfl⟩:=hBb
          rw[hq] at y1;cases y1
          have hown:=hS.own _ (.head _)
          simp only at hown
          have hmul:(n+m)*ie.size=n*ie.size+m*ie.size:=Nat.add_mul _ _ _
          have hvl:=y3.length
          have hcap:n+m≤cap:=by
           cases cp with
           |ex c3=>
            have x3:cap=c3:=x3
            have:=Nat.le_of_ble_eq_true hin.1
            omega
           |en=>
            have x3:q.sh+off+cap*ie.size=q.κ:=x3
            rw[yz] at y5
            have:(n+m)*ie.size≤cap*ie.size:=by omega
            exact Nat.le_of_mul_le_mul_right this b1
           |un=>cases hin.1
          have ho:o=off:=by rw[x2 (by omega),y2,Nat.zero_add]
          subst ho
          have hrun:=eb (P:=P) (ty:=ty) ht f1 (off:=o) (n:=n) (cap:=cap) (m:=m) (c:=c2) hown (by rw[n2,f2]) hat n3 hcap (by rw[f2,n2];simp;omega)
          rw[f2,n2] at hrun
          have hcells:(vs++junk).toArray.toList.take (o+n*ie.size)++nv++(vs++junk).toArray.toList.drop (o+n*ie.size+m*ie.size)=(vs.take (o+n*ie.size)++nv++vs.drop (o+(n+m)*ie.size))++junk:=by
           simp only
           rw[List.take_append_of_le_length (by omega),List.drop_append_of_le_length (by omega),hmul,Nat.add_assoc]
           simp
          rw[hcells] at hrun
          refine ⟨_,_,hrun,?_⟩
          refine ⟨I,φ,.refl _,.refl _,fun _ _ _=>Z,Nat.le_refl _,⟨q,o,cap,hq,Z,hcap,x2,x3⟩,yn hr ⟨q,S,vs.take (o+n*ie.size)++nv++vs.drop (o+(n+m)*ie.size),junk,hq,y2,((y3.take _).append n1).append (y3.drop _),fun u hu=>?_,?_,y6,Z⟩ hS.turn1 hR.top⟩
          ·rcases List.mem_append.1 hu with hu|hu
           ·rcases List.mem_append.1 hu with hu|hu
            ·rcases List.mem_append.1 hu with hu|hu
             ·exact y4 u (List.mem_append_left _ (List.mem_of_mem_take hu))
             ·exact n3 u hu
            ·exact y4 u (List.mem_append_left _ (List.mem_of_mem_drop hu))
           ·exact y4 u (List.mem_append_right _ hu)
          ·rw[←y5]
           simp only[yz,List.length_take,List.length_drop,n2]
           omega
         |false=>
          rw[hin] at h
          simp only[cond_false] at h
          split at h
          ·rename_i c3
           have x3:cap=c3:=x3
           subst x3
           cases hb5:(Nat.blt cap (n+m)&&Nat.ble (off+n*ie.size) cs.length) with
           |false=>rw[hb5] at h;cases h
           |true=>
            rw[hb5] at h
            simp only[cond_true,Option.some.injEq,Prod.mk.injEq] at h
            obtain ⟨rfl,rfl⟩:=h
            simp only[q1] at hb5
            exact move hcs2 (Nat.le_of_ble_eq_true hb5.1) hb5.2
          ·cases hb5:(Nat.beq off 0&&Nat.beq (n*ie.size) cs.length) with
           |false=>rw[hb5] at h;cases h
           |true=>
            rw[hb5] at h
            simp only[cond_true,Option.some.injEq,Prod.mk.injEq] at h
            obtain ⟨rfl,rfl⟩:=h
            simp only[q1] at hb5
            have c1:=Nat.eq_of_beq_eq_true hb5.1
            have c4:=Nat.eq_of_beq_eq_true hb5.2
            subst c1
            obtain ⟨A,L,hBb,hr,hS⟩:=hR.pick hcs
            obtain ⟨q',S,vs,junk,y1,y2,y3,y4,y5,y6,rfl⟩:=hBb
            rw[hq] at y1;cases y1
            have hown:=hS.own _ (.head _)
            simp only at hown
            have hvl:=y3.length
            have x3:q.sh+0+cap*ie.size=q.κ:=x3
            by_cases hcap:n+m≤cap
            ·have ho:o=0:=by rw[x2 (by omega),y2]
             subst ho
             have hmul:(n+m)*ie.size=n*ie.size+m*ie.size:=Nat.add_mul _ _ _
             have hle:(n+m)*ie.size≤cap*ie.size:=Nat.mul_le_mul_right _ hcap
             have hjl:vs.length+junk.length=cap*ie.size:=by rw[←yz,y5];omega
             have hrun:=eb (P:=P) (ty:=ty) ht f1 (off:=0) (n:=n) (cap:=cap) (m:=m) (c:=c2) hown (by rw[n2,f2]) hat n3 hcap (by rw[f2,n2];simp;omega)
             rw[f2,n2] at hrun
             have hcells:(vs++junk).toArray.toList.take (0+n*ie.size)++nv++(vs++junk).toArray.toList.drop (0+n*ie.size+m*ie.size)=(vs++nv)++junk.drop (m*ie.size):=by
              have e1:0+n*ie.size=vs.length:=by omega
              simp only[e1]
              rw[List.take_left,List.drop_append,List.drop_eq_nil_of_le (by omega:vs.length≤vs.length+m*ie.size)]
              simp
             rw[hcells] at hrun
             refine ⟨_,_,hrun,I,φ.put k ⟨q.r,0,q.κ⟩,.refl _,yo hk _,fun j _ hj=>fx φ _ hj,Nat.le_refl _,⟨_,0,cap,yg _ _ _,rfl,hcap,fun _=>rfl,by show 0+0+cap*ie.size=q.κ;omega⟩,
              yn ((hr.moved hk).mono (.refl _) (yo hk _)) ⟨_,S,vs++nv,junk.drop (m*ie.size),yg _ _ _,rfl,(y3.append n1).mono (yo hk _),fun u hu=>?_,?_,(fun h=>by cases h),rfl⟩ hS.turn1 (fP hR.top hkx _)⟩
             ·rcases List.mem_append.1 hu with hu|hu
              ·rcases List.mem_append.1 hu with hu|hu
               ·exact y4 u (List.mem_append_left _ hu)
               ·exact n3 u hu
              ·exact y4 u (List.mem_append_right _ (List.mem_of_mem_drop hu))
             ·show _=q.κ
              rw[←y5]
              simp only[yz,List.length_drop,n2]
              omega
            ·have hlt:cap<n+m:=by omega
             obtain ⟨us,g1,g2,g3,g4⟩:=dN (n:=n*ie.size) (off:=0) (l:=(cs.drop 0).take (n*ie.size)) hR (by unfold cellsOf;rw[hcs2];dsimp only;rw[show Nat.ble (0+n*ie.size) cs.length=true from Nat.ble_eq_true_of_le (by omega)];rfl) hq
             have e0:(cs.drop 0).take (n*ie.size)=cs:=by rw[List.drop_zero,List.take_of_length_le (by omega)]
             rw[e0] at g1
             have hrun:=run_append_grow (P:=P) w t ty e f zv ht f1 f4 ⟨q.r,o,none⟩ n cap us (by rw[g2,f2]) (fun j v hj=>by
              have hjl:=(List.getElem?_eq_some_iff.1 hj).1
              have hn0:n≠0:=fun e=>by rw[g2,e,Nat.zero_mul] at hjl;omega
              rw[bd,x2 (by omega)]
              exact g4 j v hj) sp m c2 nv (by rw[n2,f2]) hat hlt (by omega) (growslice_fits hlt (by rw[f3];omega))
             refine ⟨_,_,hrun,?_⟩
             have he:(us.toArray++nv.toArray:Array Value)=(us++nv).toArray:=by simp
             rw[he]
             have hR2:bR I φ (H.set b none) nx F E w:=bR.gone hr hS.dropAll hR.top
             exact n8 hTe f1 f2 f5 hR2 hk hkx (g1.append n1) (fun u hu=>(List.mem_append.1 hu).elim (g3 u) (n3 u)) (by rw[yz,g2,n2,Nat.add_mul]) (grownCap_ge _ _ _ _)
          ·cases h
        ·rename_i cs hcs
         have hcs2:(H.get b).bind VO.cs?=some cs:=by rw[hcs];rfl
         split at h
         ·rename_i c3
          have x3:cap=c3:=x3
          subst x3
          cases hb5:(Nat.blt cap (n+m)&&Nat.ble (off+n*ie.size) cs.length) with
          |false=>rw[hb5] at h;cases h
          |true=>
           rw[hb5] at h
           simp only[cond_true,Option.some.injEq,Prod.mk.injEq] at h
           obtain ⟨rfl,rfl⟩:=h
           simp only[q1] at hb5
           exact move hcs2 (Nat.le_of_ble_eq_true hb5.1) hb5.2
         ·cases h
        ·cases h
     ·cases h
    ·cases h
   ·cases h
  ·cases h
 ·cases h
end
end
section
open Go.Proofs
section
variable {φ:bD}
theorem bJ.push:∀{es:List (EV × EV)} {ms:List MapEntry},bJ φ es ms→∀{k v:EV} {e:MapEntry},aL φ k e.key→aL φ v e.val→bJ φ (es++[(k,v)]) (ms++[e])
 |[],_,h,k,v,e,h1,h2=>by have h:_=[]:=h;subst h;exact ⟨e,[],rfl,h1,h2,rfl⟩
 |_::_,_,⟨e',r,a,b,c,d⟩,k,v,e,h1,h2=>by subst a;exact ⟨e',_,rfl,b,c,bJ.push d h1 h2⟩
theorem bJ.set:∀{es:List (EV × EV)} {ms:List MapEntry} (j:Nat),bJ φ es ms→∀{k v:EV} {e:MapEntry},aL φ k e.key→aL φ v e.val→bJ φ (es.set j (k,v)) (ms.set j e)
 |[],_,_,h,k,v,e,h1,h2=>by have h:_=[]:=h;subst h;exact rfl
 |_::_,_,0,⟨e',r,a,b,c,d⟩,k,v,e,h1,h2=>by subst a;exact ⟨e,_,rfl,h1,h2,d⟩
 |_::_,_,j+1,⟨e',r,a,b,c,d⟩,k,v,e,h1,h2=>by subst a;exact ⟨e',_,rfl,b,c,bJ.set j d h1 h2⟩
end
noncomputable def n9 (T:TT) (H:Hp) (k t u:Nat) (x y:EV):Option (EV × Hp):=
 match T t,T u with
 |some i,some iu=>match i.d,iu.d,x,y with
  |.slice e,.int _,.ns,.i _ n=>match T e,eW n with
   |some ie,some m=>bif Nat.blt 0 m&&Nat.blt 0 ie.size&&Nat.ble (m*ie.bytes) fQ&&Nat.ble m fQ then some (.sl k 0 m ie.size .en,H.set k (some (.cells false (me m ie.z)))) else none
   |_,_=>none
  |_,_,_,_=>none
 |_,_=>none
noncomputable def lh (T:TT) (H:Hp) (t:Nat) (x y:EV):Option (EV × Hp):=
 match T t with
 |some i=>match i.d,x with
  |.slice e,.sl b off n k' _=>match T e with
   |some ie=>match n6 H y ie.size,H.get b with
    |some (m,news),some (.cells ex cs)=>bif Nat.beq (Nat.min m n) 0 then some (.i .i64 0,H) else bif Nat.beq k' ie.size&&Nat.blt 0 ie.size&&Nat.blt 0 (Nat.min m n)&&Nat.ble (off+Nat.min m n*ie.size) cs.length then
      some (.i .i64 (Nat.min m n),H.set b (some (.cells ex (cs.take off++news.take (Nat.min m n*ie.size)++cs.drop (off+Nat.min m n*ie.size))))) else none
    |_,_=>none
   |none=>none
  |_,_=>none
 |none=>none
noncomputable def th (T:TT) (g:Nat→EV) (H:Hp) (t:TypeId) (m y z:Operand):Option (EV × Hp):=match T t,bw g m,bw g y,bw g z with
 |some i,some (.m b),some key,some v=>match i.d,H.get b with
  |.map kt _,some (.mp es)=>match T kt with
   |some ik=>match gx T kt ik key es with
    |some (some (j,_))=>some (.u,H.set b (some (.mp (es.set j (key,v)))))
    |some none=>some (.u,H.set b (some (.mp (es++[(key,v)]))))
    |none=>none
   |none=>none
  |_,_=>none
 |_,_,_,_=>none
noncomputable def tj (T:TT) (g:Nat→EV) (H:Hp) (t:TypeId) (m y:Operand):Option (EV × Hp):=match T t,bw g m,bw g y with
 |some i,some (.m b),some key=>match i.d,H.get b with
  |.map kt et,some (.mp es)=>match T kt,T et with
   |some ik,some ie=>match gx T kt ik key es with
    |some (some (j,v))=>some (.tu [v,.i .i64 j],H.set b (some (.mp (es.set j (key,v)))))
    |some none=>some (.tu [ie.v,.i .i64 es.length],H.set b (some (.mp (es++[(key,ie.v)]))))
    |none=>none
   |_,_=>none
  |_,_=>none
 |_,_,_=>none
noncomputable def tk (g:Nat→EV) (H:Hp) (m s z:Operand):Option (EV × Hp):=match bw g m,bw g s,bw g z with
 |some (.m b),some (.i .i64 n),some v=>match H.get b,eW n with
  |some (.mp es),some j=>match es[j]? with
   |some e=>some (.u,H.set b (some (.mp (es.set j (e.1,v)))))
   |none=>none
  |_,_=>none
 |_,_,_=>none
theorem gJ.push {ms:List MapEntry} {e:MapEntry} (h:gJ ms) (he:e.born=ms.length):gJ (ms++[e]):=fun j x hx=>by
 rcases Nat.lt_trichotomy j ms.length with q|q|q
 ·rw[List.getElem?_append_left q] at hx;exact h j x hx
 ·subst q
  rw[List.getElem?_append_right (Nat.le_refl _)] at hx
  simp at hx
  subst hx;exact he
 ·rw[List.getElem?_eq_none (by simp;omega)] at hx;cases hx
theorem gJ.set {ms:List MapEntry} {e e0:MapEntry} {i:Nat} (h:gJ ms) (h0:ms[i]?=some e0) (he:e.born=e0.born):gJ (ms.set i e):=fun j x hx=>by
 by_cases q:i=j
 ·subst q
  rw[List.getElem?_set_self (List.getElem?_eq_some_iff.1 h0).1] at hx
  cases hx
  rw[he];exact h _ _ h0
 ·rw[List.getElem?_set_ne q] at hx;exact h j x hx
theorem bJ.len {φ:bD}:∀{es:List (EV × EV)} {ms:List MapEntry},bJ φ es ms→es.length=ms.length
 |[],ms,h=>by
  have h:ms=[]:=h
  subst h;rfl
 |_::_,_,⟨e,r,a,_,_,d⟩=>by subst a;simp[bJ.len d]
theorem bJ.at {φ:bD}:∀{es:List (EV × EV)} {ms:List MapEntry} (j:Nat) {e:EV × EV},bJ φ es ms→es[j]?=some e→∃x,ms[j]?=some x∧aL φ e.1 x.key∧aL φ e.2 x.val
 |[],_,_,_,_,h=>by cases h
 |_::_,_,0,_,⟨e,r,a,b,c,_⟩,h=>by subst a;cases h;exact ⟨e,rfl,b,c⟩
 |_::_,_,j+1,_,⟨e,r,a,_,_,d⟩,h=>by subst a;exact bJ.at j d h
theorem li {ms:List MapEntry} {j:Nat} {e:MapEntry} {f:MapEntry→MapEntry} (h:ms[j]?=some e):ms.toArray.modify j f=(ms.set j (f e)).toArray:=by
 have hjl:=(List.getElem?_eq_some_iff.1 h).1
 apply Array.ext_getElem?
 intro p
 rw[Array.getElem?_modify,List.getElem?_toArray,List.getElem?_toArray]
 by_cases hp:j=p
 ·subst hp
  rw[if_pos rfl,h,List.getElem?_set_self hjl];rfl
 ·rw[if_neg hp,List.getElem?_set_ne hp]
theorem gJ.find {ms:List MapEntry} (h:gJ ms) {j:Nat} (hj:j<ms.length):ms.toArray.findIdx? (fun e=>(e.born:Int) == (j:Int))=some j:=by
 rw[List.findIdx?_toArray,List.findIdx?_eq_some_iff_getElem]
 refine ⟨hj,?_,fun i hi=>?_⟩
 ·have:=h j _ (yt hj);simp[this]
 ·have:=h i _ (yt (Nat.lt_trans hi hj));simp[this];omega
noncomputable def xj (T:TT) (g:Nat→EV) (H:Hp) (k:Nat) (op:Op):Option (EV × Hp):=
 match op with
 |.store t x y=>match T t,bw g x,bw g y with
  |some i,some (.p b off),some a=>match H.get b with
   |some (.cells ex cs)=>bif a.sto&&a.cs.all EV.cell&&Nat.beq a.cs.length i.size&&Nat.ble (off+i.size) cs.length then some (.u,H.set b (some (.cells ex (cs.take off++a.cs++cs.drop (off+i.size))))) else none
   |_=>none
  |_,_,_=>none
 |.next x true=>match bw g x with
  |some (.p b off)=>match H.get b with
   |some (.it s p)=>bif Nat.beq off 0 then
     match s.data.toList[p]? with
     |some c=>bif Nat.blt c.toNat 128 then some (.tu [.b true,.i .i64 p,.i .i32 c.toNat],H.set b (some (.it s (p+1)))) else none
     |none=>some (.tu [.b false],H)
    else none
   |_=>none
  |_=>none
 |.mapUpdate t m y z=>th T g H t m y z
 |.mapEntry t m y=>tj T g H t m y
 |.entryStore _ m s z=>tk g H m s z
 |.call ⟨.builtin .append,ar,ts⟩=>match ar.toList,ts.toList with
  |[x,y],[t,u]=>match bw g x,bw g y with
   |some a,some c=>bif Nat.beq t u then n7 T H k t a c else n9 T H k t u a c
   |_,_=>none
  |_,_=>none
 |.call ⟨.builtin .copy,ar,ts⟩=>match ar.toList,ts.toList with
  |[x,y],[t,_]=>match bw g x,bw g y with
   |some a,some c=>lh T H t a c
   |_,_=>none
  |_,_=>none
 |_=>none
noncomputable def yV (T:TT) (g:Nat→EV) (H:Hp) (t:TypeId) (x y:Operand):Option (EV × Hp):=match T t,bw g x,bw g y with
 |some i,some (.p b off),some a=>match H.get b with
  |some (.cells ex cs)=>bif a.sto&&a.cs.all EV.cell&&Nat.beq a.cs.length i.size&&Nat.ble (off+i.size) cs.length then some (.u,H.set b (some (.cells ex (cs.take off++a.cs++cs.drop (off+i.size))))) else none
  |_=>none
 |_,_,_=>none
noncomputable def yW (g:Nat→EV) (H:Hp) (x:Operand) (s:Bool):Option (EV × Hp):=match s with
 |true=>match bw g x with
  |some (.p b off)=>match H.get b with
   |some (.it s p)=>bif Nat.beq off 0 then
     match s.data.toList[p]? with
     |some c=>bif Nat.blt c.toNat 128 then some (.tu [.b true,.i .i64 p,.i .i32 c.toNat],H.set b (some (.it s (p+1)))) else none
     |none=>some (.tu [.b false],H)
    else none
   |_=>none
  |_=>none
 |false=>none
noncomputable def yX (T:TT) (g:Nat→EV) (H:Hp) (k:Nat) (ar:Array Operand) (ts:Array TypeId):Option (EV × Hp):=match ar.toList,ts.toList with
 |[x,y],[t,u]=>match bw g x,bw g y with
  |some a,some c=>bif Nat.beq t u then n7 T H k t a c else n9 T H k t u a c
  |_,_=>none
 |_,_=>none
noncomputable def yY (T:TT) (g:Nat→EV) (H:Hp) (ar:Array Operand) (ts:Array TypeId):Option (EV × Hp):=match ar.toList,ts.toList with
 |[x,y],[t,_]=>match bw g x,bw g y with
  |some a,some c=>lh T H t a c
  |_,_=>none
 |_,_=>none
noncomputable def yZ (T:TT) (g:Nat→EV) (H:Hp) (k:Nat) (b:Builtin) (ar:Array Operand) (ts:Array TypeId):Option (EV × Hp):=match b with
 |.append=>yX T g H k ar ts
 |.copy=>yY T g H ar ts
 |_=>none
noncomputable def zA (T:TT) (g:Nat→EV) (H:Hp) (k:Nat) (c:Call):Option (EV × Hp):=match c with
 |⟨.builtin b,ar,ts⟩=>yZ T g H k b ar ts
 |_=>none
noncomputable def zB (T:TT) (g:Nat→EV) (H:Hp) (k:Nat) (op:Op):Option (EV × Hp):=
 match op with
 |.store t x y=>yV T g H t x y
 |.next x s=>yW g H x s
 |.mapUpdate t m y z=>th T g H t m y z
 |.mapEntry t m y=>tj T g H t m y
 |.entryStore _ m s z=>tk g H m s z
 |.call c=>zA T g H k c
 |_=>none
theorem xk (T:TT) (g:Nat→EV) (H:Hp) (k:Nat) (op:Op):zB T g H k op=xj T g H k op:=by
 cases op<;>try rfl
 case next x s=>cases s<;>rfl
 case call c=>
  obtain ⟨cl,ar,ts⟩:=c
  cases cl<;>try rfl
  rename_i b
  cases b<;>rfl
section
variable {P:Program} {φ:bD} {g:Nat→EV} {ρ:bn} {w:World} {T:TT} {I:aF} {H:Hp} {k nx:Nat} {F:List (Nat × Obj)} {E:World}
theorem tm {t u:Nat} {ty:TypeId} (hT:bK P T) (hR:bR I φ H nx F E w) (hk:φ k=none) (hkx:k<nx) {x y z:EV} {H':Hp} (h:n9 T H k t u x y=some (z,H')) {a c:Value} (hx:aL φ x a) (hy:aL φ y c) :
  ∃v w',(Builtin.append_ #[t,u] ty #[a,c]).run P w=.ok v w'∧cC φ I F E k nx z H' nx v w':=by
 have hB:fQ=140737488355328:=rfl
 unfold n9 at h
 split at h
 ·rename_i i iu hi hiu
  split at h
  ·rename_i e ku k2 n hd hdu
   have ht:=hd▸(hT t i hi).und
   have hu:=hdu▸(hT u iu hiu).und
   have hx:a=.slice none 0 0:=hx
   have hy:c=.int k2 n:=hy
   subst hx hy
   split at h
   ·rename_i ie m hie hm
    have hm:=dL hm
    subst hm
    have hTe:=hT e ie hie
    obtain ⟨f,zv,f1,f2,f3,f4,f5,_⟩:=hTe.inf
    cases hb:(Nat.blt 0 m&&Nat.blt 0 ie.size&&Nat.ble (m*ie.bytes) fQ&&Nat.ble m fQ) with
    |false=>rw[hb] at h;cases h
    |true=>
     rw[hb] at h
     simp only[cond_true,Option.some.injEq,Prod.mk.injEq] at h
     obtain ⟨rfl,rfl⟩:=h
     simp only[q1] at hb
     have b0:0<m:=Nat.le_of_ble_eq_true hb.1.1.1
     have b1:0<ie.size:=Nat.le_of_ble_eq_true hb.1.1.2
     have b2:=Nat.le_of_ble_eq_true hb.1.2
     have b3:=Nat.le_of_ble_eq_true hb.2
     have hz1:=hTe.cell1 f5
     have hzl:zv.cells.toList.length=ie.size:=by rw[(f5 φ).length,hTe.zl]
     have hrun:=Go.Lib.run_append_nil_zeros (P:=P) w t u ty e f zv k2 ku ht hu f1 f4 m b0 (by rw[f2];exact b1) (by omega) (by rw[f3];omega)
     have hzc:Builtin.zeroCells zv.cells m=(List.replicate m zv.cells.toList).flatten.toArray:=by
      have:=eX zv.cells.toList m (by omega) hz1
      rw[Array.toArray_toList] at this
      rw[←this,Array.length_toList];rfl
     rw[hzc] at hrun
     exact ⟨_,_,hrun,n8 hTe f1 f2 f5 hR hk hkx ((f5 φ).flatR m) (fun u hu=>by
      obtain ⟨r,hr,hu⟩:=List.mem_flatten.1 hu
      rw[List.eq_of_mem_replicate hr] at hu
      exact hz1 u hu) (by simp[hzl]) (grownCap_ge _ _ _ _)⟩
   ·cases h
  ·cases h
 ·cases h
theorem rS {t u:Nat} {ty:TypeId} (hT:bK P T) (hR:bR I φ H nx F E w) {x y z:EV} {H':Hp} (h:lh T H t x y=some (z,H')) {a c:Value} (hx:aL φ x a) (hy:aL φ y c) :
  ∃v w',(Builtin.copy_ #[t,u] ty #[a,c]).run P w=.ok v w'∧cC φ I F E k nx z H' nx v w':=by
 unfold lh at h
 split at h
 ·rename_i i hi
  split at h
  ·rename_i e b off n k' cp hd
   have ht:=hd▸(hT t i hi).und
   split at h
   ·rename_i ie hie
    have hTe:=hT e ie hie
    split at h
    ·rename_i m news ex cs hnews hcs
     obtain ⟨q,hqe⟩:∃q,Nat.min m n=q:=⟨_,rfl⟩
     rw[hqe] at h
     have hq1:q≤m:=hqe▸Nat.min_le_left m n
     have hq2:q≤n:=hqe▸Nat.min_le_right m n
     cases hq0:Nat.beq q 0 with
     |true=>
      rw[hq0] at h
      simp only[cond_true,Option.some.injEq,Prod.mk.injEq] at h
      obtain ⟨rfl,rfl⟩:=h
      have hq0:=Nat.eq_of_beq_eq_true hq0
      subst hq0
      obtain ⟨pb,o,cap,hq,rfl,x1,x2,x3⟩:=hx
      obtain ⟨sa,c2,nv,rfl,n1,n2,n3,n4⟩:=jE hR hnews hy
      refine ⟨.int .i64 0,w,?_,hR.stay Z⟩
      cases sa<;>simp[Builtin.copy_,run_underlying ht,hTe.sz,Builtin.lenOf,hqe,Builtin.firstCells,loadCells,loadCellsFrom,storeCells,goInt,Result.andThen]
     |false=>
     rw[hq0] at h
     simp only[cond_false] at h
     cases hb:(Nat.beq k' ie.size&&Nat.blt 0 ie.size&&Nat.blt 0 q&&Nat.ble (off+q*ie.size) cs.length) with
     |false=>rw[hb] at h;cases h
     |true=>
      rw[hb] at h
      simp only[cond_true,Option.some.injEq,Prod.mk.injEq] at h
      obtain ⟨rfl,rfl⟩:=h
      simp only[q1] at hb
      have b0:=Nat.eq_of_beq_eq_true hb.1.1.1
      have b1:0<ie.size:=Nat.le_of_ble_eq_true hb.1.1.2
      have b2:0<q:=Nat.le_of_ble_eq_true hb.1.2
      have b3:=Nat.le_of_ble_eq_true hb.2
      subst b0
      obtain ⟨pb,o,cap,hq,rfl,x1,x2,_⟩:=hx
      obtain ⟨sa,c2,nv,rfl,n1,n2,n3,n4⟩:=jE hR hnews hy
      obtain ⟨sp,rfl,hat⟩:∃sp,sa=some sp∧∀(j:Nat) u,nv[j]?=some u→w.cell? (sp.add j)=some u:=by
       rcases n4 with ⟨_,h0⟩|h0
       ·omega
       ·exact h0
      have hmul:q*ie.size≤m*ie.size:=Nat.mul_le_mul_right _ hq1
      have hnl:(nv.take (q*ie.size)).length=q*ie.size:=by rw[List.length_take,n2];omega
      have hf:=run_firstCells_some (P:=P) w ie.size q sp m c2 (nv.take (q*ie.size)) hnl (fun j v hj=>hat j v (by
       have:=(List.getElem?_eq_some_iff.1 hj).1
       rw[hnl] at this
       rwa [List.getElem?_take_of_lt this] at hj))
      obtain ⟨A,L,hBb,hr,hS⟩:=hR.pick hcs
      obtain ⟨q',S,vs,junk,y1,y2,y3,y4,y5,y6,rfl⟩:=hBb
      rw[hq] at y1;cases y1
      have hvl:=y3.length
      have ho:o=off:=by rw[x2 (by omega),y2,Nat.zero_add]
      subst ho
      have hst:=kQ (P:=P) (w:=w) (b:=pb.r) (off:=o) (n:=q*ie.size) (T:=S) (old:=vs++junk) (vs:=nv.take (q*ie.size)) hnl (fun u hu=>n3 u (List.mem_of_mem_take hu)) (by rw[yz];omega) (hS.own _ (.head _))
      have hcells:(vs++junk).take o++nv.take (q*ie.size)++(vs++junk).drop (o+q*ie.size)=(vs.take o++nv.take (q*ie.size)++vs.drop (o+q*ie.size))++junk:=by
       rw[List.take_append_of_le_length (by omega),List.drop_append_of_le_length (by omega)]
       simp
      rw[hcells] at hst
      refine ⟨.int .i64 q,_,?_,I,φ,.refl _,.refl _,fun _ _ _=>Z,Nat.le_refl _,Z,yn hr ⟨pb,S,vs.take o++nv.take (q*ie.size)++vs.drop (o+q*ie.size),junk,hq,y2,((y3.take _).append (n1.take _)).append (y3.drop _),fun u hu=>?_,?_,y6,Z⟩ hS.turn1 hR.top⟩
      ·simp[Builtin.copy_,run_underlying ht,hTe.sz,Builtin.lenOf,hqe,hf,hst,goInt,Result.andThen]
      ·rcases List.mem_append.1 hu with hu|hu
       ·rcases List.mem_append.1 hu with hu|hu
        ·rcases List.mem_append.1 hu with hu|hu
         ·exact y4 u (List.mem_append_left _ (List.mem_of_mem_take hu))
         ·exact n3 u (List.mem_of_mem_take hu)
        ·exact y4 u (List.mem_append_left _ (List.mem_of_mem_drop hu))
       ·exact y4 u (List.mem_append_right _ hu)
      ·rw[←y5]
       simp only[yz,List.length_drop,hnl,List.length_take,n2] at *
       omega
    ·cases h
   ·cases h
  ·cases h
 ·cases h
theorem cQ.val {o:Oper} {K:Value→World→Prop} {v:Value} {w':World} (h:(execOp (ev ρ) o).run P w=.ok (.value v) w') (hk:K v w'):cQ P o ρ w K:=by
 unfold cQ;rw[h];exact hk
theorem cQ.skp {o:Oper} {K:Value→World→Prop} {w':World} (h:(execOp (ev ρ) o).run P w=.ok .skip w') (hk:K undef w'):cQ P o ρ w K:=by
 unfold cQ;rw[h];exact hk
theorem vj (hT:bK P T) (hg:cP φ g ρ) (hR:bR I φ H nx F E w) (hk:φ k=none) (hkx:k<nx) {o:Oper} {x:EV} {H':Hp} (h:xj T g H k o.op=some (x,H')):cQ P o ρ w (cC φ I F E k nx x H' nx):=by
 obtain ⟨dst,op,ty,pos,af,gu⟩:=o
 dsimp only at h
 unfold xj at h
 split at h
 ·rename_i t x' y'
  split at h
  ·rename_i i b off a hi hx hy
   have hTi:=hT t i hi
   obtain ⟨q,hq,hxv⟩:=aG hg hx
   have hyv:=aG hg hy
   split at h
   ·rename_i ex cs hcs
    cases hb:(a.sto&&a.cs.all EV.cell&&Nat.beq a.cs.length i.size&&Nat.ble (off+i.size) cs.length) with
    |false=>rw[hb] at h;cases h
    |true=>
     rw[hb] at h
     simp only[cond_true,Option.some.injEq,Prod.mk.injEq] at h
     obtain ⟨rfl,rfl⟩:=h
     simp only[q1] at hb
     have b1:=hb.1.1.1
     have b2:=hb.1.1.2
     have b3:=Nat.eq_of_beq_eq_true hb.1.2
     have b4:=Nat.le_of_ble_eq_true hb.2
     have hr:=EV.cs_rel hyv b1
     have h1:=EV.cells_rel hr b2
     obtain ⟨A,L,hBb,hrest,hS⟩:=hR.pick hcs
     obtain ⟨q',S,vs,junk,y1,y2,y3,y4,y5,y6,rfl⟩:=hBb
     rw[hq] at y1;cases y1
     have hvl:=y3.length
     have hrun:=eK (P:=P) (t:=t) (b:=q.r) (off:=off) (v:=ev ρ y') (vs:=(ev ρ y').cells.toList) (old:=vs++junk) (w:=w) hTi.sz (by simp) (by rw[hr.length,b3]) h1 (by rw[yz];omega) (hS.own _ (.head _))
     have hcells:(vs++junk).take off++(ev ρ y').cells.toList++(vs++junk).drop (off+i.size)=(vs.take off++(ev ρ y').cells.toList++vs.drop (off+i.size))++junk:=by
      rw[List.take_append_of_le_length (by omega),List.drop_append_of_le_length (by omega)]
      simp
     rw[hcells] at hrun
     refine cQ.skp (w':=w.setRow q.r ((vs.take off++(ev ρ y').cells.toList++vs.drop (off+i.size))++junk).toArray) ?_ ⟨I,φ,.refl _,.refl _,fun _ _ _=>Z,Nat.le_refl _,trivial,yn hrest ⟨q,S,_,junk,hq,y2,((y3.take off).append hr).append (y3.drop _),fun u hu=>?_,?_,y6,Z⟩ hS.turn1 hR.top⟩
     ·simp only[execOp,hxv]
      rw[y2,Nat.zero_add,Sem.run_bind,hrun];rfl
     ·rcases List.mem_append.1 hu with hu|hu
      ·rcases List.mem_append.1 hu with hu|hu
       ·rcases List.mem_append.1 hu with hu|hu
        ·exact y4 u (List.mem_append_left _ (List.mem_of_mem_take hu))
        ·exact h1 u hu
       ·exact y4 u (List.mem_append_left _ (List.mem_of_mem_drop hu))
      ·exact y4 u (List.mem_append_right _ hu)
     ·have hl2:=hr.length
      rw[←y5]
      simp only[yz,List.length_take,List.length_drop,hl2]
      omega
   ·cases h
  ·cases h
 ·rename_i x'
  split at h
  ·rename_i b off hx
   obtain ⟨q,hq,hxv⟩:=aG hg hx
   split at h
   ·rename_i s p hsp
    obtain ⟨A,L,hBb,hrest,hS⟩:=hR.pick hsp
    obtain ⟨q',y1,y2,rfl⟩:=hBb
    rw[hq] at y1;cases y1
    have hb:=hS.own _ (.head _)
    simp only at hb
    cases ho:Nat.beq off 0 with
    |false=>rw[ho] at h;cases h
    |true=>
     rw[ho] at h
     have ho:=Nat.eq_of_beq_eq_true ho
     subst ho
     have hxv:ev ρ x'=.pointer (some ⟨q.r,0,none⟩):=by rw[hxv,y2]
     simp only[cond_true] at h
     have hsz:s.size=s.data.toList.length:=by rw[Array.length_toList];rfl
     split at h
     ·rename_i c hc
      cases hc2:Nat.blt c.toNat 128 with
      |false=>rw[hc2] at h;cases h
      |true=>
       rw[hc2] at h
       simp only[cond_true,Option.some.injEq,Prod.mk.injEq] at h
       obtain ⟨rfl,rfl⟩:=h
       have hc2:c.toNat<128:=Nat.le_of_ble_eq_true hc2
       have hd:=fB (s:=s) (p:=p) (b:=c) (by rw[←Array.getElem?_toList];exact hc) hc2
       have hp:p<s.size:=by rw[hsz];exact (List.getElem?_eq_some_iff.1 hc).1
       refine cQ.val (v:=.tuple #[.bool true,.int .i64 p,.int .i32 c.toNat]) (w':={ w with heap:=w.heap.setIfInBounds q.r (.stringIter s (p+1)) }) ?_ ⟨I,φ,.refl _,.refl _,fun _ _ _=>Z,Nat.le_refl _,⟨[_,_,_],Z,_,_,Z,Z,_,_,Z,Z,_,_,Z,Z,Z⟩,yn hrest ⟨q,hq,y2,Z⟩ (hS.turn Z Z Z ?_ ?_) hR.top⟩
       ·simp[execOp,Instr.next,hxv,cS hb,eI hb,Result.andThen,hp,goInt,hd]
       ·simp[cK hb]
       ·intro j hj;simp[Array.getElem?_setIfInBounds,Ne.symm hj]
     ·rename_i hc
      simp only[Option.some.injEq,Prod.mk.injEq] at h
      obtain ⟨rfl,rfl⟩:=h
      have hp:¬p<s.size:=by rw[hsz];exact fun hlt=>by rw[yt hlt] at hc;cases hc
      refine cQ.val (v:=.tuple #[.bool false]) (w':=w) ?_ (hR.stay ⟨[_],Z,_,_,Z,Z,Z⟩)
      simp[execOp,Instr.next,hxv,cS hb,Result.andThen,hp]
   ·cases h
  ·cases h
 ·rename_i t m' y' z'
  unfold th at h
  split at h
  ·rename_i i b key v hi hx hy hz
   obtain ⟨q,hq,hxv⟩:=aG hg hx
   have hyv:=aG hg hy
   have hzv:=aG hg hz
   split at h
   ·rename_i kt et es hd hes
    have hu:=hd▸(hT t i hi).und
    split at h
    ·rename_i ik hik
     obtain ⟨A,L,hBb,hrest,hS⟩:=hR.pick hes
     obtain ⟨q',ms,y1,y2,rfl⟩:=hBb
     rw[hq] at y1;cases y1
     have hb2:=hS.own _ (.head _)
     simp only at hb2
     have fin:∀(es':List (EV × EV)) (ms':List MapEntry) (clock':Nat),bJ φ es' ms'→gJ ms'→clock'=ms'.length→(execOp (ev ρ) (Oper.mk dst (.mapUpdate t m' y' z') ty pos af gu)).run P w=.ok .skip { w with heap:=w.heap.setIfInBounds q.r (.map ms'.toArray clock') }→cQ P (Oper.mk dst (.mapUpdate t m' y' z') ty pos af gu) ρ w (cC φ I F E k nx .u (H.set b (some (.mp es'))) nx):=fun es' ms' clock' hr hbn hcl hrun=>by
      subst hcl
      have hh:=MapKept.heap_set (o':=.map ms'.toArray ms'.length) hb2
      exact cQ.skp hrun ⟨I,φ,.refl _,.refl _,fun _ _ _=>rfl,Nat.le_refl _,trivial,yn hrest ⟨q,ms',hq,⟨hr,hbn⟩,rfl⟩ (hS.turn rfl rfl rfl hh.1 hh.2) hR.top⟩
     split at h
     ·rename_i j v0 hf
      obtain ⟨hc,hkeep,⟨e,_⟩|⟨j',y,e,g1,g2,g3,g4,g5⟩⟩:=d9 hT hik hyv y2.1 hf
      ·cases e
      ·cases g1
       cases h
       have hc:=hc w false
       have hf:=g2 w
       have hkeep:=hkeep w
       refine fin _ (ms.set j { e with key:=ev ρ y',val:=ev ρ z' }) ms.length (y2.1.set j hyv hzv) (y2.2.set g4 Z) (by simp) ?_
       rw[←li (f:=fun e=>{ e with key:=ev ρ y',val:=ev ρ z' }) g4]
       simp[execOp,hxv,Instr.mapUpdate,run_underlying hu,MapKept.run_getObj_map hb2,hc,hf,MapKept.run_setObj_map _ hb2,Result.andThen,g4,g5,hkeep]
     ·rename_i hf
      obtain ⟨hc,hkeep,⟨_,g2⟩|⟨j,y,e,g1,_⟩⟩:=d9 hT hik hyv y2.1 hf
      ·cases h
       have hc:=hc w false
       have hf:=g2 w
       refine fin _ (ms++[{ key:=ev ρ y',val:=ev ρ z',born:=ms.length }]) (ms.length+1) (y2.1.push hyv hzv) (y2.2.push Z) (by simp) ?_
       simp[execOp,hxv,Instr.mapUpdate,run_underlying hu,MapKept.run_getObj_map hb2,hc,hf,MapKept.run_setObj_map _ hb2,Result.andThen]
      ·cases g1
     ·cases h
    ·cases h
   ·cases h
  ·cases h
 ·rename_i t m' y'
  unfold tj at h
  split at h
  ·rename_i i b key hi hx hy
   obtain ⟨q,hq,hxv⟩:=aG hg hx
   have hyv:=aG hg hy
   split at h
   ·rename_i kt et es hd hes
    have hu:=hd▸(hT t i hi).und
    split at h
    ·rename_i ik ie hik hie
     obtain ⟨A,L,hBb,hrest,hS⟩:=hR.pick hes
     obtain ⟨q',ms,y1,y2,rfl⟩:=hBb
     rw[hq] at y1;cases y1
     have hb2:=hS.own _ (.head _)
     simp only at hb2
     have fin:∀(es':List (EV × EV)) (ms':List MapEntry) (clock':Nat) (x:EV) (v:Value),bJ φ es' ms'→gJ ms'→clock'=ms'.length→aL φ x v→(execOp (ev ρ) (Oper.mk dst (.mapEntry t m' y') ty pos af gu)).run P w=.ok (.value v) { w with heap:=w.heap.setIfInBounds q.r (.map ms'.toArray clock') }→cQ P (Oper.mk dst (.mapEntry t m' y') ty pos af gu) ρ w (cC φ I F E k nx x (H.set b (some (.mp es'))) nx):=fun es' ms' clock' x v hr hbn hcl hxr hrun=>by
      subst hcl
      have hh:=MapKept.heap_set (o':=.map ms'.toArray ms'.length) hb2
      exact cQ.val hrun ⟨I,φ,.refl _,.refl _,fun _ _ _=>rfl,Nat.le_refl _,hxr,yn hrest ⟨q,ms',hq,⟨hr,hbn⟩,rfl⟩ (hS.turn rfl rfl rfl hh.1 hh.2) hR.top⟩
     split at h
     ·rename_i j v0 hf
      obtain ⟨hc,hkeep,⟨e,_⟩|⟨j',y,e,g1,g2,g3,g4,g5⟩⟩:=d9 hT hik hyv y2.1 hf
      ·cases e
      ·cases g1
       cases h
       have hc:=hc w false
       have hf:=g2 w
       have hkeep:=hkeep w
       have hbj:=y2.2 j e g4
       refine fin _ (ms.set j { e with key:=ev ρ y' }) ms.length _ (.tuple #[e.val,.int .i64 j]) (y2.1.set j hyv g3) (y2.2.set g4 Z) (by simp) ⟨[e.val,.int .i64 j],Z,_,_,Z,g3,_,_,Z,Z,Z⟩ ?_
       rw[←li (f:=fun e=>{ e with key:=ev ρ y' }) g4]
       simp[execOp,hxv,Instr.mapEntry,run_underlying hu,MapKept.run_getObj_map hb2,hc,hf,MapKept.run_setObj_map _ hb2,Result.andThen,g4,g5,hkeep,goInt,hbj]
     ·rename_i hf
      obtain ⟨hc,hkeep,⟨_,g2⟩|⟨j,y,e,g1,_⟩⟩:=d9 hT hik hyv y2.1 hf
      ·obtain ⟨zv,hz,hzr⟩:=(hT et ie hie).zeroV
       cases h
       have hc:=hc w false
       have hf:=g2 w
       have hz:=hz w
       refine fin _ (ms++[{ key:=ev ρ y',val:=zv,born:=ms.length }]) (ms.length+1) _ (.tuple #[zv,.int .i64 ms.length]) (y2.1.push hyv (hzr φ)) (y2.2.push Z) (by simp) ⟨[zv,.int .i64 ms.length],Z,_,_,Z,hzr φ,_,_,Z,by rw[y2.1.len];rfl,rfl⟩ ?_
       simp[execOp,hxv,Instr.mapEntry,run_underlying hu,MapKept.run_getObj_map hb2,hc,hf,hz,MapKept.run_setObj_map _ hb2,Result.andThen,goInt]
      ·cases g1
     ·cases h
    ·cases h
   ·cases h
  ·cases h
 ·rename_i t m' s' z'
  unfold tk at h
  split at h
  ·rename_i b n v hx hy hz
   obtain ⟨q,hq,hxv⟩:=aG hg hx
   have hyv:ev ρ s'=.int .i64 n:=aG hg hy
   have hzv:=aG hg hz
   split at h
   ·rename_i es j hes hj
    split at h
    ·rename_i e0 he0
     cases h
     obtain ⟨A,L,hBb,hrest,hS⟩:=hR.pick hes
     obtain ⟨q',ms,y1,y2,rfl⟩:=hBb
     rw[hq] at y1;cases y1
     have hb2:=hS.own _ (.head _)
     simp only at hb2
     obtain ⟨e,g4,h1,h2⟩:=y2.1.at j he0
     have hn:n=(j:Int):=dL hj
     subst hn
     have hfi:=y2.2.find (List.getElem?_eq_some_iff.1 g4).1
     have hrun:(execOp (ev ρ) (Oper.mk dst (.entryStore t m' s' z') ty pos af gu)).run P w=.ok .skip { w with heap:=w.heap.setIfInBounds q.r (.map (ms.set j { e with val:=ev ρ z' }).toArray ms.length) }:=by
      rw[←li (f:=fun e=>{ e with val:=ev ρ z' }) g4]
      simp only[execOp,hxv,hyv,Instr.entryStore]
      simp[MapKept.run_getObj_map hb2,MapKept.run_setObj_map _ hb2,Result.andThen,asInt,asIntOf,hfi]
     have fin:∀(ms':List MapEntry) (clock':Nat),bJ φ (es.set j (e0.1,v)) ms'→gJ ms'→clock'=ms'.length→(execOp (ev ρ) (Oper.mk dst (.entryStore t m' s' z') ty pos af gu)).run P w=.ok .skip { w with heap:=w.heap.setIfInBounds q.r (.map ms'.toArray clock') }→cQ P (Oper.mk dst (.entryStore t m' s' z') ty pos af gu) ρ w (cC φ I F E k nx .u (H.set b (some (.mp (es.set j (e0.1,v))))) nx):=fun ms' clock' hr hbn hcl hrun=>by
      subst hcl
      have hh:=MapKept.heap_set (o':=.map ms'.toArray ms'.length) hb2
      exact cQ.skp hrun ⟨I,φ,.refl _,.refl _,fun _ _ _=>rfl,Nat.le_refl _,trivial,yn hrest ⟨q,ms',hq,⟨hr,hbn⟩,rfl⟩ (hS.turn rfl rfl rfl hh.1 hh.2) hR.top⟩
     exact fin (ms.set j { e with val:=ev ρ z' }) ms.length (y2.1.set (e:={ e with val:=ev ρ z' }) j h1 hzv) (y2.2.set g4 rfl) (by simp) hrun
    ·cases h
   ·cases h
  ·cases h
 ·split at h
  ·rename_i ar ts _ _ x' y' t u h1 h2
   have h1:=rM h1
   have h2:=rM h2
   subst h1 h2
   split at h
   ·rename_i a c hx hy
    cases htu:Nat.beq t u with
    |false=>
     rw[htu] at h
     obtain ⟨v,w',h3,h4⟩:=tm (ty:=ty) hT hR hk hkx h (aG hg hx) (aG hg hy)
     exact cQ.val (by simp[execOp,resolve,invoke,builtin,h3]) h4
    |true=>
     rw[htu] at h
     have htu:=Nat.eq_of_beq_eq_true htu
     subst htu
     obtain ⟨v,w',h3,h4⟩:=tg (ty:=ty) hT hR hk hkx h (aG hg hx) (aG hg hy)
     exact cQ.val (by simp[execOp,resolve,invoke,builtin,h3]) h4
   ·cases h
  ·cases h
 ·split at h
  ·rename_i ar ts _ _ x' y' t u h1 h2
   have h1:=rM h1
   have h2:=rM h2
   subst h1 h2
   split at h
   ·rename_i a c hx hy
    obtain ⟨v,w',h3,h4⟩:=rS (k:=k) (u:=u) (ty:=ty) hT hR h (aG hg hx) (aG hg hy)
    exact cQ.val (by simp[execOp,resolve,invoke,builtin,h3]) h4
   ·cases h
  ·cases h
 ·cases h
theorem tn (hT:bK P T) (hg:cP φ g ρ) (hR:bR I φ H nx F E w) (hk:φ k=none) (hkx:k<nx) {o:Oper} {x:EV} {H':Hp} (h:zB T g H k o.op=some (x,H')):cQ P o ρ w (cC φ I F E k nx x H' nx):=vj hT hg hR hk hkx (xk T g H k o.op▸h)
end
end
section
open Go.Proofs
noncomputable def gt (G:Tr EV) (t:Nat):EV:=(G.get t).getD .u
noncomputable def setO (G:Tr EV) (d:Option Nat) (x:EV):Tr EV:=
 match d with
 |some d=>G.set d (some x)
 |none=>G
abbrev bv:=Nat→List EV→Hp→Nat→Option (EV × Hp × Nat)
def bM (P:Program) (E:World) (call:bv):Prop:=
 ∀f ar H nx x H' nx',call f ar H nx=some (x,H',nx')→∀φ I F w vs,bR I φ H nx F E w→RelVs φ ar vs→Fn P f vs.toArray w (cC φ I F E nx nx x H' nx')
noncomputable def tp (T:TT) (call:bv) (g:Nat→EV) (H:Hp) (nx:Nat) (op:Op):Option (EV × Hp × Nat):=
 match op with
 |.call ⟨.value fo,ar,_⟩=>match bw g fo,jV (bw g) ar.toList with
  |some (.fn f a c),some m=>call f (a++m++c) H nx
  |_,_=>none
 |.call ⟨.invoke ro nm,ar,_⟩=>match bw g ro,jV (bw g) ar.toList with
  |some (.ifc t v),some m=>match (T t).bind fun i=>i.ms nm with
   |some f=>call f (v::m) H nx
   |none=>none
  |_,_=>none
 |_=>none
noncomputable def vk (T:TT) (call:bv) (g:Nat→EV) (H:Hp) (k nx:Nat) (op:Op):Option (EV × Hp × Nat):=
 match yI T g op with
 |some x=>some (x,H,nx)
 |none=>match yO T g H op with
  |some x=>some (x,H,nx)
  |none=>match xF T g k op with
   |some (x,o)=>some (x,H.set k (some o),nx)
   |none=>match zB T g H k op with
    |some (x,H')=>some (x,H',nx)
    |none=>tp T call g H nx op
section
variable {P:Program} {φ:bD} {g:Nat→EV} {ρ:bn} {w:World} {T:TT} {I:aF} {H H':Hp} {k nx nx':Nat} {F:List (Nat × Obj)} {E:World} {call:bv}
theorem cC.weak {x:EV} {v:Value} (h:cC φ I F E nx nx x H' nx' v w):cC φ I F E k nx x H' nx' v w:=
 let ⟨J,ψ,a,b,c,d,e,f⟩:=h;⟨J,ψ,a,b,fun j hj _=>c j hj (Nat.ne_of_lt hj),d,e,f⟩
theorem cP.setO {G:Tr EV} (hg:cP φ (gt G) ρ) {x:EV} {v:Value} (hx:aL φ x v) (d:Option Nat):cP φ (gt (setO G d x)) (updO ρ d v):=by
 cases d with
 |none=>exact hg
 |some d=>
  intro t
  show aL φ (((G.set d (some x)).get t).getD .u) (upd ρ d v t)
  rw[Tr.get_set]
  by_cases e:t=d
  ·rw[if_pos e];subst e;rw[dC];exact hx
  ·rw[if_neg e,bZ _ _ e];exact hg t
theorem oa (hT:bK P T) (hC:bM P E call) (hg:cP φ g ρ) (hR:bR I φ H nx F E w) {o:Oper} {x:EV} (h:tp T call g H nx o.op=some (x,H',nx')):cQ P o ρ w (cC φ I F E k nx x H' nx'):=by
 obtain ⟨dst,op,ty,pos,af,gu⟩:=o
 dsimp only at h
 unfold tp at h
 split at h
 ·rename_i fo ar ts
  split at h
  ·rename_i f a c m hf hm
   obtain ⟨vs,us,he,h1,h2⟩:=aG hg hf
   have hm:=g6 hg hm
   have hc:=hC _ _ _ _ _ _ _ h φ I F w _ hR ((h1.append hm).append h2)
   obtain ⟨⟨fn,cd,h3,hb,hn⟩,hcalls⟩:=hc
   unfold cQ
   have hrun:(execOp (ev ρ) (Oper.mk dst (.call { callee:=.value fo,args:=ar,argTypes:=ts }) ty pos af gu)).run P w=.ok (.enter f (vs++ar.toList.map (ev ρ)++us).toArray) w:=by
    simp[execOp,resolve,he,Deferred.ofValue,invoke,callFunc,h3,hb,hn]
   rw[hrun]
   exact hcalls.mono fun e w' ⟨v,g1,g2⟩=>⟨v,g1,g2.weak⟩
  ·cases h
 ·rename_i ro nm ar ts
  split at h
  ·rename_i t v m hf hm
   split at h
   ·rename_i f hms
    obtain ⟨i,hi,hms⟩:=Option.bind_eq_some_iff.1 hms
    obtain ⟨u,he,h1⟩:=aG hg hf
    have hm:=g6 hg hm
    have hc:=hC _ _ _ _ _ _ _ h φ I F w _ hR (show RelVs φ (v::m) (u::ar.toList.map (ev ρ)) from ⟨_,_,rfl,h1,hm⟩)
    obtain ⟨⟨fn,cd,h3,hb,hn⟩,hcalls⟩:=hc
    have hmt:=(hT t i hi).mt nm f hms
    unfold cQ
    have hrun:(execOp (ev ρ) (Oper.mk dst (.call { callee:=.invoke ro nm,args:=ar,argTypes:=ts }) ty pos af gu)).run P w=.ok (.enter f (u::ar.toList.map (ev ρ)).toArray) w:=by
     have e1:(method (P.types.size+Made.depth) t u nm).run P w=.ok (f,u) w:=hmt (P.types.size+99) u w
     have e2:((#[ev ρ ro]++ar.map (ev ρ):Array Value).extract 1 (#[ev ρ ro]++ar.map (ev ρ):Array Value).size)=ar.map (ev ρ):=by
      apply Array.ext'
      simp only[Array.toList_extract,List.extract,Array.toList_append,Array.size_append,List.size_toArray,Array.size_map]
      simp
      exact List.take_of_length_le (by simp)
     have e3:(#[ev ρ ro]++ar.map (ev ρ):Array Value)[0]?=some (.iface t u):=by simp[he,Array.getElem?_append]
     have hpr:(program:Sem Program).run P w=.ok P w:=rfl
     have e4:(invoke (.fn (.method nm) #[]) (#[ev ρ ro]++ar.map (ev ρ))).run P w=.ok (.enter f (u::ar.toList.map (ev ρ)).toArray) w:=by
      unfold invoke
      simp only[e3,e2,callMethod,Sem.run_bind,hpr,Result.andThen_ok,e1,callFunc,h3,hb]
      simp[hn]
     have e5:(resolve (ev ρ) { callee:=.invoke ro nm,args:=ar,argTypes:=ts } ty).run P w=.ok { target:=.fn (.method nm) #[],args:=#[ev ρ ro]++ar.map (ev ρ) } w:=rfl
     show (do let d ←resolve (ev ρ) { callee:=.invoke ro nm,args:=ar,argTypes:=ts } ty;invoke d.target d.args:Sem Next).run P w=_
     rw[Sem.run_bind,e5]
     exact e4
    rw[hrun]
    exact hcalls.mono fun e w' ⟨v,g1,g2⟩=>⟨v,g1,g2.weak⟩
   ·cases h
  ·cases h
 ·cases h
theorem ob (hT:bK P T) (hC:bM P E call) (hg:cP φ g ρ) (hR:bR I φ H nx F E w) (hk:φ k=none) (hkx:k<nx) {o:Oper} {x:EV} (h:vk T call g H k nx o.op=some (x,H',nx')):cQ P o ρ w (cC φ I F E k nx x H' nx'):=by
 unfold vk at h
 split at h
 ·rename_i y hy
  cases h
  obtain ⟨v,h1,h2⟩:=tb (P:=P) (w:=w) hT hg hy
  exact cQ.val h1 (hR.stay h2)
 ·split at h
  ·rename_i y hy
   cases h
   obtain ⟨v,h1,h2⟩:=te hT hg hR hy
   exact cQ.val h1 (hR.stay h2)
  ·split at h
   ·rename_i y vo hy
    cases h
    obtain ⟨L,hr,hS⟩:=hR.freshN hk
    obtain ⟨v,w',q,A,h1,h2,h3,h4⟩:=tf (P:=P) hT hg hy hk hS
    exact cQ.val h1 ⟨I,φ.put k q,.refl _,yo hk q,fun j _ hj=>fx φ q hj,Nat.le_refl _,h2,yn (hr.mono (.refl _) (yo hk q)) h3 h4 (fP hR.top hkx q)⟩
   ·split at h
    ·rename_i y H1 hy
     cases h
     exact tn hT hg hR hk hkx hy
    ·exact oa hT hC hg hR h
end
noncomputable def mf (ops:List Oper) (g:Nat→EV) (o:Oper):Option Bool:=
 match o.guard with
 |none=>some true
 |some (j,b)=>match (ops[j]?).bind (·.dst) with
  |some s=>match g s with
   |.b b'=>some (b' == b)
   |.tu _=>some false
   |_=>none
  |none=>none
noncomputable def mh (T:TT) (call:bv) (ops:List Oper):List Oper→Tr EV→Hp→Nat→Option (Tr EV × Hp × Nat)
 |[],G,H,nx=>some (G,H,nx)
 |o::rest,G,H,nx=>match mf ops (gt G) o with
  |none=>none
  |some t=>bif t then
    match vk T call (gt G) H nx (nx+1) o.op with
    |some (x,H',nx')=>mh T call ops rest (setO G o.dst x) H' nx'
    |none=>none
   else mh T call ops rest (setO G o.dst (.tu [])) H nx
def dO (φ:bD) (I:aF) (F:List (Nat × Obj)) (E:World) (nx:Nat) (G:Tr EV) (H:Hp) (nx':Nat) (ρ:bn) (w:World):Prop:=
 ∃J ψ,I.le J∧φ.le ψ∧(∀j,j<nx→ψ j=φ j)∧nx≤nx'∧cP ψ (gt G) ρ∧bR J ψ H nx' F E w
section
variable {P:Program} {φ ψ:bD} {g:Nat→EV} {ρ:bn} {w:World} {T:TT} {I J:aF} {H H':Hp} {k nx nx' n:Nat} {F:List (Nat × Obj)} {E:World} {call:bv} {G G':Tr EV}
theorem dO.up (hI:I.le J) (h:φ.le ψ) (hs:∀j,j<nx→ψ j=φ j) {n1:Nat} (hn:nx≤n1):dO ψ J F E n1 G H nx' ρ w→dO φ I F E nx G H nx' ρ w:=
 fun ⟨K,χ,a,b,c,d,e,f⟩=>⟨K,χ,hI.trans a,h.trans b,fun j hj=>(c j (by omega)).trans (hs j hj),by omega,e,f⟩
theorem oc {ops:List Oper} {o:Oper} {t:Bool} (hg:cP φ g ρ) (h:mf ops g o=some t):br ops.toArray o ρ=t:=by
 unfold mf at h
 unfold br
 cases hgu:o.guard with
 |none=>rw[hgu] at h;cases h;rfl
 |some jb=>
  obtain ⟨j,b⟩:=jb
  rw[hgu] at h
  simp only[List.getElem?_toArray] at h ⊢
  cases hd:(ops[j]?).bind (fun o:Oper=>o.dst) with
  |none=>rw[hd] at h;cases h
  |some s=>
   rw[hd] at h
   simp only at h ⊢
   have hs:=hg s
   split at h
   ·rename_i b' hb
    cases h
    rw[hb] at hs
    have hs:ρ s=.bool b':=hs
    rw[hs]
   ·rename_i hb
    cases h
    rw[hb] at hs
    obtain ⟨vs,hs,_⟩:=hs
    rw[hs]
   ·cases h
theorem jF (hT:bK P T) (hC:bM P E call) {ops:List Oper}:∀(rest:List Oper) (G:Tr EV) (H:Hp) (nx:Nat) (G':Tr EV) (H':Hp) (nx':Nat),mh T call ops rest G H nx=some (G',H',nx') →
  ∀(φ:bD) (I:aF) (ρ:bn) (w:World),cP φ (gt G) ρ→bR I φ H nx F E w→bq P ops.toArray (dO φ I F E nx G' H' nx') rest ρ w
 |[],G,H,nx,G',H',nx',h,φ,I,ρ,w,hg,hR=>by
  cases h
  exact ⟨I,φ,.refl _,.refl _,fun _ _=>rfl,Nat.le_refl _,hg,hR⟩
 |o::rest,G,H,nx,G',H',nx',h,φ,I,ρ,w,hg,hR=>by
  unfold mh at h
  split at h
  ·cases h
  ·rename_i t ht
   have hw:=oc hg ht
   unfold bq
   rw[hw]
   cases t with
   |false=>
    simp only[cond_false] at h
    rw[if_neg (by decide)]
    exact jF hT hC rest _ _ _ _ _ _ h φ I _ w (hg.setO (x:=.tu []) (v:=undef) ⟨[],rfl,rfl⟩ o.dst) hR
   |true=>
    simp only[cond_true] at h
    rw[if_pos rfl]
    split at h
    ·rename_i x H1 nx1 hx
     refine (ob hT hC hg (hR.mono (Nat.le_succ nx)) (hR.top nx (Nat.le_refl _)) (Nat.lt_succ_self nx) hx).mono fun v w' ⟨J,ψ,a,b,c,d,e,f⟩=>?_
     have:=jF hT hC rest _ _ _ _ _ _ h ψ J (updO ρ o.dst v) w' ((hg.mono b).setO e o.dst) f
     exact yk (fun _ _=>dO.up a b (fun j hj=>c j (by omega) (by omega)) (by omega)) _ _ _ this
    ·cases h
end
end
section
open Go.Proofs
def zC:Operand→Option Nat
 |.tmp t=>some t
 |_=>none
def mv (l:List Oper) (o:Oper):List Nat:=
 (match o.guard with
  |some (j,_)=>(match (l[j]?).bind (·.dst) with
   |some s=>[s]
   |none=>[])
  |none=>[])++o.op.operands.toList.filterMap zC
def gK (t:Nat):List Nat→Bool
 |[]=>false
 |x::l=>Nat.beq t x||gK t l
theorem dP {t:Nat}:∀{l:List Nat},gK t l=true↔t∈l
 |[]=>by simp[gK]
 |x::l=>by
  have ih:=@dP t l
  unfold gK
  rw[Bool.or_eq_true,ih,List.mem_cons]
  constructor
  ·rintro (h|h)
   ·exact .inl (Nat.eq_of_beq_eq_true h)
   ·exact .inr h
  ·rintro (h|h)
   ·exact .inl (by rw[h];exact Nat.beq_refl x)
   ·exact .inr h
noncomputable def rT (lk:List Nat) (G:Tr EV):Nat→EV:=fun t=>bif gK t lk then gt G t else .u
inductive Rc where
 |pv (x:EV)
 |lv (x:EV)
 |av (x:EV) (o:VO)
 |cv (x:EV)
def Rc.x:Rc→EV
 |.pv x | .lv x | .av x _ | .cv x=>x
def bh (nx0:Nat) (p:Nat→Bool):List Rc→Nat→List (Nat × VO)
 |[],_=>[]
 |.av _ o::rs,a=>bif p a then (nx0+a,o)::bh nx0 p rs (a+1) else bh nx0 p rs (a+1)
 |_::rs,a=>bh nx0 p rs (a+1)
noncomputable def lj:List (Nat × VO)→Hp→Option Hp
 |[],H=>some H
 |(k,o)::r,H=>match H.get k with
  |none=>lj r (H.set k (some o))
  |some _=>none
def tq (am:List Nat) (o:Oper):Nat:=o.after.toList.foldl (fun m e=>bif Region.binds .any e then m ||| (2 ^ e.on ||| (am[e.on]?).getD 0) else m) 0
def er:List Oper→List Nat→List Nat
 |[],am=>am
 |o::r,am=>er r (am++[tq am o])
abbrev na:=Hp × Nat × Nat
def qA (fl m:Nat) (a:Nat):Bool:=m.testBit a&&!fl.testBit a
noncomputable def pass (T:TT) (call:bv) (l:List Oper) (am:List Nat) (nx0:Nat):List Oper→Nat→List Rc→Tr EV→List na→Hp→Nat→Nat→Option Nat→Option (List Rc × Tr EV × List na)
 |[],_,rs,G,S,_,_,_,_=>some (rs,G,S)
 |o::rest,i,rs,G,S,H,nx,fl,last=>
  let g:=rT (mv l o) G
  match mf l g o with
  |none=>none
  |some t=>bif t then
    match yI T g o.op with
    |some x=>pass T call l am nx0 rest (i+1) (rs++[.pv x]) (setO G o.dst x) S H nx fl last
    |none=>match xF T g (nx0+i) o.op with
     |some (x,vo)=>pass T call l am nx0 rest (i+1) (rs++[.av x vo]) (setO G o.dst x) S H nx fl last
     |none=>
      match lj (bh nx0 (qA fl ((am[i]?).getD 0)) rs 0) H with
      |none=>none
      |some H1=>match yO T g H1 o.op with
       |some x=>pass T call l am nx0 rest (i+1) (rs++[.lv x]) (setO G o.dst x) S H nx fl last
       |none=>match (match zB T g H1 (nx0+i) o.op with
         |some (x,H')=>some (x,H',nx)
         |none=>tp T call g H1 nx o.op) with
        |none=>none
        |some (x,H',nx')=>bif last.elim true (fun c=>((am[i]?).getD 0).testBit c) then
          pass T call l am nx0 rest (i+1) (rs++[.cv x]) (setO G o.dst x) (S++[(H',nx',fl ||| (am[i]?).getD 0)]) H' nx' (fl ||| (am[i]?).getD 0) (some i)
         else none
   else pass T call l am nx0 rest (i+1) (rs++[.pv (.tu [])]) (setO G o.dst (.tu [])) S H nx fl last
def df:Rc→Bool
 |.cv _=>true
 |_=>false
def cH (R:List Rc) (i:Nat):Nat:=((R.take i).filter df).length
def nc (R:List Rc) (am:List Nat) (i j:Nat):Bool:=
 (List.range R.length).all fun c=>match R[c]? with
  |some (.cv _)=>(!((am[i]?).getD 0).testBit c||Nat.blt (cH R c) j)&&(!((am[c]?).getD 0).testBit i||Nat.ble j (cH R c))
  |_=>true
noncomputable def dQ (T:TT) (l:List Oper) (am:List Nat) (nx0:Nat) (R:List Rc) (G:Tr EV) (S:List na):Bool:=
 (List.range R.length).all fun i=>match R[i]?,l[i]? with
  |some (.lv x),some o=>(List.range S.length).all fun j=>!nc R am i j||(match S[j]? with
   |some (H,_,fl)=>(match lj (bh nx0 (qA fl ((am[i]?).getD 0)) (R.take i) 0) H with
    |some H1=>(match yO T (rT (mv l o) G) H1 o.op with
     |some y=>eqE 40 x y
     |none=>false)
    |none=>false)
   |none=>false)
  |_,_=>true
where
 eqE:Nat→EV→EV→Bool
  |0,_,_=>false
  |n+1,x,y=>match x,y with
   |.u,.u=>true
   |.b a,.b c=>a == c
   |.i k a,.i k' c=>decide (k=k')&&decide (a=c)
   |.s a,.s c=>kh a c
   |.np,.np=>true
   |.p a b,.p c d=>Nat.beq a c&&Nat.beq b d
   |.ns,.ns=>true
   |.sl a b c d e,.sl a' b' c' d' e'=>Nat.beq a a'&&Nat.beq b b'&&Nat.beq c c'&&Nat.beq d d'&&(match e,e' with
    |.ex m,.ex m'=>Nat.beq m m'
    |.en,.en=>true
    |.un,.un=>true
    |_,_=>false)
   |.ag l,.ag m=>eqL n l m
   |.tu l,.tu m=>eqL n l m
   |.fn f a c,.fn f' a' c'=>Nat.beq f f'&&eqL n a a'&&eqL n c c'
   |.nf,.nf=>true
   |.ifc t v,.ifc t' v'=>Nat.beq t t'&&eqE n v v'
   |.ni,.ni=>true
   |.m a,.m b=>Nat.beq a b
   |.nm,.nm=>true
   |.vr a,.vr b=>Nat.beq a b
   |.us a b,.us c d=>Nat.beq a c&&Nat.beq b d
   |_,_=>false
 eqL:Nat→List EV→List EV→Bool
  |0,_,_=>false
  |_+1,[],[]=>true
  |n+1,x::l,y::m=>eqE n x y&&eqL n l m
  |_,_,_=>false
def ll (l:List Oper) (am:List Nat):Bool:=
 (List.range l.length).all fun i=>match l[i]? with
  |some o=>o.after.toList.all (fun e=>!Region.binds .any e||Nat.blt e.on i) &&
    (List.range l.length).all fun j=>match (l[j]?).bind (·.dst) with
     |some d=>(!gK d (mv l o)||((am[i]?).getD 0).testBit j)&&(Nat.beq i j||!(match o.dst with
      |some d'=>Nat.beq d d'
      |none=>false))
     |none=>true
  |none=>true
noncomputable def lm (T:TT) (call:bv) (l:List Oper) (G:Tr EV) (H:Hp) (nx:Nat):Option (Tr EV × Hp × Nat):=
 let am:=er l []
 bif ll l am then
  match pass T call l am nx l 0 [] G [(H,nx+l.length,0)] H (nx+l.length) 0 none with
  |some (R,GF,S)=>bif dQ T l am nx R GF S then
    match S.getLast? with
    |some (Hm,nm,fl)=>match lj (bh nx (fun a=>!fl.testBit a) R 0) Hm with
     |some H'=>some (GF,H',nm)
     |none=>none
    |none=>none
   else none
  |none=>none
 else none
end
end Go.Proofs.YtbconpmnckokoaaGreatDoor
