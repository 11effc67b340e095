/- What an operation comes to that makes a block, or that writes, over a heap told exactly. No conditions. -/
import Derived.Test.YtjpnhkmfhlnpcaaGreatDoorZr
import Derived.Test.YtjpnhkmfhlnpcaaGreatDoorZl
import Derived.Test.YtjpnhkmfhlnpcaaGreatDoorZd
import Derived.WideKeyRuns
import Derived.Laws.BytesString
set_option linter.unusedVariables false
set_option linter.unusedSimpArgs false
set_option linter.unusedSectionVars false
namespace Go.Proofs.YtjpnhkmfhlnpcaaGreatDoor
section
def wx:Option Value→Option Nat→Prop
 |none,none=>True
 |some v,some n=>∃k,v=.int k (n:Int)
 |_,_=>False
theorem eQ {P:Program} {w:World} {k:IntKind} {n y:Nat} {c:BoundsCode} (h:n≤y):(Instr.sliceBound (.int k (n:Int)) y c).run P w=.ok n w:=by
 have:(0:Int)≤(n:Int)∧(n:Int)≤(y:Int):=by omega
 simp[Instr.sliceBound,asIntOf,this]
theorem kL {P:Program} {w:World} {s:Bool} {len cap:Nat} {lo hi mx:Option Value} {lo' hi' mx':Option Nat} (h1:wx lo lo') (h2:wx hi hi') (h3:wx mx mx') (hm:mx'.isSome=true→hi'.isSome=true)
  (c1:mx'.getD cap≤cap) (c2:hi'.getD len≤mx'.getD cap) (c3:lo'.getD 0≤hi'.getD len):(Instr.sliceBounds s len cap lo hi mx).run P w=.ok (lo'.getD 0,hi'.getD len,mx'.getD cap) w:=by
 cases mx with
 |some m=>
  cases mx' with
  |none=>exact h3.elim
  |some m'=>
   cases hi' with
   |none=>simp at hm
   |some g=>
    cases hi with
    |none=>exact h2.elim
    |some hv=>
     obtain ⟨k1,rfl⟩:=h3
     obtain ⟨k2,rfl⟩:=h2
     simp only[Option.getD_some] at c1 c2 c3 ⊢
     cases lo with
     |none=>
      cases lo' with
      |none=>simp only[Instr.sliceBounds,Sem.run_bind,eQ c1,Result.andThen_ok,eQ c2];simp
      |some _=>exact h1.elim
     |some l=>
      cases lo' with
      |none=>exact h1.elim
      |some l'=>
       obtain ⟨k3,rfl⟩:=h1
       simp only[Option.getD_some] at c3 ⊢
       simp only[Instr.sliceBounds,Sem.run_bind,eQ c1,Result.andThen_ok,eQ c2,eQ c3];simp
 |none=>
  cases mx' with
  |some _=>exact h3.elim
  |none=>
   simp only[Option.getD_none] at c1 c2 ⊢
   cases hi with
   |none=>
    cases hi' with
    |some _=>exact h2.elim
    |none=>
     simp only[Option.getD_none] at c2 c3 ⊢
     cases lo with
     |none=>
      cases lo' with
      |none=>simp[Instr.sliceBounds]
      |some _=>exact h1.elim
     |some l=>
      cases lo' with
      |none=>exact h1.elim
      |some l'=>
       obtain ⟨k3,rfl⟩:=h1
       simp only[Option.getD_some] at c3 ⊢
       simp[Instr.sliceBounds,eQ c3]
   |some hv=>
    cases hi' with
    |none=>exact h2.elim
    |some g=>
     obtain ⟨k2,rfl⟩:=h2
     simp only[Option.getD_some] at c2 c3 ⊢
     cases lo with
     |none=>
      cases lo' with
      |none=>simp[Instr.sliceBounds,eQ c2]
      |some _=>exact h1.elim
     |some l=>
      cases lo' with
      |none=>exact h1.elim
      |some l'=>
       obtain ⟨k3,rfl⟩:=h1
       simp only[Option.getD_some] at c3 ⊢
       simp[Instr.sliceBounds,eQ c2,eQ c3]
theorem sR (s:ByteArray) (l h:Nat):s.extract l h=⟨((s.data.toList.drop l).take (h - l)).toArray⟩:=by
 have e:(s.extract l h).data=s.data.extract l h:=ByteArray.data_extract
 cases hx:s.extract l h with
 |mk d=>
  rw[hx] at e
  simp only at e
  rw[e];congr 1
  apply Array.toList_inj.1
  simp[List.extract_eq_take_drop]
def Ix (k k' l:Nat) (mx:Option Nat) (c:Cp):Cp:=
 match mx,c with
 |some m,_=>.ex (m - l)
 |none,.ex m=>.ex (m - l)
 |none,.en=>bif Nat.beq k k' then .en else .un
 |none,.un=>.un
def pK (len n:Nat):Cp→Bool
 |.ex m=>Nat.ble n m
 |_=>Nat.ble n len
noncomputable def G7 (T:TT) (t:Nat) (x:EV) (lo hi mx:Option Nat):Option EV:=
 match T t with
 |some i=>match i.d,x with
  |.string,.s s=>match mx with
   |some _=>none
   |none=>bif Nat.ble (hi.getD s.data.toList.length) s.data.toList.length&&Nat.ble (lo.getD 0) (hi.getD s.data.toList.length) then some (.s ⟨((s.data.toList.drop (lo.getD 0)).take (hi.getD s.data.toList.length - lo.getD 0)).toArray⟩) else none
  |.slice e,.sl b off len k c=>match T e with
   |some ie=>bif (!mx.isSome||hi.isSome)&&(pK len (hi.getD len) c&&(mx.elim true (fun m=>pK len m c&&Nat.ble (hi.getD len) m)&&Nat.ble (lo.getD 0) (hi.getD len))) then
     some (.sl b (off+lo.getD 0*ie.size) (hi.getD len - lo.getD 0) k (Ix k ie.size (lo.getD 0) mx c)) else none
   |none=>none
  |.slice e,.ns=>match T e,mx with
   |some _,none=>bif Nat.beq (hi.getD 0) 0&&Nat.beq (lo.getD 0) 0 then some .ns else none
   |_,_=>none
  |.array n e,.p b off=>match T e,mx with
   |some ie,none=>bif Nat.ble (hi.getD n) n&&Nat.ble (lo.getD 0) (hi.getD n) then some (.sl b (off+lo.getD 0*ie.size) (hi.getD n - lo.getD 0) ie.size (.ex (n - lo.getD 0))) else none
   |_,_=>none
  |_,_=>none
 |none=>none
section
variable {P:Program} {φ:cN} {w:World} {T:TT} {I:aP} {H:Hp} {nx:Nat} {F:List (Nat × Obj)} {E:World}
theorem rW {q:xU} {off k len n cap:Nat} {c:Cp} (h:pK len n c=true) (hl:len≤cap) (hc:Kw q off k c cap):n≤cap:=by
 cases c with
 |ex m=>
  have hc:cap=m:=hc
  have:=Nat.le_of_ble_eq_true h
  omega
 |en=>have:=Nat.le_of_ble_eq_true h;omega
 |un=>have:=Nat.le_of_ble_eq_true h;omega
theorem G8 (hT:cW P T) {t:Nat} {x z:EV} {a:Value} {lo hi mx:Option Value} {lo' hi' mx':Option Nat} (h:G7 T t x lo' hi' mx'=some z) (hx:aY φ x a) (h1:wx lo lo') (h2:wx hi hi') (h3:wx mx mx') :
  ∃v,(Instr.sliceAt t a lo hi mx).run P w=.ok v w∧aY φ z v:=by
 unfold G7 at h
 split at h
 ·rename_i i hi0
  have hTi:=hT t i hi0
  split at h
  ·rename_i s hd
   have hu:=hd▸hTi.und
   have hx:a=.string s:=hx
   subst hx
   split at h
   ·cases h
   ·have hm:mx=none:=by cases mx with
     |none=>rfl
     |some _=>exact h3.elim
    subst hm
    cases hb:(Nat.ble (hi'.getD s.data.toList.length) s.data.toList.length&&Nat.ble (lo'.getD 0) (hi'.getD s.data.toList.length)) with
    |false=>rw[hb] at h;cases h
    |true=>
     rw[hb] at h;cases h
     simp only[w6] at hb
     have b1:=Nat.le_of_ble_eq_true hb.1
     have b2:=Nat.le_of_ble_eq_true hb.2
     have es:s.size=s.data.toList.length:=by rw[Array.length_toList];rfl
     have hbd:=kL (P:=P) (w:=w) (s:=false) (len:=s.size) (cap:=s.size) h1 h2 (mx':=none) (mx:=none) trivial (by simp) (Nat.le_refl _) (by rw[es];exact b1) (by rw[es];exact b2)
     refine ⟨.string (s.extract (lo'.getD 0) (hi'.getD s.size)),?_,by rw[sR,es];rfl⟩
     simp only[Instr.sliceAt,Sem.run_bind,run_underlying hu,Result.andThen_ok,Instr.slice,Option.isSome_none,hbd]
     simp[hbd]
  ·rename_i e b off len k c hd
   have hu:=hd▸hTi.und
   obtain ⟨q,o,cap,hq,rfl,g1,g2,g3⟩:=hx
   split at h
   ·rename_i ie hie
    have hTe:=hT e ie hie
    cases hb:((!mx'.isSome||hi'.isSome)&&(pK len (hi'.getD len) c&&(mx'.elim true (fun m=>pK len m c&&Nat.ble (hi'.getD len) m)&&Nat.ble (lo'.getD 0) (hi'.getD len)))) with
    |false=>rw[hb] at h;cases h
    |true=>
     rw[hb] at h;cases h
     simp only[w6] at hb
     obtain ⟨b0,b1,b2,b3⟩:=hb
     have b1:=rW b1 g1 g3
     have b3:=Nat.le_of_ble_eq_true b3
     have hm:mx'.getD cap≤cap∧hi'.getD len≤mx'.getD cap∧(mx'.isSome=true→hi'.isSome=true):=by
      cases mx' with
      |none=>exact ⟨Nat.le_refl _,b1,fun h=>by cases h⟩
      |some m=>
       simp only[Option.elim_some,w6] at b2
       exact ⟨rW b2.1 g1 g3,Nat.le_of_ble_eq_true b2.2,fun _=>by simpa using b0⟩
     have hbd:=kL (P:=P) (w:=w) (s:=true) (len:=len) (cap:=cap) h1 h2 h3 hm.2.2 hm.1 hm.2.1 b3
     refine ⟨.slice (if mx'.getD cap=lo'.getD 0 then some ⟨q.r,o,none⟩ else (some ⟨q.r,o,none⟩:Option Addr).map (·.add (lo'.getD 0*ie.size))) (hi'.getD len - lo'.getD 0) (mx'.getD cap - lo'.getD 0),?_,q,?_⟩
     ·simp only[Instr.sliceAt,Sem.run_bind,run_underlying hu,Result.andThen_ok,Instr.slice,hbd,hTe.sz]
      simp
     ·refine ⟨if mx'.getD cap=lo'.getD 0 then o else o+lo'.getD 0*ie.size,mx'.getD cap - lo'.getD 0,hq,?_,by omega,fun hne=>?_,?_⟩
      ·split
       ·rfl
       ·simp[bK]
      ·rw[if_neg (by omega),g2 (by omega),Nat.add_assoc]
      ·cases mx' with
       |some m=>exact rfl
       |none=>
        simp only[Option.getD_none]
        cases c with
        |ex m=>exact congrArg (·- lo'.getD 0) (show cap=m from g3)
        |en=>
         unfold Ix
         cases hk:Nat.beq k ie.size with
         |false=>trivial
         |true=>
          have hk:=Nat.eq_of_beq_eq_true hk
          subst hk
          have g3:q.sh+off+cap*ie.size=q.κ:=g3
          show q.sh+(off+lo'.getD 0*ie.size)+(cap - lo'.getD 0)*ie.size=q.κ
          have hle:lo'.getD 0≤cap:=by omega
          have:lo'.getD 0*ie.size+(cap - lo'.getD 0)*ie.size=cap*ie.size:=by rw[←Nat.add_mul];congr 1;omega
          omega
        |un=>trivial
   ·cases h
  ·rename_i e hd
   have hu:=hd▸hTi.und
   have hx:a=.slice none 0 0:=hx
   subst hx
   split at h
   ·rename_i ie hie
    have hTe:=hT e ie hie
    cases hb:(Nat.beq (hi'.getD 0) 0&&Nat.beq (lo'.getD 0) 0) with
    |false=>rw[hb] at h;cases h
    |true=>
     rw[hb] at h;cases h
     simp only[w6] at hb
     have b1:=Nat.eq_of_beq_eq_true hb.1
     have b2:=Nat.eq_of_beq_eq_true hb.2
     have hm:mx=none:=by cases mx with
      |none=>rfl
      |some _=>exact h3.elim
     subst hm
     have hbd:=kL (P:=P) (w:=w) (s:=true) (len:=0) (cap:=0) h1 h2 (mx':=none) (mx:=none) trivial (by simp) (Nat.le_refl _) (by rw[b1];exact Nat.le_refl _) (by rw[b2];exact qt _)
     refine ⟨.slice none 0 0,?_,Z⟩
     simp only[Instr.sliceAt,Sem.run_bind,run_underlying hu,Result.andThen_ok,Instr.slice,hbd,hTe.sz]
     rw[b1,b2];simp
   ·cases h
  ·rename_i n e b off hd
   have hu:=hd▸hTi.und
   obtain ⟨q,hq,rfl⟩:=hx
   split at h
   ·rename_i ie hie
    have hTe:=hT e ie hie
    cases hb:(Nat.ble (hi'.getD n) n&&Nat.ble (lo'.getD 0) (hi'.getD n)) with
    |false=>rw[hb] at h;cases h
    |true=>
     rw[hb] at h;cases h
     simp only[w6] at hb
     have b1:=Nat.le_of_ble_eq_true hb.1
     have b2:=Nat.le_of_ble_eq_true hb.2
     have hm:mx=none:=by cases mx with
      |none=>rfl
      |some _=>exact h3.elim
     subst hm
     have hbd:=kL (P:=P) (w:=w) (s:=false) (len:=n) (cap:=n) h1 h2 (mx':=none) (mx:=none) trivial (by simp) (Nat.le_refl _) b1 b2
     simp only[Option.getD_none] at hbd
     refine ⟨.slice (some (if n=lo'.getD 0 then ⟨q.r,q.sh+off,none⟩ else (⟨q.r,q.sh+off,none⟩:Addr).add (lo'.getD 0*ie.size))) (hi'.getD n - lo'.getD 0) (n - lo'.getD 0),?_,q,if n=lo'.getD 0 then q.sh+off else q.sh+off+lo'.getD 0*ie.size,n - lo'.getD 0,hq,?_,by omega,fun hne=>?_,rfl⟩
     ·simp[Instr.sliceAt,run_underlying hu,Instr.sureAddr,hbd,hTe.sz]
     ·split
      ·rfl
      ·simp[bK]
     ·rw[if_neg (by omega),Nat.add_assoc]
   ·cases h
  ·cases h
 ·cases h
end
def pL (place:Nat→Option (Nat × Nat)):List EV→List (Nat × EV)→Option (List EV)
 |cells,[]=>some cells
 |cells,(i,x)::rest=>
  match place i with
  |none=>none
  |some (off,size)=>bif x.sto&&(Nat.beq x.cs.length size&&Nat.ble (off+size) cells.length) then pL place (cells.take off++(x.cs++cells.drop (off+size))) rest else none
theorem ma {φ:cN} {place:Nat→Option (Nat × Nat)}:∀(l:List (Nat × Value)) (cps:List (Nat × EV)) (cells:List EV) (vcells:Array Value) (rs:List EV),
  cps.map (·.1)=l.map (·.1)→RelVs φ (cps.map (·.2)) (l.map (·.2))→RelVs φ cells vcells.toList→pL place cells cps=some rs →
  ∃vc,Instr.fill place vcells l=some vc∧RelVs φ rs vc.toList
 |[],[],cells,vcells,rs,_,_,h,hf=>⟨vcells,rfl,by cases hf;exact h⟩
 |[],_::_,_,_,_,h,_,_,_=>by cases h
 |_::_,[],_,_,_,h,_,_,_=>by cases h
 |(i,v)::l,(i',x)::cps,cells,vcells,rs,hk,hp,h,hf=>by
  simp only[List.map_cons,List.cons.injEq] at hk
  obtain ⟨rfl,hk⟩:=hk
  obtain ⟨v',us,e,hx,hp⟩:=hp
  cases e
  unfold pL at hf
  unfold Instr.fill
  cases hpl:place i' with
  |none=>rw[hpl] at hf;cases hf
  |some os=>
   obtain ⟨off,size⟩:=os
   rw[hpl] at hf
   simp only at hf ⊢
   cases hb:(x.sto&&(Nat.beq x.cs.length size&&Nat.ble (off+size) cells.length)) with
   |false=>rw[hb] at hf;cases hf
   |true=>
    rw[hb] at hf
    simp only[cond_true] at hf
    simp only[w6] at hb
    have hx:=EV.cs_rel hx hb.1
    have hxl:=hx.length
    have hcl:=h.length
    simp only[Array.length_toList] at hxl hcl
    have e1:=Nat.eq_of_beq_eq_true hb.2.1
    have e2:=Nat.le_of_ble_eq_true hb.2.2
    rw[if_neg (show ¬((v.cells.size≠size||off+v.cells.size>vcells.size)=true) by simp;omega)]
    have hfold:=rk off v.cells.toList 0 vcells (by simp;omega)
    simp only[Nat.add_zero] at hfold
    have hfa:(v.cells.zipIdx.foldl (fun cs (x:Value × Nat)=>cs.setIfInBounds (off+x.2) x.1) vcells).toList=vcells.toList.take off++v.cells.toList++vcells.toList.drop (off+size):=by
     rw[←Array.foldl_toList]
     have:v.cells.zipIdx.toList=v.cells.toList.zipIdx 0:=by simp
     have hlen:v.cells.toList.length=size:=by rw[Array.length_toList];omega
     rw[this,hfold,hlen]
    refine ma l cps _ _ rs hk hp ?_ hf
    rw[hfa,qs]
    exact (h.take off).append (hx.append (h.drop _))
def ob (T:TT):List Field→Option (List (Nat × Nat))
 |[]=>some []
 |f::fs=>match T f.type,ob T fs with
  |some i,some l=>some ((f.offset,i.size)::l)
  |_,_=>none
theorem pM {P:Program} {T:TT} {w:World} (hT:cW P T):∀(fs:List Field) (l:List (Nat × Nat)),ob T fs=some l→(fs.mapM (m:=Sem) fun f=>do pure (f.offset,←sizeOf f.type)).run P w=.ok l w
 |[],l,h=>by cases h;rfl
 |f::fs,l,h=>by
  unfold ob at h
  split at h
  ·rename_i i l' hi hl'
   cases h
   have h2:=pM (w:=w) hT fs l' hl'
   rw[List.mapM_cons]
   simp only[Sem.run_bind,(hT _ _ hi).sz,Result.andThen_ok,Sem.run_pure,h2]
  ·cases h
noncomputable def oc (T:TT) (t:Nat) (ks:List Nat) (vs:List EV):Option EV:=
 match T t with
 |some i=>match i.d with
  |.struct fs=>match ob T fs.toList with
   |some pl=>(pL (fun k=>pl[k]?) i.z (ks.zip vs)).map EV.ag
   |none=>none
  |.array _ e=>match T e with
   |some ie=>(pL (fun k=>some (k*ie.size,ie.size)) i.z (ks.zip vs)).map EV.ag
   |none=>none
  |_=>none
 |none=>none
theorem od {α β:Type}:∀(a:List α) (b:List β),a.length=b.length→(a.zip b).map (·.1)=a
 |[],_,_=>rfl
 |_::_,[],h=>by simp at h
 |x::a,y::b,h=>by rw[List.zip_cons_cons,List.map_cons,od a b (by simpa using h)]
theorem oe {α β:Type}:∀(a:List α) (b:List β),a.length=b.length→(a.zip b).map (·.2)=b
 |[],[],_=>rfl
 |[],_::_,h=>by simp at h
 |_::_,[],_=>rfl
 |x::a,y::b,h=>by rw[List.zip_cons_cons,List.map_cons,oe a b (by simpa using h)]
theorem wy {P:Program} {φ:cN} {w:World} {T:TT} (hT:cW P T) {t:Nat} {parts:List (Nat × Value)} {vs:List EV} {z:EV} (h:oc T t (parts.map (·.1)) vs=some z) (hv:RelVs φ vs (parts.map (·.2))) :
  ∃v,(Instr.build t parts.toArray).run P w=.ok v w∧aY φ z v:=by
 have hl:(parts.map (·.1)).length=vs.length:=by have:=hv.length;simp at this ⊢;exact this
 unfold oc at h
 split at h
 ·rename_i i hi
  have hTi:=hT t i hi
  obtain ⟨zv,hz,hzr,_⟩:=hTi.zero
  split at h
  ·rename_i fs hd
   have hu:=hd▸hTi.und
   split at h
   ·rename_i pl hpl
    obtain ⟨rs,hrs,rfl⟩:=Option.map_eq_some_iff.1 h
    obtain ⟨vc,h1,h2⟩:=ma (place:=fun k=>pl[k]?) parts _ i.z zv.cells rs (od _ _ hl) (by rw[oe _ _ hl];exact hv) (hzr φ) hrs
    refine ⟨.agg vc,?_,vc.toList,by simp,h2⟩
    have hp:=pM (w:=w) hT fs.toList pl hpl
    have hp2:(fs.mapM (m:=Sem) fun f=>do pure (f.offset,←sizeOf f.type)).run P w=.ok pl.toArray w:=by
     rw[Array.mapM_eq_mapM_toList,Sem.run_map,hp];rfl
    unfold Instr.build
    simp only[Sem.run_bind,hz,Result.andThen_ok,run_underlying hu,hp2]
    have h1:Instr.fill (fun x=>pl.toArray[x]?) zv.cells parts=some vc:=by simpa using h1
    rw[h1];rfl
   ·cases h
  ·rename_i n e hd
   have hu:=hd▸hTi.und
   split at h
   ·rename_i ie hie
    obtain ⟨rs,hrs,rfl⟩:=Option.map_eq_some_iff.1 h
    obtain ⟨vc,h1,h2⟩:=ma (place:=fun k=>some (k*ie.size,ie.size)) parts _ i.z zv.cells rs (od _ _ hl) (by rw[oe _ _ hl];exact hv) (hzr φ) hrs
    refine ⟨.agg vc,?_,vc.toList,by simp,h2⟩
    unfold Instr.build
    simp only[Sem.run_bind,hz,Result.andThen_ok,run_underlying hu,(hT e ie hie).sz,h1]
    rfl
   ·cases h
  ·cases h
 ·cases h
def uQ:TypeDesc→Bool
 |.interface _=>false
 |_=>true
noncomputable def xZ (T:TT) (t:Nat) (x:EV):Option EV:=
 match T t with
 |some i=>bif uQ i.d then some (.ifc t x) else none
 |none=>none
noncomputable def sS (T:TT) (s d:Nat) (x:EV):Option EV:=
 match T s,T d,x with
 |some is_,some id_,.i _ n=>match is_.d,id_.d with
  |.int _,.int k=>some (.i k (k.wrap n))
  |_,_=>none
 |some is_,some id_,.s b=>match is_.d,id_.d with
  |.string,.string=>some (.s b)
  |_,_=>none
 |_,_,_=>none
noncomputable def x8 (T:TT) (t:Nat) (x:EV):Option EV:=
 match T t,x with
 |some i,x=>match i.d,x with
  |.string,.s b=>some (.i .i64 b.data.toList.length)
  |.slice _,.sl _ _ n _ _=>some (.i .i64 n)
  |.slice _,.ns=>some (.i .i64 0)
  |_,_=>none
 |_,_=>none
noncomputable def x9 (T:TT) (t:Nat) (x:EV):Option EV:=
 match T t,x with
 |some i,x=>match i.d,x with
  |.slice _,.sl _ _ _ _ (.ex m)=>some (.i .i64 m)
  |.slice _,.ns=>some (.i .i64 0)
  |_,_=>none
 |_,_=>none
section
variable {P:Program} {φ:cN} {w:World} {T:TT} {ty:TypeId}
theorem EZ (hT:cW P T) {t:Nat} {x z:EV} {a:Value} (h:xZ T t x=some z) (hx:aY φ x a):∃v,(Instr.makeInterface t a).run P w=.ok v w∧aY φ z v:=by
 unfold xZ at h
 split at h
 ·rename_i i hi
  have hu:=(hT t i hi).und
  cases hd:uQ i.d with
  |false=>rw[hd] at h;cases h
  |true=>
   rw[hd] at h;cases h
   refine ⟨.iface t a,?_,a,Z,hx⟩
   unfold Instr.makeInterface
   rw[Sem.run_bind,run_underlying hu]
   revert hd
   cases i.d<;>intro hd<;>first|rfl|cases hd
 ·cases h
theorem C9 (hT:cW P T) {s d:Nat} {x z:EV} {a:Value} (h:sS T s d x=some z) (hx:aY φ x a):∃v,(convert s d a).run P w=.ok v w∧aY φ z v:=by
 unfold sS at h
 split at h
 ·rename_i i1 i2 k n h1 h2
  have hx:a=.int k n:=hx
  subst hx
  split at h
  ·rename_i k1 k2 e1 e2
   cases h
   have u1:=e1▸(hT s i1 h1).und
   have u2:=e2▸(hT d i2 h2).und
   exact ⟨_,by simp[convert,run_underlying u1,run_underlying u2,Conv.intToInt],rfl⟩
  ·cases h
 ·rename_i i1 i2 b h1 h2
  have hx:a=.string b:=hx
  subst hx
  split at h
  ·rename_i e1 e2
   cases h
   have u1:=e1▸(hT s i1 h1).und
   have u2:=e2▸(hT d i2 h2).und
   exact ⟨_,by simp[convert,run_underlying u1,run_underlying u2],rfl⟩
  ·cases h
 ·cases h
theorem E0 (hT:cW P T) {t:Nat} {x z:EV} {a:Value} (h:x8 T t x=some z) (hx:aY φ x a):∃v,(Builtin.len_ #[t] ty #[a]).run P w=.ok v w∧aY φ z v:=by
 unfold x8 at h
 split at h
 ·rename_i i hi
  have hu:=(hT t i hi).und
  split at h
  ·rename_i b hd
   have hx:a=.string b:=hx
   cases h;subst hx
   rw[hd] at hu
   exact ⟨.int .i64 b.size,by simp[Builtin.len_,run_underlying hu,goInt],by show Value.int .i64 _=Value.int .i64 _;rw[Array.length_toList];rfl⟩
  ·rename_i e _ _ n _ _ hd
   obtain ⟨_,_,_,_,rfl,_⟩:=hx
   cases h
   rw[hd] at hu
   exact ⟨.int .i64 n,by simp[Builtin.len_,run_underlying hu,goInt],rfl⟩
  ·rename_i e hd
   have hx:a=.slice none 0 0:=hx
   cases h;subst hx
   rw[hd] at hu
   exact ⟨.int .i64 0,by simp[Builtin.len_,run_underlying hu,goInt],rfl⟩
  ·cases h
 ·cases h
theorem E1 (hT:cW P T) {t:Nat} {x z:EV} {a:Value} (h:x9 T t x=some z) (hx:aY φ x a):∃v,(Builtin.cap_ #[t] ty #[a]).run P w=.ok v w∧aY φ z v:=by
 unfold x9 at h
 split at h
 ·rename_i i hi
  have hu:=(hT t i hi).und
  split at h
  ·rename_i e _ _ n _ m hd
   obtain ⟨_,_,cap,_,rfl,_,_,hc⟩:=hx
   have hc:cap=m:=hc
   cases h;subst hc
   rw[hd] at hu
   exact ⟨.int .i64 cap,by simp[Builtin.cap_,run_underlying hu,goInt],rfl⟩
  ·rename_i e hd
   have hx:a=.slice none 0 0:=hx
   cases h;subst hx
   rw[hd] at hu
   exact ⟨.int .i64 0,by simp[Builtin.cap_,run_underlying hu,goInt],rfl⟩
  ·cases h
 ·cases h
end
end
section
open Go.Proofs
theorem E2 {α:Type} [Inhabited α] (c:f6 α):∀(l:List α) (t:Nat),t<l.length*c.k→(c.vs l)[t]?=some (c.val l[t / c.k]!)[t % c.k]!
 |[],t,h=>by simp at h
 |x::l,t,h=>by
  have e:c.vs (x::l)=c.val x++c.vs l:=by unfold f6.vs;rw[List.flatMap_cons]
  rw[e]
  by_cases ht:t<c.k
  ·rw[List.getElem?_append_left (by rw[c.len];exact ht),Nat.div_eq_of_lt ht,Nat.mod_eq_of_lt ht,List.getElem!_cons_zero,qq (by rw[c.len];exact ht),getElem!_pos (c.val x) t (by rw[c.len];exact ht)]
  ·obtain ⟨s,rfl⟩:∃s,t=s+c.k:=⟨t - c.k,by omega⟩
   rw[List.getElem?_append_right (by rw[c.len];omega),c.len,Nat.add_sub_cancel,Nat.add_div_right _ c.pos,Nat.add_mod_right,List.getElem!_cons_succ]
   exact E2 c l s (by rw[List.length_cons,Nat.add_mul,Nat.one_mul] at h;omega)
theorem km (zl:List Value) (m:Nat) (h0:0<zl.length) (h1:∀u∈zl,u.oneCell'=true):madeCells zl.toArray (m*zl.length)=(List.replicate m zl).flatten.toArray:=by
 let c:f6 Unit:=⟨zl.length,fun _=>zl,h0,fun _=>rfl,fun _=>h1⟩
 have e:(List.replicate m zl).flatten=c.vs (List.replicate m ()):=by
  show _=(List.replicate m ()).flatMap fun _=>zl
  rw[List.flatMap,List.map_replicate]
 rw[e]
 apply Array.ext_getElem?
 intro t
 have e3:(c.vs (List.replicate m ())).toArray[t]?=(c.vs (List.replicate m ()))[t]?:=List.getElem?_toArray
 rw[e3]
 by_cases ht:t<m*zl.length
 ·rw[E2 c _ t (by rw[List.length_replicate];exact ht)]
  unfold madeCells
  rw[Array.getElem?_map,Array.getElem?_range,if_pos ht]
  show some (zl.toArray[t % zl.toArray.size]!)=some (zl[t % zl.length]!)
  simp
 ·rw[Array.getElem?_eq_none (by rw[size_madeCells];omega),List.getElem?_eq_none (by rw[c.vs_len,List.length_replicate];show m*zl.length≤t;omega)]
section
variable {E:World} {P:Program} {ops:Array Oper} {K:aO→OL→Prop} {env:aO} {O:OL} {rest:List Oper} {d ty:Nat} {pos:String} {af:Array Edge} {x y:Operand} {t e:TypeId}
end
end
section
def p7 {α β:Type} (f:α→Option β):List α→Option (List β)
 |[]=>some []
 |x::l=>match f x,p7 f l with
  |some y,some m=>some (y::m)
  |_,_=>none
theorem kM {φ:cN} {α:Type} {f:α→Option EV} {g:α→Value} (h:∀x a,f x=some a→aY φ a (g x)):∀(l:List α) (m:List EV),p7 f l=some m→RelVs φ m (l.map g)
 |[],m,e=>by cases e;rfl
 |x::l,m,e=>by
  unfold p7 at e
  split at e
  ·rename_i y m' h1 h2
   cases e
   exact ⟨_,_,rfl,h x y h1,kM h l m' h2⟩
  ·cases e
def Da:Nat→Value→Option EV
 |0,_=>none
 |n+1,v=>match v with
  |.bool b=>some (.b b)
  |.int k i=>some (.i k i)
  |.string s=>some (.s s)
  |.pointer none=>some .np
  |.slice none 0 0=>some .ns
  |.map none=>some .nm
  |.nilFunc=>some .nf
  |.nilIface=>some .ni
  |.agg cs=>(p7 (Da n) cs.toList).map EV.ag
  |_=>none
theorem og {φ:cN}:∀(n:Nat) (v:Value) (a:EV),Da n v=some a→aY φ a v
 |0,_,_,h=>by cases h
 |n+1,v,a,h=>by
  unfold Da at h
  split at h
  case h_9 cs=>
   obtain ⟨m,hm,rfl⟩:=Option.map_eq_some_iff.1 h
   have:=kM (φ:=φ) (g:=id) (og n) cs.toList m hm
   exact ⟨cs.toList,by simp,by simpa using this⟩
  all_goals first|(cases h;rfl)|cases h
noncomputable def cg (g:Nat→EV):Operand→Option EV
 |.tmp t=>some (g t)
 |.const v=>Da 5 v
 |.func f=>some (.fn f [] [])
 |.global _=>none
section
variable {φ:cN} {g:Nat→EV} {ρ:bU}
theorem aS (hg:eF φ g ρ) {x:Operand} {a:EV} (h:cg g x=some a):aY φ a (ev ρ x):=by
 cases x<;>simp only[cg] at h
 ·cases h;exact hg _
 ·exact og _ _ _ h
 ·cases h
 ·cases h;exact ⟨[],[],rfl,rfl,rfl⟩
theorem oh (hg:eF φ g ρ) {l:List Operand} {m:List EV} (h:p7 (cg g) l=some m):RelVs φ m (l.map (ev ρ)):=kM (fun _ _=>aS hg) l m h
end
noncomputable def uR (g:Nat→EV):Option Operand→Option (Option Nat)
 |none=>some none
 |some x=>match cg g x with
  |some (.i _ n)=>(kl n).map some
  |_=>none
theorem sT {φ:cN} {g:Nat→EV} {ρ:bU} (hg:eF φ g ρ) {x:Option Operand} {n:Option Nat} (h:uR g x=some n):wx (x.map (ev ρ)) n:=by
 cases x with
 |none=>cases h;trivial
 |some x=>
  unfold uR at h
  dsimp only at h
  split at h
  ·rename_i k i hx
   obtain ⟨j,hj,rfl⟩:=Option.map_eq_some_iff.1 h
   have:=aS hg hx
   exact ⟨k,by rw[show ev ρ x=.int k i from this,gq hj]⟩
  ·cases h
noncomputable def mO (T:TT):Nat→TypeId→EV→EV→Option Bool
 |0,_,_,_=>none
 |n+1,t,x,y=>match T t with
  |some i=>match i.d,x,y with
   |.bool,.b a,.b c=>some (a == c)
   |.int _,.i k a,.i k' c=>if k=k' then some (a == c) else none
   |.string,.s a,.s c=>some (qT a c)
   |.array len e,.ag xs,.ag ys=>match T e with
    |some ie=>(p7 (fun j=>match dV T e xs (j*ie.size),dV T e ys (j*ie.size) with
     |some a,some c=>mO T n e a c
     |_,_=>none) (List.range len)).map fun l=>l.all id
    |none=>none
   |.struct fs,.ag xs,.ag ys=>bif i.q then (p7 (fun f:Field=>match dV T f.type xs f.offset,dV T f.type ys f.offset with
     |some a,some c=>mO T n f.type a c
     |_,_=>none) fs.toList).map fun l=>l.all id
    else none
   |_,_,_=>none
  |none=>none
theorem mP {P:Program} {α:Type} {body:α→Option Bool × Unit→Sem (ForInStep (Option Bool × Unit))} {w:World}:∀(l:List α) (bs:List Bool),bs.length=l.length →
  (∀(j:Nat) (i:α) b,l[j]?=some i→bs[j]?=some b→(body i (none,())).run P w=.ok (if b=true then .yield (none,()) else .done (some false,())) w) →
  (forIn l ((none,()):Option Bool × Unit) body).run P w=.ok (if bs.all id=true then (none,()) else (some false,())) w
 |[],bs,hl,_=>by
  have:bs=[]:=List.eq_nil_of_length_eq_zero hl
  subst this
  rfl
 |i::l,[],hl,_=>by cases hl
 |i::l,b::bs,hl,h=>by
  rw[List.forIn_cons,Sem.run_bind,h 0 i b rfl rfl]
  cases b with
  |true=>
   simp only[if_pos,Result.andThen_ok]
   rw[mP l bs (by simpa using hl) fun j i' b' h1 h2=>h (j+1) i' b' h1 h2]
   simp
  |false=>simp
theorem kN {P:Program} {φ:cN} {T:TT} (hT:cW P T) {w:World}:∀(n:Nat) (t:TypeId) (x y:EV) (a c:Value) (b:Bool),mO T n t x y=some b→aY φ x a→aY φ y c→∀d,n≤d→(Op.equalIn d t a c).run P w=.ok b w
 |0,_,_,_,_,_,_,h,_,_,_,_=>by cases h
 |n+1,t,x,y,a,c,b,h,hx,hy,d,hd=>by
  obtain ⟨d,rfl⟩:∃d',d=d'+1:=⟨d - 1,by omega⟩
  unfold mO at h
  split at h
  ·rename_i i hi
   have hu:=(hT t i hi).und
   split at h
   ·rename_i a' c' hdd
    rw[hdd] at hu
    have hx:a=.bool a':=hx
    have hy:c=.bool c':=hy
    cases h;subst hx hy
    simp[Op.equalIn,run_underlying hu]
   ·rename_i k0 k a' k' c' hdd
    rw[hdd] at hu
    have hx:a=.int k a':=hx
    have hy:c=.int k' c':=hy
    subst hx hy
    split at h
    ·rename_i e
     subst e
     cases h
     simp[Op.equalIn,run_underlying hu]
    ·cases h
   ·rename_i a' c' hdd
    rw[hdd] at hu
    have hx:a=.string a':=hx
    have hy:c=.string c':=hy
    cases h;subst hx hy
    have e:(a' == c')=decide (a'=c'):=by
     cases hb:(a' == c') with
     |true=>rw[w4 ((MapKept.bytes_beq a' c').1 hb)]
     |false=>rw[w5 fun q=>by rw[(MapKept.bytes_beq a' c').2 q] at hb;cases hb]
    rw[iT,←e]
    simp[Op.equalIn,run_underlying hu]
   ·rename_i len e xs ys hdd
    rw[hdd] at hu
    obtain ⟨vs,rfl,hv⟩:=hx
    obtain ⟨us,rfl,hu2⟩:=hy
    split at h
    ·rename_i ie hie
     have hTe:=hT e ie hie
     obtain ⟨bs,hbs,rfl⟩:=Option.map_eq_some_iff.1 h
     have hget:∀(l:List Nat) (bs:List Bool),p7 (fun j=>match dV T e xs (j*ie.size),dV T e ys (j*ie.size) with
       |some a,some c=>mO T n e a c
       |_,_=>none) l=some bs→bs.length=l.length∧∀(j i:Nat) b,l[j]?=some i→bs[j]?=some b→∃p q,dV T e xs (i*ie.size)=some p∧dV T e ys (i*ie.size)=some q∧mO T n e p q=some b:=by
      intro l
      induction l with
      |nil=>intro bs hb;cases hb;exact ⟨rfl,fun j i b h=>by simp at h⟩
      |cons i0 l ih=>
       intro bs hb
       unfold p7 at hb
       split at hb
       ·rename_i y m h1 h2
        cases hb
        obtain ⟨g1,g2⟩:=ih m h2
        refine ⟨by simp[g1],fun j i b h3 h4=>?_⟩
        cases j with
        |zero=>
         simp only[List.getElem?_cons_zero,Option.some.injEq] at h3 h4
         subst h3 h4
         split at h1
         ·rename_i p q e1 e2;exact ⟨p,q,e1,e2,h1⟩
         ·cases h1
        |succ j=>simp only[List.getElem?_cons_succ] at h3 h4;exact g2 j i b h3 h4
       ·cases hb
     obtain ⟨g1,g2⟩:=hget _ _ hbs
     rw[Op.equalIn]
     simp only[Sem.run_bind,run_underlying hu,Result.andThen_ok,hTe.sz]
     rw[Std.Legacy.Range.forIn_eq_forIn_range']
     have hr:List.range' 0 (Std.Legacy.Range.size [:len]) 1=List.range len:=by
      simp[Std.Legacy.Range.size,List.range_eq_range']
     rw[show List.range' ([:len]:Std.Legacy.Range).start ([:len]:Std.Legacy.Range).size ([:len]:Std.Legacy.Range).step=List.range len from hr]
     rw[mP (List.range len) bs g1 fun j i b h1 h2=>by
      obtain ⟨p,q,e1,e2,e3⟩:=g2 j i b h1 h2
      obtain ⟨v1,k1,k2⟩:=fh (w:=w) hT e1 hv
      obtain ⟨v2,k3,k4⟩:=fh (w:=w) hT e2 hu2
      have k5:=kN (w:=w) hT n e p q v1 v2 b e3 k2 k4 d (by omega)
      simp only[Sem.run_bind,k1,k3,k5,Result.andThen_ok]
      cases b<;>rfl]
     cases hall:bs.all id<;>simp
    ·cases h
   ·rename_i fs xs ys hdd
    have hq:=(hT t i hi).qd
    rw[hdd] at hu
    obtain ⟨vs,rfl,hv⟩:=hx
    obtain ⟨us,rfl,hu2⟩:=hy
    cases hqq:i.q with
    |false=>rw[hqq] at h;cases h
    |true=>
     rw[hqq] at h
     simp only[cond_true] at h
     obtain ⟨hs1,hs2⟩:=hq hqq
     have hs2:=hs2 fs hdd
     obtain ⟨bs,hbs,rfl⟩:=Option.map_eq_some_iff.1 h
     have hget:∀(l:List Field) (bs:List Bool),p7 (fun f:Field=>match dV T f.type xs f.offset,dV T f.type ys f.offset with
       |some a,some c=>mO T n f.type a c
       |_,_=>none) l=some bs→bs.length=l.length∧∀(j:Nat) (f:Field) b,l[j]?=some f→bs[j]?=some b→∃p q,dV T f.type xs f.offset=some p∧dV T f.type ys f.offset=some q∧mO T n f.type p q=some b:=by
      intro l
      induction l with
      |nil=>intro bs hb;cases hb;exact ⟨rfl,fun j i b h=>by simp at h⟩
      |cons i0 l ih=>
       intro bs hb
       unfold p7 at hb
       split at hb
       ·rename_i y m h1 h2
        cases hb
        obtain ⟨g1,g2⟩:=ih m h2
        refine ⟨by simp[g1],fun j i b h3 h4=>?_⟩
        cases j with
        |zero=>
         simp only[List.getElem?_cons_zero,Option.some.injEq] at h3 h4
         subst h3 h4
         split at h1
         ·rename_i p q e1 e2;exact ⟨p,q,e1,e2,h1⟩
         ·cases h1
        |succ j=>simp only[List.getElem?_cons_succ] at h3 h4;exact g2 j i b h3 h4
       ·cases hb
     obtain ⟨g1,g2⟩:=hget _ _ hbs
     rw[Op.equalIn]
     have hpr:(program:Sem Program).run P w=.ok P w:=rfl
     simp only[Sem.run_bind,run_underlying hu,Result.andThen_ok,hpr,hs1]
     rw[if_neg (by decide)]
     simp only[Sem.run_bind,Sem.run_pure,Result.andThen_ok]
     rw[←Array.forIn_toList]
     rw[mP fs.toList bs g1 fun j f b h1 h2=>by
      obtain ⟨p,q,e1,e2,e3⟩:=g2 j f b h1 h2
      obtain ⟨v1,k1,k2⟩:=fh (w:=w) hT e1 hv
      obtain ⟨v2,k3,k4⟩:=fh (w:=w) hT e2 hu2
      have k5:=kN (w:=w) hT n f.type p q v1 v2 b e3 k2 k4 d (by omega)
      rw[if_pos (hs2 f (w0 h1))]
      simp only[Sem.run_bind,k1,k3,k5,Result.andThen_ok]
      cases b<;>rfl]
     cases hall:bs.all id<;>simp
   ·cases h
  ·cases h
noncomputable def E3 (T:TT) (i:TI) (t:Nat) (v:EV) (ok:Bool):Option EV:=match i.d,T t with
 |.interface want,some it=>bif it.mi want then some (bif ok then .tu [.ifc t v,.b true] else .ifc t v) else bif ok then some (.tu [i.v,.b false]) else none
 |_,_=>none
noncomputable def Jm (T:TT) (g:Nat→EV) (op:Op):Option EV:=
 match op with
 |.move x | .assign x=>cg g x
 |.pick c a b=>match cg g c with
  |some (.b t)=>bif t then cg g a else cg g b
  |_=>none
 |.binOp op t x y _=>match cg g x,cg g y with
  |some a,some b=>match xW T op t y a b with
   |some z=>some z
   |none=>match op,a,b,T t with
    |.eql,.ag l,.ag m,some i=>bif i.g then (mO T 9 t (.ag l) (.ag m)).map EV.b else none
    |.neq,.ag l,.ag m,some i=>bif i.g then (mO T 9 t (.ag l) (.ag m)).map fun z=>.b (!z) else none
    |_,_,_,_=>none
  |_,_=>none
 |.unOp op _ x=>match cg g x with
  |some a=>G5 op a
  |none=>none
 |.extract x i=>match cg g x with
  |some (.tu l)=>l[i]?
  |_=>none
 |.nilCheck x=>match cg g x with
  |some (.p b off)=>some (.p b off)
  |_=>none
 |.fieldAddr t x f=>match cg g x with
  |some (.p b off)=>n6 T t f b off
  |_=>none
 |.field t x f=>match cg g x with
  |some (.ag cs)=>oa T t f cs
  |_=>none
 |.indexAddr t x y=>match cg g x,cg g y with
  |some a,some (.i _ n)=>sQ T t a n
  |_,_=>none
 |.index t x y=>match cg g x,cg g y with
  |some a,some (.i _ n)=>xY T t a n
  |_,_=>none
 |.build t ps=>match p7 (fun p:Nat × Operand=>cg g p.2) ps.toList with
  |some vs=>oc T t (ps.toList.map (·.1)) vs
  |none=>none
 |.slice t x lo hi mx=>match cg g x,uR g lo,uR g hi,uR g mx with
  |some a,some lo',some hi',some mx'=>G7 T t a lo' hi' mx'
  |_,_,_,_=>none
 |.convert s d x=>match cg g x with
  |some a=>sS T s d a
  |none=>none
 |.makeInterface t x=>match cg g x with
  |some a=>xZ T t a
  |none=>none
 |.makeFunc (.func f) a c=>match p7 (cg g) a.toList,p7 (cg g) c.toList with
  |some l,some m=>some (.fn f l m)
  |_,_=>none
 |.typeAssert x _ A ok=>match cg g x,T A with
  |some (.ifc t v),some i=>bif uQ i.d then (bif Nat.beq t A then some (bif ok then .tu [v,.b true] else v) else bif ok then some (.tu [i.v,.b false]) else none) else E3 T i t v ok
  |some .ni,some i=>bif uQ i.d&&ok then some (.tu [i.v,.b false]) else none
  |_,_=>none
 |.call ⟨.builtin .len,ar,ts⟩=>match ar.toList,ts.toList with
  |[x],[t]=>match cg g x with
   |some a=>x8 T t a
   |none=>none
  |_,_=>none
 |.call ⟨.builtin .cap,ar,ts⟩=>match ar.toList,ts.toList with
  |[x],[t]=>match cg g x with
   |some a=>x9 T t a
   |none=>none
  |_,_=>none
 |.call ⟨.builtin .min,ar,_⟩=>match ar.toList with
  |[x,y]=>match cg g x,cg g y with
   |some (.i k a),some (.i k' b)=>if k=k' then some (.i k (if b<a then b else a)) else none
   |_,_=>none
  |_=>none
 |.call ⟨.builtin .max,ar,_⟩=>match ar.toList with
  |[x,y]=>match cg g x,cg g y with
   |some (.i k a),some (.i k' b)=>if k=k' then some (.i k (if a<b then b else a)) else none
   |_,_=>none
  |_=>none
 |_=>none
noncomputable def G9 (g:Nat→EV) (c a b:Operand):Option EV:=match cg g c with
 |some (.b t)=>bif t then cg g a else cg g b
 |_=>none
noncomputable def Ha (T:TT) (op:BinOp) (t:TypeId) (a b:EV):Option EV:=match op,a,b,T t with
 |.eql,.ag l,.ag m,some i=>bif i.g then (mO T 9 t (.ag l) (.ag m)).map EV.b else none
 |.neq,.ag l,.ag m,some i=>bif i.g then (mO T 9 t (.ag l) (.ag m)).map fun z=>.b (!z) else none
 |_,_,_,_=>none
noncomputable def Jn (T:TT) (g:Nat→EV) (op:BinOp) (t:TypeId) (x y:Operand):Option EV:=match cg g x,cg g y with
 |some a,some b=>match xW T op t y a b with
  |some z=>some z
  |none=>Ha T op t a b
 |_,_=>none
noncomputable def Kx (g:Nat→EV) (op:UnOp) (x:Operand):Option EV:=match cg g x with
 |some a=>G5 op a
 |none=>none
noncomputable def Jo (g:Nat→EV) (x:Operand) (i:Nat):Option EV:=match cg g x with
 |some (.tu l)=>l[i]?
 |_=>none
noncomputable def Jp (g:Nat→EV) (x:Operand):Option EV:=match cg g x with
 |some (.p b off)=>some (.p b off)
 |_=>none
noncomputable def Ky (T:TT) (g:Nat→EV) (t:Nat) (x:Operand) (f:Nat):Option EV:=match cg g x with
 |some (.p b off)=>n6 T t f b off
 |_=>none
noncomputable def Kz (T:TT) (g:Nat→EV) (t:Nat) (x:Operand) (f:Nat):Option EV:=match cg g x with
 |some (.ag cs)=>oa T t f cs
 |_=>none
noncomputable def KA (T:TT) (g:Nat→EV) (t:Nat) (x y:Operand):Option EV:=match cg g x,cg g y with
 |some a,some (.i _ n)=>sQ T t a n
 |_,_=>none
noncomputable def KB (T:TT) (g:Nat→EV) (t:Nat) (x y:Operand):Option EV:=match cg g x,cg g y with
 |some a,some (.i _ n)=>xY T t a n
 |_,_=>none
noncomputable def Jq (T:TT) (g:Nat→EV) (t:Nat) (ps:Array (Nat × Operand)):Option EV:=match p7 (fun p:Nat × Operand=>cg g p.2) ps.toList with
 |some vs=>oc T t (ps.toList.map (·.1)) vs
 |none=>none
noncomputable def KC (T:TT) (g:Nat→EV) (t:Nat) (x:Operand) (lo hi mx:Option Operand):Option EV:=match cg g x,uR g lo,uR g hi,uR g mx with
 |some a,some lo',some hi',some mx'=>G7 T t a lo' hi' mx'
 |_,_,_,_=>none
noncomputable def KD (T:TT) (g:Nat→EV) (s d:Nat) (x:Operand):Option EV:=match cg g x with
 |some a=>sS T s d a
 |none=>none
noncomputable def KE (T:TT) (g:Nat→EV) (t:Nat) (x:Operand):Option EV:=match cg g x with
 |some a=>xZ T t a
 |none=>none
noncomputable def KF (g:Nat→EV) (fn:Go.Fn) (a c:Array Operand):Option EV:=match fn with
 |.func f=>match p7 (cg g) a.toList,p7 (cg g) c.toList with
  |some l,some m=>some (.fn f l m)
  |_,_=>none
 |_=>none
noncomputable def KG (T:TT) (g:Nat→EV) (x:Operand) (A:TypeId) (ok:Bool):Option EV:=match cg g x,T A with
 |some (.ifc t v),some i=>bif uQ i.d then (bif Nat.beq t A then some (bif ok then .tu [v,.b true] else v) else bif ok then some (.tu [i.v,.b false]) else none) else E3 T i t v ok
 |some .ni,some i=>bif uQ i.d&&ok then some (.tu [i.v,.b false]) else none
 |_,_=>none
noncomputable def Jr (T:TT) (g:Nat→EV) (ar:Array Operand) (ts:Array TypeId):Option EV:=match ar.toList,ts.toList with
 |[x],[t]=>match cg g x with
  |some a=>x8 T t a
  |none=>none
 |_,_=>none
noncomputable def Js (T:TT) (g:Nat→EV) (ar:Array Operand) (ts:Array TypeId):Option EV:=match ar.toList,ts.toList with
 |[x],[t]=>match cg g x with
  |some a=>x9 T t a
  |none=>none
 |_,_=>none
noncomputable def Jt (g:Nat→EV) (ar:Array Operand):Option EV:=match ar.toList with
 |[x,y]=>match cg g x,cg g y with
  |some (.i k a),some (.i k' b)=>if k=k' then some (.i k (if b<a then b else a)) else none
  |_,_=>none
 |_=>none
noncomputable def Ju (g:Nat→EV) (ar:Array Operand):Option EV:=match ar.toList with
 |[x,y]=>match cg g x,cg g y with
  |some (.i k a),some (.i k' b)=>if k=k' then some (.i k (if a<b then b else a)) else none
  |_,_=>none
 |_=>none
noncomputable def KH (T:TT) (g:Nat→EV) (b:Builtin) (ar:Array Operand) (ts:Array TypeId):Option EV:=match b with
 |.len=>Jr T g ar ts
 |.cap=>Js T g ar ts
 |.min=>Jt g ar
 |.max=>Ju g ar
 |_=>none
noncomputable def KI (T:TT) (g:Nat→EV) (c:Call):Option EV:=match c with
 |⟨.builtin b,ar,ts⟩=>KH T g b ar ts
 |_=>none
noncomputable def KJ (T:TT) (g:Nat→EV) (op:Op):Option EV:=
 match op with
 |.move x=>cg g x
 |.assign x=>cg g x
 |.pick c a b=>G9 g c a b
 |.binOp op t x y _=>Jn T g op t x y
 |.unOp op _ x=>Kx g op x
 |.extract x i=>Jo g x i
 |.nilCheck x=>Jp g x
 |.fieldAddr t x f=>Ky T g t x f
 |.field t x f=>Kz T g t x f
 |.indexAddr t x y=>KA T g t x y
 |.index t x y=>KB T g t x y
 |.build t ps=>Jq T g t ps
 |.slice t x lo hi mx=>KC T g t x lo hi mx
 |.convert s d x=>KD T g s d x
 |.makeInterface t x=>KE T g t x
 |.makeFunc fn a c=>KF g fn a c
 |.typeAssert x _ A ok=>KG T g x A ok
 |.call c=>KI T g c
 |_=>none
theorem Jv (T:TT) (g:Nat→EV) (op:Op):KJ T g op=Jm T g op:=by
 cases op<;>try rfl
 case makeFunc fn a c=>cases fn<;>rfl
 case call c=>
  obtain ⟨cl,ar,ts⟩:=c
  cases cl<;>try rfl
  rename_i b
  cases b<;>rfl
theorem gr {P:Program} {s:Sem Value} {v:Value} {w w':World} (h:s.run P w=.ok v w'):(do pure (Next.value (←s)):Sem Next).run P w=.ok (.value v) w':=by
 rw[Sem.run_bind,h];rfl
theorem Db {α:Type} {a:Array α} {x:α} (h:a.toList=[x]):a=#[x]:=Array.toList_inj.1 h
theorem Dc {α:Type} {a:Array α} {x y:α} (h:a.toList=[x,y]):a=#[x,y]:=Array.toList_inj.1 h
section
variable {P:Program} {φ:cN} {g:Nat→EV} {ρ:bU} {w:World} {T:TT}
theorem Hb (hT:cW P T) (hg:eF φ g ρ) {o:Oper} {x:EV} (h:Jm T g o.op=some x):∃v,(execOp (ev ρ) o).run P w=.ok (.value v) w∧aY φ x v:=by
 obtain ⟨dst,op,ty,pos,af,gu⟩:=o
 dsimp only at h
 unfold Jm at h
 split at h
 ·exact ⟨_,rfl,aS hg h⟩
 ·exact ⟨_,rfl,aS hg h⟩
 ·split at h
  ·rename_i c a b _ t hc
   have hc:ev ρ c=.bool t:=aS hg hc
   cases t
   ·exact ⟨_,by simp[execOp,hc,asBool],aS hg h⟩
   ·exact ⟨_,by simp[execOp,hc,asBool],aS hg h⟩
  ·cases h
 ·split at h
  ·rename_i op t x y u _ _ a b hx hy
   split at h
   ·rename_i z hz
    cases h
    obtain ⟨v,h1,h2⟩:=EX (w:=w) (p:=x) hT hz (aS hg hx) (aS hg hy)
    exact ⟨v,gr h1,h2⟩
   ·split at h
    ·rename_i l m i hi _
     cases hgd:i.g with
     |false=>rw[hgd] at h;cases h
     |true=>
      rw[hgd] at h
      obtain ⟨r,hr,rfl⟩:=Option.map_eq_some_iff.1 h
      obtain ⟨vs,e1,h1⟩:=aS hg hx
      obtain ⟨us,e2,h2⟩:=aS hg hy
      have he:=kN (w:=w) hT 9 t _ _ _ _ r hr ⟨vs,e1,h1⟩ ⟨us,e2,h2⟩ 10000 (by omega)
      have hgg:=(hT t i hi).gd hgd
      refine ⟨.bool r,?_,Z⟩
      rw[e1,e2] at he
      simp only[execOp,e1,e2]
      simp[run_eqGuard_agg w .eql t x y vs.toArray us.toArray hgg,run_eql_struct,he]
    ·rename_i l m i hi _
     cases hgd:i.g with
     |false=>rw[hgd] at h;cases h
     |true=>
      rw[hgd] at h
      obtain ⟨r,hr,rfl⟩:=Option.map_eq_some_iff.1 h
      obtain ⟨vs,e1,h1⟩:=aS hg hx
      obtain ⟨us,e2,h2⟩:=aS hg hy
      have he:=kN (w:=w) hT 9 t _ _ _ _ r hr ⟨vs,e1,h1⟩ ⟨us,e2,h2⟩ 10000 (by omega)
      have hgg:=(hT t i hi).gd hgd
      refine ⟨.bool (!r),?_,Z⟩
      rw[e1,e2] at he
      simp only[execOp,e1,e2]
      simp[run_eqGuard_agg w .neq t x y vs.toArray us.toArray hgg,run_neq_struct,he]
    ·cases h
  ·cases h
 ·split at h
  ·rename_i a hx
   obtain ⟨v,h1,h2⟩:=G6 (P:=P) (w:=w) h (aS hg hx)
   exact ⟨v,gr h1,h2⟩
  ·cases h
 ·split at h
  ·rename_i x i _ l hx
   obtain ⟨vs,he,h1⟩:=aS hg hx
   obtain ⟨v,h2,h3⟩:=h1.get h
   refine ⟨v,gr ?_,h3⟩
   rw[he]
   simp[Instr.extract,h2]
  ·cases h
 ·split at h
  ·rename_i x _ b off hx
   cases h
   obtain ⟨q,hq,he⟩:=aS hg hx
   exact ⟨_,by simp[execOp,he],q,hq,rfl⟩
  ·cases h
 ·split at h
  ·rename_i hx
   obtain ⟨v,h1,h2⟩:=wv (w:=w) hT h (aS hg hx)
   exact ⟨v,gr h1,h2⟩
  ·cases h
 ·split at h
  ·rename_i hx
   obtain ⟨v,h1,h2⟩:=ww (w:=w) hT h (aS hg hx)
   exact ⟨v,gr h1,h2⟩
  ·cases h
 ·split at h
  ·rename_i hx hy
   obtain ⟨v,h1,h2⟩:=C8 (w:=w) hT h (aS hg hx) (aS hg hy)
   exact ⟨v,gr h1,h2⟩
  ·cases h
 ·split at h
  ·rename_i hx hy
   obtain ⟨v,h1,h2⟩:=EY (w:=w) hT h (aS hg hx) (aS hg hy)
   exact ⟨v,gr h1,h2⟩
  ·cases h
 ·split at h
  ·rename_i t ps _ vs hx
   have h1:=kM (φ:=φ) (g:=fun p:Nat × Operand=>ev ρ p.2) (fun p a hp=>aS hg hp) ps.toList vs hx
   obtain ⟨v,h2,h3⟩:=wy (w:=w) (parts:=ps.toList.map fun p=>(p.1,ev ρ p.2)) hT (by rw[List.map_map];exact h) (by rw[List.map_map];exact h1)
   refine ⟨v,gr ?_,h3⟩
   have e:((ps.toList.map fun p=>(p.1,ev ρ p.2)).toArray)=ps.map fun p=>(p.1,ev ρ p.2):=by apply Array.toList_inj.1;simp
   rw[e] at h2
   exact h2
  ·cases h
 ·split at h
  ·rename_i hx h1 h2 h3
   obtain ⟨v,h4,h5⟩:=G8 (w:=w) hT h (aS hg hx) (sT hg h1) (sT hg h2) (sT hg h3)
   exact ⟨v,gr h4,h5⟩
  ·cases h
 ·split at h
  ·rename_i hx
   obtain ⟨v,h1,h2⟩:=C9 (w:=w) hT h (aS hg hx)
   exact ⟨v,gr h1,h2⟩
  ·cases h
 ·split at h
  ·rename_i hx
   obtain ⟨v,h1,h2⟩:=EZ (w:=w) hT h (aS hg hx)
   exact ⟨v,gr h1,h2⟩
  ·cases h
 ·split at h
  ·rename_i f a c _ _ l m h1 h2
   cases h
   refine ⟨.func (.func f) (a.map (ev ρ)) (c.map (ev ρ)),by simp[execOp,Instr.makeFunc],_,_,?_,oh hg h1,oh hg h2⟩
   congr 1<;>(apply Array.toList_inj.1;simp)
  ·cases h
 ·rename_i x' X A ok
  split at h
  ·rename_i t v i hx hi
   obtain ⟨u,he,hr⟩:=aS hg hx
   have hu:=(hT A i hi).und
   obtain ⟨zv,hz,hzr⟩:=(hT A i hi).zeroV
   cases hd:uQ i.d with
   |false=>
    rw[hd] at h
    simp only[cond_false] at h
    unfold E3 at h
    split at h
    ·rename_i want it hw hit
     rw[hw] at hu
     obtain ⟨f,hf,hmi⟩:=(hT t it hit).md
     have hmi:=hmi want
     have hpr:∀w,(program:Sem Program).run P w=.ok P w:=fun _=>rfl
     have hti:∀w,(typeInfo t).run P w=.ok f w:=fun w=>by
      simp only[typeInfo,Sem.run_bind,hpr,Result.andThen_ok,hf]
      rfl
     cases hb:it.mi want with
     |true=>
      rw[hb] at h hmi
      have hm:Instr.missingMethod want f.methods=none:=Option.isNone_iff_eq_none.1 hmi
      cases ok with
      |true=>
       cases h
       refine ⟨.tuple #[.iface t u,.bool true],?_,[.iface t u,.bool true],Z,_,_,Z,⟨u,Z,hr⟩,_,_,Z,Z,Z⟩
       simp only[execOp,Instr.typeAssert,Sem.run_bind,run_underlying hu,he,Result.andThen_ok,hti,hm]
       rfl
      |false=>
       cases h
       refine ⟨.iface t u,?_,⟨u,Z,hr⟩⟩
       simp only[execOp,Instr.typeAssert,Sem.run_bind,run_underlying hu,he,Result.andThen_ok,hti,hm]
       rfl
     |false=>
      rw[hb] at h hmi
      cases ok with
      |false=>cases h
      |true=>
       cases h
       obtain ⟨m,hm⟩:∃m,Instr.missingMethod want f.methods=some m:=by
        cases hq:Instr.missingMethod want f.methods with
        |none=>rw[hq] at hmi;cases hmi
        |some m=>exact ⟨m,rfl⟩
       refine ⟨.tuple #[zv,.bool false],?_,[zv,.bool false],Z,_,_,Z,hzr φ,_,_,Z,Z,Z⟩
       simp only[execOp,Instr.typeAssert,Sem.run_bind,run_underlying hu,he,Result.andThen_ok,hti,hm,if_true,hz]
       rfl
    ·cases h
   |true=>
    rw[hd] at h
    simp only[cond_true] at h
    cases htA:Nat.beq t A with
    |true=>
     rw[htA] at h
     have htA:=Nat.eq_of_beq_eq_true htA
     subst htA
     cases ok with
     |true=>
      cases h
      refine ⟨.tuple #[u,.bool true],?_,[u,.bool true],Z,_,_,Z,hr,_,_,Z,Z,Z⟩
      simp only[execOp,Instr.typeAssert,Sem.run_bind,run_underlying hu,he]
      revert hd
      cases i.d<;>intro hd<;>first|(simp;done)|cases hd
     |false=>
      cases h
      refine ⟨u,?_,hr⟩
      simp only[execOp,Instr.typeAssert,Sem.run_bind,run_underlying hu,he]
      revert hd
      cases i.d<;>intro hd<;>first|(simp;done)|cases hd
    |false=>
     rw[htA] at h
     have hne:¬t=A:=fun e=>by rw[e,show Nat.beq A A=true from Nat.beq_refl A] at htA;cases htA
     cases ok with
     |false=>cases h
     |true=>
      cases h
      refine ⟨.tuple #[zv,.bool false],?_,[zv,.bool false],Z,_,_,Z,hzr φ,_,_,Z,Z,Z⟩
      simp only[execOp,Instr.typeAssert,Sem.run_bind,run_underlying hu,he]
      revert hd
      cases i.d<;>intro hd<;>first|(simp[hne,hz];done)|cases hd
  ·rename_i i hx hi
   have he:ev ρ x'=.nilIface:=aS hg hx
   have hu:=(hT A i hi).und
   obtain ⟨zv,hz,hzr⟩:=(hT A i hi).zeroV
   cases hd:uQ i.d with
   |false=>rw[hd] at h;cases h
   |true=>
    rw[hd] at h
    cases ok with
    |false=>cases h
    |true=>
     cases h
     refine ⟨.tuple #[zv,.bool false],?_,[zv,.bool false],Z,_,_,Z,hzr φ,_,_,Z,Z,Z⟩
     simp only[execOp,Instr.typeAssert,Sem.run_bind,run_underlying hu,he]
     revert hd
     cases i.d<;>intro hd<;>first|(simp[hz];done)|cases hd
  ·cases h
 ·split at h
  ·rename_i ar ts _ _ x t h1 h2
   have h1:=Db h1
   have h2:=Db h2
   subst h1 h2
   split at h
   ·rename_i a hx
    obtain ⟨v,h3,h4⟩:=E0 (w:=w) (ty:=ty) hT h (aS hg hx)
    exact ⟨v,by simp[execOp,resolve,invoke,builtin,h3],h4⟩
   ·cases h
  ·cases h
 ·split at h
  ·rename_i ar ts _ _ x t h1 h2
   have h1:=Db h1
   have h2:=Db h2
   subst h1 h2
   split at h
   ·rename_i a hx
    obtain ⟨v,h3,h4⟩:=E1 (w:=w) (ty:=ty) hT h (aS hg hx)
    exact ⟨v,by simp[execOp,resolve,invoke,builtin,h3],h4⟩
   ·cases h
  ·cases h
 ·split at h
  ·rename_i ar ts _ x y h1
   have h1:=Dc h1
   subst h1
   split at h
   ·rename_i k a k' b hx hy
    have hx:ev ρ x=.int k a:=aS hg hx
    have hy:ev ρ y=.int k' b:=aS hg hy
    split at h
    ·rename_i e
     subst e
     cases h
     refine ⟨.int k (if b<a then b else a),?_,Z⟩
     simp[execOp,resolve,invoke,builtin,hx,hy,Builtin.min_,Builtin.min2,Result.andThen]
    ·cases h
   ·cases h
  ·cases h
 ·split at h
  ·rename_i ar ts _ x y h1
   have h1:=Dc h1
   subst h1
   split at h
   ·rename_i k a k' b hx hy
    have hx:ev ρ x=.int k a:=aS hg hx
    have hy:ev ρ y=.int k' b:=aS hg hy
    split at h
    ·rename_i e
     subst e
     cases h
     refine ⟨.int k (if a<b then b else a),?_,Z⟩
     simp[execOp,resolve,invoke,builtin,hx,hy,Builtin.max_,Builtin.max2,Result.andThen]
    ·cases h
   ·cases h
  ·cases h
 ·cases h
theorem E4 (hT:cW P T) (hg:eF φ g ρ) {o:Oper} {x:EV} (h:KJ T g o.op=some x):∃v,(execOp (ev ρ) o).run P w=.ok (.value v) w∧aY φ x v:=Hb hT hg (Jv T g o.op▸h)
end
end
section
open Go.Proofs
def iB:TypeDesc→EV→Bool
 |.bool,.b _=>true
 |.int k,.i k' _=>decide (k'=k)
 |.string,.s _=>true
 |_,_=>false
def jD:EV→EV→Bool
 |.b a,.b b=>a == b
 |.i k n,.i k' m=>decide (k=k')&&decide (n=m)
 |.s a,.s b=>qT a b
 |_,_=>false
def m9 (k:EV):List (EV × EV)→Nat→Option (Nat × EV)
 |[],_=>none
 |x::l,i=>bif jD k x.1 then some (i,x.2) else m9 k l (i+1)
theorem kO {φ:cN} {d:TypeDesc} {x:EV} {v:Value} (h:iB d x=true) (hr:aY φ x v):MapKept.IsKey d v:=by
 cases d<;>cases x<;>simp only[iB] at h<;>first|(cases h;done)|skip
 ·have hr:v=.bool _:=hr
  subst hr;trivial
 ·have hr:v=.int _ _:=hr
  subst hr;have h2:=w9 h;exact h2
 ·have hr:v=.string _:=hr
  subst hr;trivial
theorem Dd {φ:cN} {d:TypeDesc} {x y:EV} {v u:Value} (h:iB d x=true) (k:iB d y=true) (hr:aY φ x v) (kr:aY φ y u):jD x y=true↔v=u:=by
 cases d<;>cases x<;>simp only[iB] at h<;>first|(cases h;done)|skip
 all_goals (cases y<;>simp only[iB] at k<;>first|(cases k;done)|skip)
 ·have hr:v=.bool _:=hr
  have kr:u=.bool _:=kr
  subst hr kr;simp[jD]
 ·have hr:v=.int _ _:=hr
  have kr:u=.int _ _:=kr
  subst hr kr;simp[jD]
 ·have hr:v=.string _:=hr
  have kr:u=.string _:=kr
  subst hr kr;simp[jD,iT]
theorem uS {φ:cN} {d:TypeDesc} {k:EV} {kv:Value} (hk:iB d k=true) (hr:aY φ k kv):∀(es:List (EV × EV)) (ms:List MapEntry) (i:Nat),cV φ es ms→es.all (fun x=>iB d x.1)=true →
  (m9 k es i=none∧Instr.findNow d kv ms i=some none∧∀x∈ms,x.key≠kv)∨∃j x e,m9 k es i=some (i+j,x)∧Instr.findNow d kv ms i=some (some (i+j,e.val))∧aY φ x e.val∧ms[j]?=some e∧e.key=kv
 |[],ms,i,h,_=>by
  have h:ms=[]:=h
  subst h
  exact .inl ⟨rfl,rfl,by simp⟩
 |x::es,ms,i,h,ha=>by
  obtain ⟨e,r,rfl,h1,h2,h3⟩:=h
  simp only[List.all_cons,w6] at ha
  obtain ⟨s,hs,hiff⟩:=MapKept.sameNow_of_keys (kO hk hr) (kO ha.1 h1)
  have hke:=Dd hk ha.1 hr h1
  unfold m9
  cases s with
  |true=>
   have he:=hiff.1 rfl
   have:jD k x.1=true:=hke.2 he
   rw[this]
   exact .inr ⟨0,x.2,e,rfl,by simp[Instr.findNow,hs],h2,rfl,he.symm⟩
  |false=>
   have hne:kv≠e.key:=fun q=>by have:=hiff.2 q;cases this
   have:jD k x.1=false:=by cases q:jD k x.1 with
    |false=>rfl
    |true=>exact absurd (hke.1 q) hne
   rw[this]
   rcases uS hk hr es r (i+1) h3 ha.2 with ⟨g1,g2,g3⟩|⟨j,y,e',g1,g2,g3,g4,g5⟩
   ·refine .inl ⟨g1,by simp[Instr.findNow,hs,g2],fun z hz=>?_⟩
    rcases List.mem_cons.1 hz with rfl|hz
    ·exact fun q=>hne q.symm
    ·exact g3 z hz
   ·refine .inr ⟨j+1,y,e',?_,?_,g3,by simpa using g4,g5⟩
    ·show m9 k es (i+1)=_
     rw[g1];congr 2;omega
    ·simp[Instr.findNow,hs,g2];omega
def yA:EV→Bool
 |.b _=>true
 |.i _ _=>true
 |.s _=>true
 |_=>false
def wz:List EV→List EV→Bool
 |[],[]=>true
 |x::l,y::m=>jD x y&&wz l m
 |_,_=>false
def sU:EV→EV→Bool
 |.ag l,.ag m=>wz l m
 |_,_=>false
noncomputable def wA (T:TT) (i:TI):EV→Bool
 |.ag l=>match i.d with
  |.struct fs=>l.all yA&&i.q&&fs.toList.all fun f=>match T f.type,dV T f.type l f.offset with
   |some j,some x=>iB j.d x
   |_,_=>false
  |_=>false
 |_=>false
noncomputable def yB (T:TT) (kt:Nat) (k:EV):List (EV × EV)→Nat→Option (Option (Nat × EV))
 |[],_=>some none
 |x::l,i=>match mO T 5 kt k x.1 with
  |some true=>bif sU k x.1 then some (some (i,x.2)) else none
  |some false=>yB T kt k l (i+1)
  |none=>none
noncomputable def na (T:TT) (kt:Nat) (i:TI) (k:EV) (es:List (EV × EV)):Option (Option (Nat × EV)):=
 bif iB i.d k then (bif es.all (fun x=>iB i.d x.1) then some (m9 k es 0) else none)
 else bif wA T i k then yB T kt k es 0 else none
theorem E5 {φ:cN} {x y:EV} {v u:Value} (h:jD x y=true) (hr:aY φ x v) (kr:aY φ y u):v=u:=by
 cases x<;>cases y<;>simp only[jD] at h<;>first|(cases h;done)|skip
 ·have hr:v=.bool _:=hr
  have kr:u=.bool _:=kr
  subst hr kr
  rw[eq_of_beq h]
 ·have hr:v=.int _ _:=hr
  have kr:u=.int _ _:=kr
  simp only[w6,wa] at h
  subst hr kr
  rw[h.1,h.2]
 ·have hr:v=.string _:=hr
  have kr:u=.string _:=kr
  subst hr kr
  rw[iT] at h
  rw[w9 h]
theorem rX {φ:cN}:∀{x y:List EV} {v u:List Value},wz x y=true→RelVs φ x v→RelVs φ y u→v=u
 |[],[],v,u,_,hr,kr=>by
  have hr:v=[]:=hr
  have kr:u=[]:=kr
  rw[hr,kr]
 |[],_::_,_,_,h,_,_=>by cases h
 |_::_,[],_,_,h,_,_=>by cases h
 |x::l,y::m,_,_,h,⟨v,vs,e1,a1,a2⟩,⟨u,us,e2,b1,b2⟩=>by
  have h:=(w6 _ _).mp h
  rw[e1,e2,E5 h.1 a1 b1,rX h.2 a2 b2]
theorem De {φ:cN} {x y:EV} {v u:Value} (h:sU x y=true) (hr:aY φ x v) (kr:aY φ y u):v=u:=by
 cases x<;>cases y<;>simp only[sU] at h<;>first|(cases h;done)|skip
 obtain ⟨vs,rfl,h1⟩:=hr
 obtain ⟨us,rfl,h2⟩:=kr
 rw[rX h h1 h2]
theorem Df {φ:cN} {x:EV} {v:Value} (n:Nat) (h:yA x=true) (hr:aY φ x v):Instr.sameBits (n+1) v v=true:=by
 cases x<;>simp only[yA] at h<;>first|(cases h;done)|skip
 ·have hr:v=.bool _:=hr
  subst hr;simp[Instr.sameBits]
 ·have hr:v=.int _ _:=hr
  subst hr;simp[Instr.sameBits]
 ·have hr:v=.string _:=hr
  subst hr;simp[Instr.sameBits,MapKept.bytes_beq]
theorem pN {φ:cN} (n:Nat):∀{x:List EV} {v:List Value},x.all yA=true→RelVs φ x v→((v.zip v).all fun q=>Instr.sameBits (n+1) q.1 q.2)=true
 |[],v,_,hr=>by
  have hr:v=[]:=hr
  subst hr;rfl
 |x::l,_,h,⟨v,vs,e,a1,a2⟩=>by
  simp only[List.all_cons,w6] at h
  subst e
  simp only[List.zip_cons_cons,List.all_cons,Df n h.1 a1,Bool.true_and]
  exact pN n h.2 a2
theorem uT {P:Program} {α:Type} {body:α→PUnit→Sem (ForInStep PUnit)} {w:World}:∀(l:List α),(∀f∈l,(body f ⟨⟩).run P w=.ok (.yield ⟨⟩) w)→(forIn l PUnit.unit body).run P w=.ok ⟨⟩ w
 |[],_=>rfl
 |f::l,h=>by
  rw[List.forIn_cons,Sem.run_bind,h f (.head _)]
  exact uT l fun g hg=>h g (.tail _ hg)
theorem uU {P:Program} {φ:cN} {T:TT} (hT:cW P T) {kt:Nat} {k:EV} {kv:Value} (hr:aY φ k kv):∀(es:List (EV × EV)) (ms:List MapEntry) (i:Nat) (r:Option (Nat × EV)),cV φ es ms→yB T kt k es i=some r →
  (r=none∧∀w,(Instr.findAsking kt kv ms i).run P w=.ok none w)∨∃j x e,r=some (i+j,x)∧(∀w,(Instr.findAsking kt kv ms i).run P w=.ok (some (i+j,e.val)) w)∧aY φ x e.val∧ms[j]?=some e∧e.key=kv
 |[],ms,i,r,h,hf=>by
  have h:ms=[]:=h
  subst h
  cases hf
  exact .inl ⟨rfl,fun _=>rfl⟩
 |x::es,ms,i,r,h,hf=>by
  obtain ⟨e,q,rfl,h1,h2,h3⟩:=h
  unfold yB at hf
  split at hf
  ·rename_i hq
   have he:∀w,(Op.equal kt kv e.key).run P w=.ok true w:=fun w=>kN hT 5 kt k x.1 kv e.key true hq hr h1 _ (by decide)
   cases hk:sU k x.1 with
   |false=>rw[hk] at hf;cases hf
   |true=>
    rw[hk] at hf
    cases hf
    refine .inr ⟨0,x.2,e,Z,fun w=>?_,h2,Z,(De hk hr h1).symm⟩
    simp[Instr.findAsking,he w]
  ·rename_i hq
   have he:∀w,(Op.equal kt kv e.key).run P w=.ok false w:=fun w=>kN hT 5 kt k x.1 kv e.key false hq hr h1 _ (by decide)
   rcases uU hT hr es q (i+1) r h3 hf with ⟨g1,g2⟩|⟨j,y,e',g1,g2,g3,g4,g5⟩
   ·exact .inl ⟨g1,fun w=>by simp[Instr.findAsking,he w,g2 w]⟩
   ·have e1:i+1+j=i+(j+1):=by omega
    refine .inr ⟨j+1,y,e',by rw[g1,e1],fun w=>?_,g3,by simpa using g4,g5⟩
    simp[Instr.findAsking,he w,g2 w,e1]
  ·cases hf
theorem iC {P:Program} {φ:cN} {T:TT} (hT:cW P T) {kt:Nat} {i:TI} (hi:T kt=some i) {k:EV} {kv:Value} (hr:aY φ k kv) {es:List (EV × EV)} {ms:List MapEntry} {r:Option (Nat × EV)} (h:cV φ es ms) (hf:na T kt i k es=some r) :
  (∀w b,(Instr.checkKey b 10000 kt kv).run P w=.ok () w)∧(∀w,(Instr.keyThatStays kv kv).run P w=.ok kv w) ∧
  ((r=none∧∀w,(Instr.findKey kt kv ms).run P w=.ok none w)∨∃j x e,r=some (j,x)∧(∀w,(Instr.findKey kt kv ms).run P w=.ok (some (j,e.val)) w)∧aY φ x e.val∧ms[j]?=some e∧e.key=kv):=by
 have hku:=(hT kt i hi).und
 unfold na at hf
 cases hk:iB i.d k with
 |true=>
  rw[hk] at hf
  cases hb:es.all (fun x=>iB i.d x.1) with
  |false=>rw[hb] at hf;cases hf
  |true=>
   rw[hb] at hf
   simp only[cond_true,Option.some.injEq] at hf
   have hkk:=kO hk hr
   refine ⟨fun w b=>MapKept.run_checkKey hku hkk b 9999,fun w=>MapKept.run_keyThatStays hkk,?_⟩
   rcases uS hk hr es ms 0 h hb with ⟨g1,g2,_⟩|⟨j,y,e,g1,g2,g3,g4,g5⟩
   ·exact .inl ⟨by rw[←hf,g1],fun w=>MapKept.run_findKey hku g2⟩
   ·rw[Nat.zero_add] at g1 g2
    exact .inr ⟨j,y,e,by rw[←hf,g1],fun w=>MapKept.run_findKey hku g2,g3,g4,g5⟩
 |false=>
  rw[hk] at hf
  cases hw:wA T i k with
  |false=>rw[hw] at hf;cases hf
  |true=>
   rw[hw] at hf
   simp only[cond_false,cond_true] at hf
   unfold wA at hw
   split at hw
   ·rename_i l
    obtain ⟨vs,rfl,hvs⟩:=hr
    split at hw
    ·rename_i fs hfs
     simp only[w6] at hw
     obtain ⟨⟨hl,hq⟩,hall⟩:=hw
     rw[hfs] at hku
     have hnm:=((hT kt i hi).qd hq).2 fs hfs
     refine ⟨fun w b=>?_,fun w=>?_,?_⟩
     ·rw[show (10000:Nat)=9999+1 from rfl]
      rw[Instr.checkKey]
      simp only[Sem.run_bind,run_underlying hku,Result.andThen_ok]
      rw[←Array.forIn_toList]
      refine (congrArg (fun r=>Result.andThen r _) (uT fs.toList fun f hf=>?_)).trans Z
      have hn:=hnm f hf
      have hz:=List.all_eq_true.1 hall f hf
      split at hz
      ·rename_i j x hj hx
       obtain ⟨v,hv,hvr⟩:=fh (w:=w) hT hx hvs
       have hkc:=MapKept.run_checkKey (P:=P) (w:=w) ((hT f.type j hj).und) (kO hz hvr) b 9998
       simp[hn,hv,hkc]
      ·cases hz
     ·have hb:∀n,Instr.sameBits (n+2) (.agg vs.toArray) (.agg vs.toArray)=true:=fun n=>by
       simp only[Instr.sameBits,beq_self_eq_true,Bool.true_and]
       exact pN n hl hvs
      unfold Instr.keyThatStays
      rw[if_pos (hb 9998)];rfl
     ·have hw:(match P.underlying kt with|some (.array _ _)|some (.struct _)=>true|_=>false)=true:=by rw[hku]
      rcases uU hT (show aY φ (.ag l) (.agg vs.toArray) from ⟨vs,rfl,hvs⟩) es ms 0 r h hf with ⟨g1,g2⟩|⟨j,y,e,g1,g2,g3,g4,g5⟩
      ·exact .inl ⟨g1,fun w=>by rw[run_findKey_eq w hw];exact g2 w⟩
      ·rw[Nat.zero_add] at g1 g2
       exact .inr ⟨j,y,e,g1,fun w=>by rw[run_findKey_eq w hw];exact g2 w,g3,g4,g5⟩
    ·cases hw
   ·cases hw
def LF (c:Nat) (y:ByteArray):Bool:=match y.data.toList with
 |[]=>false
 |d::_=>!(d == UInt8.ofNat c)&&!(d == 0)
def Dg (n c:Nat):List (EV × EV)→Bool
 |[]=>true
 |x::l=>(match x.1 with
  |.s y=>Nat.blt y.data.toList.length n||(!Nat.beq c 0&&LF c y)
  |_=>false)&&Dg n c l
noncomputable def iU (T:TT) (t:Nat) (es:List (EV × EV)) (k:EV) (ok:Bool):Option EV:=
 match T t with
 |some i=>match i.d with
  |.map kt et=>match T kt,T et with
   |some ik,some ie=>match na T kt ik k es with
     |some (some (_,v))=>some (bif ok then .tu [v,.b true] else v)
     |some none=>some (bif ok then .tu [ie.v,.b false] else ie.v)
     |none=>none
   |_,_=>none
  |_=>none
 |none=>none
noncomputable def mQ (T:TT) (t:Nat) (es:List (EV × EV)) (k:EV) (ok:Bool):Option EV:=
 match k with
 |.us lo _ c=>bif Dg lo c es then iU T t es (.s ⟨(List.replicate lo 0).toArray⟩) ok else none
 |k=>iU T t es k ok
noncomputable def cellsOf (H:Hp) (b off n:Nat):Option (List EV):=
 match (H.get b).bind VO.cs? with
 |some cs=>bif Nat.ble (off+n) cs.length then some ((cs.drop off).take n) else none
 |none=>none
def Hc:List EV→Option (List UInt8)
 |[]=>some []
 |.i .i32 (.ofNat n)::l=>match Hc l with
  |some m=>bif Nat.blt n 128 then some (n.toUInt8::m) else none
  |none=>none
 |_=>none
def Hd:List EV→Option (List UInt8)
 |[]=>some []
 |.i .u8 (.ofNat n)::l=>match Hd l with
  |some m=>some (n.toUInt8::m)
  |none=>none
 |_=>none
noncomputable def ol (T:TT) (H:Hp) (s d:Nat) (x:EV):Option EV:=
 match T s,T d with
 |some is_,some id_=>match is_.d,id_.d with
  |.slice e,.string=>match T e with
   |some ie=>match ie.d,x with
    |.int .i32,.sl b off n k _=>bif Nat.beq k 1 then match cellsOf H b off n with
     |some l=>(Hc l).map fun m=>.s ⟨m.toArray⟩
     |none=>none
     else none
    |.int .u8,.sl b off n k _=>bif Nat.beq k 1 then match cellsOf H b off n with
     |some l=>(Hd l).map fun m=>.s ⟨m.toArray⟩
     |none=>none
     else none
    |_,_=>none
   |none=>none
  |_,_=>none
 |_,_=>none
noncomputable def Jw (T:TT) (g:Nat→EV) (H:Hp) (op:Op):Option EV:=
 match op with
 |.load t x=>match cg g x with
  |some (.p b off)=>pJ T H t b off
  |_=>none
 |.lookup t x y ok=>match cg g x,cg g y with
  |some (.m b),some k=>match H.get b with
   |some (.mp es)=>mQ T t es k ok
   |_=>none
  |some .nm,some k=>mQ T t [] k ok
  |_,_=>none
 |.convert s d x=>match cg g x with
  |some a=>ol T H s d a
  |none=>none
 |.call ⟨.builtin .len,ar,ts⟩=>match ar.toList,ts.toList with
  |[x],[t]=>match cg g x,T t with
   |some (.m b),some i=>match i.d,H.get b with
    |.map _ _,some (.mp es)=>some (.i .i64 es.length)
    |_,_=>none
   |some .nm,some i=>match i.d with
    |.map _ _=>some (.i .i64 0)
    |_=>none
   |_,_=>none
  |_,_=>none
 |_=>none
noncomputable def KK (T:TT) (g:Nat→EV) (H:Hp) (t:TypeId) (x:Operand):Option EV:=match cg g x with
 |some (.p b off)=>pJ T H t b off
 |_=>none
noncomputable def KL (T:TT) (g:Nat→EV) (H:Hp) (t:TypeId) (x y:Operand) (ok:Bool):Option EV:=match cg g x,cg g y with
 |some (.m b),some k=>match H.get b with
  |some (.mp es)=>mQ T t es k ok
  |_=>none
 |some .nm,some k=>mQ T t [] k ok
 |_,_=>none
noncomputable def KM (T:TT) (g:Nat→EV) (H:Hp) (s d:TypeId) (x:Operand):Option EV:=match cg g x with
 |some a=>ol T H s d a
 |none=>none
noncomputable def KN (T:TT) (g:Nat→EV) (H:Hp) (ar:Array Operand) (ts:Array TypeId):Option EV:=match ar.toList,ts.toList with
 |[x],[t]=>match cg g x,T t with
  |some (.m b),some i=>match i.d,H.get b with
   |.map _ _,some (.mp es)=>some (.i .i64 es.length)
   |_,_=>none
  |some .nm,some i=>match i.d with
   |.map _ _=>some (.i .i64 0)
   |_=>none
  |_,_=>none
 |_,_=>none
noncomputable def KO (T:TT) (g:Nat→EV) (H:Hp) (c:Call):Option EV:=match c with
 |⟨.builtin .len,ar,ts⟩=>KN T g H ar ts
 |_=>none
noncomputable def KP (T:TT) (g:Nat→EV) (H:Hp) (op:Op):Option EV:=
 match op with
 |.load t x=>KK T g H t x
 |.lookup t x y ok=>KL T g H t x y ok
 |.convert s d x=>KM T g H s d x
 |.call c=>KO T g H c
 |_=>none
theorem Jx (T:TT) (g:Nat→EV) (H:Hp) (op:Op):KP T g H op=Jw T g H op:=by
 cases op<;>try rfl
 case call c=>
  obtain ⟨cl,ar,ts⟩:=c
  cases cl<;>try rfl
  rename_i b
  cases b<;>rfl
section
variable {P:Program} {φ:cN} {g:Nat→EV} {ρ:bU} {w:World} {T:TT} {I:aP} {H:Hp} {nx:Nat} {F:List (Nat × Obj)} {E:World}
theorem gv (hR:dg I φ H nx F E w) {b off n:Nat} {l:List EV} (h:cellsOf H b off n=some l) {q:xU} (hq:φ b=some q) :
  ∃vs,RelVs φ l vs∧vs.length=n∧(∀u∈vs,u.oneCell'=true)∧∀(j:Nat) v,vs[j]?=some v→w.cell? ⟨q.r,q.sh+off+j,none⟩=some v:=by
 unfold cellsOf at h
 split at h
 ·rename_i cs hc
  obtain ⟨o,ho,hoc⟩:=Option.bind_eq_some_iff.1 hc
  obtain ⟨vs,h1,h2,h3⟩:=hR.read ho hoc hq
  cases hb:Nat.ble (off+n) cs.length with
  |false=>rw[hb] at h;cases h
  |true=>
   rw[hb] at h;cases h
   have hb:=Nat.le_of_ble_eq_true hb
   have hl:((vs.drop off).take n).length=n:=by rw[w3,List.length_drop,h1.length];omega
   refine ⟨(vs.drop off).take n,(h1.drop off).take n,hl,fun u hu=>h2 u (List.mem_of_mem_drop (List.mem_of_mem_take hu)),fun j v hj=>?_⟩
   have hjl:=(List.getElem?_eq_some_iff.1 hj).1
   rw[hl] at hjl
   rw[List.getElem?_take_of_lt hjl,List.getElem?_drop] at hj
   rw[Nat.add_assoc];exact h3 _ _ hj
 ·cases h
theorem wC {n:Nat} (h:n<128):Utf8.encode (n:Int)=⟨#[n.toUInt8]⟩:=
 (show ∀n:Fin 128,Utf8.encode ((n:Nat):Int)=⟨#[(n:Nat).toUInt8]⟩ by decide +kernel) ⟨n,h⟩
theorem nc:∀(ns:List Nat) (r:List UInt8),(∀n∈ns,n<128)→(ns.map Int.ofNat).foldl (fun r n=>r++Utf8.encode n) (⟨r.toArray⟩:ByteArray)=⟨(r++ns.map Nat.toUInt8).toArray⟩
 |[],r,_=>by simp
 |n::ns,r,h=>by
  rw[List.map_cons,List.foldl_cons,show Utf8.encode (Int.ofNat n)=⟨#[n.toUInt8]⟩ from wC (h n (.head _))]
  have e:(⟨r.toArray⟩:ByteArray)++⟨#[n.toUInt8]⟩=⟨(r++[n.toUInt8]).toArray⟩:=by
   apply ByteArray.ext
   simp[ByteArray.data_append]
  rw[e,nc ns _ fun m hm=>h m (.tail _ hm)]
  simp
theorem yC {φ:cN}:∀(l:List EV) (m:List UInt8) (vs:List Value),Hc l=some m→RelVs φ l vs→∃ns:List Nat,vs=(ns.map Int.ofNat).map (Value.int .i32)∧m=ns.map Nat.toUInt8∧∀n∈ns,n<128
 |[],m,vs,h,hr=>by cases h;have hr:vs=[]:=hr;subst hr;exact ⟨[],rfl,rfl,by simp⟩
 |x::l,m,vs,h,⟨v,us,e,h1,h2⟩=>by
  subst e
  unfold Hc at h
  split at h
  ·cases ‹_::_=[]›
  ·rename_i n l' e
   cases e
   split at h
   ·rename_i m' hm
    cases hb:Nat.blt n 128 with
    |false=>rw[hb] at h;cases h
    |true=>
     rw[hb] at h;cases h
     have hb:n<128:=Nat.le_of_ble_eq_true hb
     obtain ⟨ns,e1,e2,e3⟩:=yC l m' us hm h2
     have h1:v=.int .i32 (.ofNat n):=h1
     subst h1 e1 e2
     exact ⟨n::ns,rfl,rfl,fun k hk=>(List.mem_cons.1 hk).elim (fun e=>e▸hb) (e3 k)⟩
   ·cases h
  ·cases h
theorem yD {φ:cN}:∀(l:List EV) (m:List UInt8) (vs:List Value),Hd l=some m→RelVs φ l vs→∃ns:List Nat,vs=(ns.map Int.ofNat).map (Value.int .u8)∧m=ns.map Nat.toUInt8
 |[],m,vs,h,hr=>by
  cases h
  have hr:vs=[]:=hr
  exact ⟨[],hr,rfl⟩
 |x::l,m,vs,h,hr=>by
  obtain ⟨v,us,rfl,h1,h2⟩:=hr
  unfold Hd at h
  split at h
  ·rename_i e;cases e
  ·rename_i n l' e
   cases e
   split at h
   ·rename_i m' hm
    cases h
    obtain ⟨ns,rfl,rfl⟩:=yD l m' us hm h2
    have h1:v=.int .u8 (Int.ofNat n):=h1
    subst h1
    exact ⟨n::ns,rfl,rfl⟩
   ·cases h
  ·cases h
theorem ng:∀(ns:List Nat) (r:List UInt8),(ns.map Int.ofNat).foldl (fun r n=>r.push (UInt8.ofNat n.toNat)) (⟨r.toArray⟩:ByteArray)=⟨(r++ns.map Nat.toUInt8).toArray⟩
 |[],r=>by simp
 |n::ns,r=>by
  have e:(⟨r.toArray⟩:ByteArray).push (UInt8.ofNat (Int.ofNat n).toNat)=⟨(r++[n.toUInt8]).toArray⟩:=by
   show (⟨r.toArray.push _⟩:ByteArray)=_
   rw[List.push_toArray];rfl
  rw[List.map_cons,List.foldl_cons,e,ng ns,qs];rfl
theorem wD (hT:cW P T) (hR:dg I φ H nx F E w) {s d:Nat} {x y:EV} {a:Value} (h:ol T H s d x=some y) (hx:aY φ x a):∃v,(convert s d a).run P w=.ok v w∧aY φ y v:=by
 unfold ol at h
 split at h
 ·rename_i i1 i2 h1 h2
  split at h
  ·rename_i e e1 e2
   split at h
   ·rename_i ie h3
    split at h
    ·rename_i b off n k c e3
     have u1:=e1▸(hT s i1 h1).und
     have u2:=e2▸(hT d i2 h2).und
     have u3:=e3▸(hT e ie h3).und
     cases hk:Nat.beq k 1 with
     |false=>rw[hk] at h;cases h
     |true=>
      rw[hk] at h
      simp only[cond_true] at h
      split at h
      ·rename_i l hl
       obtain ⟨m,hm,rfl⟩:=Option.map_eq_some_iff.1 h
       obtain ⟨q,o,cap,hq,rfl,x1,x2,_⟩:=hx
       obtain ⟨vs,g1,g2,g3,g4⟩:=gv hR hl hq
       obtain ⟨ns,rfl,rfl,hns⟩:=yC l m vs hm g1
       have hload:(loadCells (⟨q.r,o,none⟩:Addr) n).run P w=.ok ((ns.map Int.ofNat).map (Value.int .i32)).toArray w:=by
        have:=run_loadCells_list (P:=P) w (⟨q.r,o,none⟩:Addr) ((ns.map Int.ofNat).map (Value.int .i32)) (fun j v hj=>by
         have hjl:=(List.getElem?_eq_some_iff.1 hj).1
         rw[g2] at hjl
         rw[bK,x2 (by omega)];exact g4 j v hj)
        rw[g2] at this
        exact this
       refine ⟨.string (runesBytes (ns.map Int.ofNat)),?_,?_⟩
       ·rw[run_convert_runes_string (P:=P) w s d e _ _ _ u1 u3 u2,run_runesToString w _ n cap _ hload]
       ·show Value.string _=Value.string _
        have:=nc ns [] hns
        unfold runesBytes
        rw[show (ByteArray.empty:ByteArray)=⟨([]:List UInt8).toArray⟩ from rfl,this]
        simp
      ·cases h
    ·rename_i b off n k c e3
     have u1:=e1▸(hT s i1 h1).und
     have u2:=e2▸(hT d i2 h2).und
     have u3:=e3▸(hT e ie h3).und
     cases hk:Nat.beq k 1 with
     |false=>rw[hk] at h;cases h
     |true=>
      rw[hk] at h
      simp only[cond_true] at h
      split at h
      ·rename_i l hl
       obtain ⟨m,hm,rfl⟩:=Option.map_eq_some_iff.1 h
       obtain ⟨q,o,cap,hq,rfl,x1,x2,_⟩:=hx
       obtain ⟨vs,g1,g2,g3,g4⟩:=gv hR hl hq
       obtain ⟨ns,rfl,rfl⟩:=yD l m vs hm g1
       have hload:(loadCells (⟨q.r,o,none⟩:Addr) n).run P w=.ok ((ns.map Int.ofNat).map (Value.int .u8)).toArray w:=by
        have:=run_loadCells_list (P:=P) w (⟨q.r,o,none⟩:Addr) ((ns.map Int.ofNat).map (Value.int .u8)) (fun j v hj=>by
         have hjl:=(List.getElem?_eq_some_iff.1 hj).1
         rw[g2] at hjl
         rw[bK,x2 (by omega)];exact g4 j v hj)
        rw[g2] at this
        exact this
       refine ⟨.string ((ns.map Int.ofNat).foldl (fun r n=>r.push (UInt8.ofNat n.toNat)) ByteArray.empty),?_,?_⟩
       ·rw[run_convert_bytes_string (P:=P) w s d e _ _ _ u1 u3 u2,run_bytesToString w _ n cap _ hload]
       ·show Value.string _=Value.string _
        have:=ng ns []
        rw[show (ByteArray.empty:ByteArray)=⟨([]:List UInt8).toArray⟩ from rfl,this]
        simp
      ·cases h
    ·cases h
   ·cases h
  ·cases h
 ·cases h
theorem rY (hT:cW P T) {t:Nat} {es:List (EV × EV)} {ms:List MapEntry} {k:EV} {kv:Value} {ok:Bool} {x:EV} (h:iU T t es k ok=some x) (hr:aY φ k kv) (he:cV φ es ms) :
  ∃kt et v u ok',P.underlying t=some (.map kt et)∧aY φ x v∧v=(if ok then .tuple #[u,.bool ok'] else u) ∧
   (∀w b,(Instr.checkKey b 10000 kt kv).run P w=.ok () w)∧((∃j,ok'=true∧∀w,(Instr.findKey kt kv ms).run P w=.ok (some (j,u)) w)∨(ok'=false∧(∀w,(Instr.findKey kt kv ms).run P w=.ok none w)∧∀w,(zeroValue et).run P w=.ok u w)):=by
 unfold iU at h
 split at h
 ·rename_i i hi
  split at h
  ·rename_i kt et hd
   split at h
   ·rename_i ik ie hik hie
    have hu:=hd▸(hT t i hi).und
    split at h
    ·rename_i j v hf
     obtain ⟨hc,_,⟨e,_⟩|⟨j,y,e,g1,g2,g3,_⟩⟩:=iC hT hik hr he hf
     ·cases e
     ·cases g1
      cases h
      refine ⟨kt,et,_,e.val,true,hu,?_,Z,hc,.inl ⟨_,Z,g2⟩⟩
      cases ok
      ·exact g3
      ·exact ⟨[e.val,.bool true],rfl,_,_,rfl,g3,_,_,rfl,rfl,rfl⟩
    ·rename_i hf
     obtain ⟨hc,_,⟨_,g2⟩|⟨j,y,e,g1,_⟩⟩:=iC hT hik hr he hf
     ·obtain ⟨zv,hz,hzr⟩:=(hT et ie hie).zeroV
      cases h
      refine ⟨kt,et,_,zv,false,hu,?_,Z,hc,.inr ⟨Z,g2,hz⟩⟩
      cases ok
      ·exact hzr φ
      ·exact ⟨[zv,.bool false],rfl,_,_,rfl,hzr φ,_,_,rfl,rfl,rfl⟩
     ·cases g1
    ·cases h
   ·cases h
  ·cases h
 ·cases h
theorem mR {n c:Nat} {s:ByteArray} (h:n≤s.data.toList.length) (hc:c=0∨∀d r,s.data.toList=d::r→d=UInt8.ofNat c∨d=0):∀(es:List (EV × EV)) (i:Nat),Dg n c es=true→m9 (.s s) es i=none
 |[],_,_=>rfl
 |x::es,i,hk=>by
  unfold Dg at hk
  simp only[w6] at hk
  unfold m9
  have:jD (.s s) x.1=false:=by
   obtain ⟨k1,_⟩:=hk
   split at k1
   ·rename_i y e
    rw[e]
    show qT s y=false
    rw[iT]
    refine w5 fun q=>?_
    rcases (Bool.or_eq_true _ _).mp k1 with k1|k1
    ·have:=Nat.le_of_ble_eq_true k1
     rw[q] at h
     omega
    ·rw[w6] at k1
     have k0:c≠0:=fun e0=>by rw[e0] at k1;exact absurd k1.1 (by decide)
     have k2:=k1.2
     rw[←q] at k2
     unfold LF at k2
     cases hs:s.data.toList with
     |nil=>rw[hs] at k2;cases k2
     |cons d r=>
      rw[hs] at k2
      have k3:(!(d == UInt8.ofNat c)&&!(d == 0))=true:=k2
      rw[w6] at k3
      rcases hc with hc|hc
      ·exact k0 hc
      ·rcases hc d r hs with e1|e1
       ·rw[e1] at k3;simp at k3
       ·rw[e1] at k3;simp at k3
   ·cases k1
  rw[this]
  exact mR h hc es (i+1) hk.2
theorem E6 {T:TT} {t:Nat} {es:List (EV × EV)} {n c:Nat} {s s':ByteArray} {ok:Bool} (h:n≤s.data.toList.length) (h':n≤s'.data.toList.length) (hc:c=0∨∀d r,s.data.toList=d::r→d=UInt8.ofNat c∨d=0) (hc':c=0∨∀d r,s'.data.toList=d::r→d=UInt8.ofNat c∨d=0) (hk:Dg n c es=true):iU T t es (.s s) ok=iU T t es (.s s') ok:=by
 have e:∀(kt:Nat) (i:TI),na T kt i (.s s) es=na T kt i (.s s') es:=fun kt i=>by
  unfold na
  rw[mR h hc es 0 hk,mR h' hc' es 0 hk]
  cases i.d<;>rfl
 unfold iU
 simp only[e]
theorem uV (hT:cW P T) {t:Nat} {es:List (EV × EV)} {ms:List MapEntry} {k:EV} {kv:Value} {ok:Bool} {x:EV} (h:mQ T t es k ok=some x) (hr:aY φ k kv) (he:cV φ es ms) :
  ∃kt et v u ok',P.underlying t=some (.map kt et)∧aY φ x v∧v=(if ok then .tuple #[u,.bool ok'] else u) ∧
   (∀w b,(Instr.checkKey b 10000 kt kv).run P w=.ok () w)∧((∃j,ok'=true∧∀w,(Instr.findKey kt kv ms).run P w=.ok (some (j,u)) w)∨(ok'=false∧(∀w,(Instr.findKey kt kv ms).run P w=.ok none w)∧∀w,(zeroValue et).run P w=.ok u w)):=by
 unfold mQ at h
 split at h
 ·rename_i lo hi c
  cases hk:Dg lo c es with
  |false=>rw[hk] at h;cases h
  |true=>
   rw[hk] at h
   obtain ⟨s,rfl,h1,_,h3⟩:=hr
   rw[cond_true,E6 (s':=s) (c:=c) (by simp) h1 (.inr fun d r e=>.inr ?_) (h3.imp id fun e d r e2=>.inl (by rw[e2] at e;exact Option.some.inj e)) hk] at h
   rotate_left
   ·have e:List.replicate lo (0:UInt8)=d::r:=e
    exact List.eq_of_mem_replicate (by rw[e];exact .head _)
   exact rY hT h (show aY φ (.s s) _ from rfl) he
 ·exact rY hT h hr he
theorem dg.readM (h:dg I φ H nx F E w) {k:Nat} {es:List (EV × EV)} (hk:H.get k=some (.mp es)) {q:xU} (hq:φ k=some q):∃(ms:List MapEntry) (c:Nat),cV φ es ms∧w.heap[q.r]?=some (.map ms.toArray c):=by
 obtain ⟨A,L,⟨q',ms,h1,h2,rfl⟩,_,hS⟩:=h.pick hk
 rw[hq] at h1;cases h1
 exact ⟨ms,_,h2.1,hS.own _ (.head _)⟩
theorem He (hT:cW P T) (hg:eF φ g ρ) (hR:dg I φ H nx F E w) {o:Oper} {x:EV} (h:Jw T g H o.op=some x):∃v,(execOp (ev ρ) o).run P w=.ok (.value v) w∧aY φ x v:=by
 obtain ⟨dst,op,ty,pos,af,gu⟩:=o
 dsimp only at h
 unfold Jw at h
 split at h
 ·split at h
  ·rename_i hx
   obtain ⟨v,h1,h2⟩:=rU hT hR h (aS hg hx)
   exact ⟨v,gr h1,h2⟩
  ·cases h
 ·rename_i t x' y ok
  split at h
  ·rename_i b k hx hy
   obtain ⟨q,hq,hxv⟩:=aS hg hx
   have hyv:=aS hg hy
   split at h
   ·rename_i es hes
    obtain ⟨ms,c,hm,hb⟩:=hR.readM hes hq
    obtain ⟨kt,et,v,u,ok',hu,hv,he,hc,hf⟩:=uV hT h hyv hm
    refine ⟨v,?_,hv⟩
    have hc:=hc w ms.isEmpty
    rcases hf with ⟨j,rfl,hf⟩|⟨rfl,hf,hz⟩
    ·have hf:=hf w
     simp[execOp,Instr.lookup,run_underlying hu,hxv,MapKept.run_getObj_map hb,hc,hf,Result.andThen,he]
    ·have hf:=hf w
     simp[execOp,Instr.lookup,run_underlying hu,hxv,MapKept.run_getObj_map hb,hc,hf,hz,Result.andThen,he]
   ·cases h
  ·rename_i k hx hy
   have hxv:ev ρ x'=.map none:=aS hg hx
   have hyv:=aS hg hy
   obtain ⟨kt,et,v,u,ok',hu,hv,he,hc,hf⟩:=uV (ms:=[]) hT h hyv rfl
   refine ⟨v,?_,hv⟩
   have hc:=hc w true
   rcases hf with ⟨j,rfl,hf⟩|⟨rfl,hf,hz⟩
   ·have hf:=hf w
    simp[execOp,Instr.lookup,run_underlying hu,hxv,hc,hf,Result.andThen,he]
   ·have hf:=hf w
    simp[execOp,Instr.lookup,run_underlying hu,hxv,hc,hf,hz,Result.andThen,he]
  ·cases h
 ·split at h
  ·rename_i hx
   obtain ⟨v,h1,h2⟩:=wD hT hR h (aS hg hx)
   exact ⟨v,gr h1,h2⟩
  ·cases h
 ·split at h
  ·rename_i ar ts _ _ x' t h1 h2
   have h1:=Db h1
   have h2:=Db h2
   subst h1 h2
   split at h
   ·rename_i b i hx hi
    obtain ⟨q,hq,hxv⟩:=aS hg hx
    have hu:=(hT t i hi).und
    split at h
    ·rename_i es hd hes
     rw[hd] at hu
     cases h
     obtain ⟨ms,c,hm,hb⟩:=hR.readM hes hq
     have hl:ms.length=es.length:=by
      clear hb hes
      induction es generalizing ms with
      |nil=>have hm:ms=[]:=hm;rw[hm];rfl
      |cons e es ih=>obtain ⟨e',r,rfl,_,_,h3⟩:=hm;simp[ih r h3]
     refine ⟨.int .i64 es.length,?_,Z⟩
     simp[execOp,resolve,hxv,invoke,builtin,Builtin.len_,run_underlying hu,goInt,MapKept.run_getObj_map hb,hl]
    ·cases h
   ·rename_i i hx hi
    have hxv:ev ρ x'=.map none:=aS hg hx
    have hu:=(hT t i hi).und
    split at h
    ·rename_i hd
     rw[hd] at hu
     cases h
     refine ⟨.int .i64 0,?_,Z⟩
     simp[execOp,resolve,hxv,invoke,builtin,Builtin.len_,run_underlying hu,goInt]
    ·cases h
   ·cases h
  ·cases h
 ·cases h
theorem E7 (hT:cW P T) (hg:eF φ g ρ) (hR:dg I φ H nx F E w) {o:Oper} {x:EV} (h:KP T g H o.op=some x):∃v,(execOp (ev ρ) o).run P w=.ok (.value v) w∧aY φ x v:=He hT hg hR (Jx T g H o.op▸h)
end
end
section
open Go.Proofs
def uW (n:Nat) (z:List EV):List EV:=(List.replicate n z).flatten
noncomputable def Jy (T:TT) (g:Nat→EV) (k:Nat) (op:Op):Option (EV × VO):=
 match op with
 |.alloc t=>match T t with
  |some i=>some (.p k 0,.cells true i.z)
  |none=>none
 |.box _ x=>match cg g x with
  |some a=>bif a.sto&&a.cs.all EV.cell then some (.p k 0,.cells true a.cs) else none
  |none=>none
 |.buildSlice t n ps=>match T t with
  |some i=>match i.d with
   |.slice e=>match T e,p7 (fun p:Nat × Operand=>cg g p.2) ps.toList with
    |some ie,some vs=>bif Nat.blt 0 (n*ie.size)&&Nat.ble (n*ie.size) 16777216 then
      match pL (fun j=>some (j*ie.size,ie.size)) (uW n ie.z) ((ps.toList.map (·.1)).zip vs) with
      |some rs=>bif rs.all EV.cell&&Nat.beq rs.length (n*ie.size) then some (.sl k 0 n ie.size (.ex n),.cells true rs) else none
      |none=>none
     else bif Nat.beq n 0&&ps.toList.isEmpty then some (.sl k 0 0 ie.size (.ex 0),.cells true []) else none
    |_,_=>none
   |_=>none
  |none=>none
 |.makeSlice t x y=>match T t,cg g x,cg g y with
  |some i,some (.i _ l),some (.i _ c)=>match i.d,kl l,kl c with
   |.slice e,some l,some c=>match T e with
    |some ie=>bif Nat.blt 0 ie.size&&Nat.ble l c&&Nat.ble (ie.bytes*c) 281474976710656&&Nat.ble c 281474976710656 then some (.sl k 0 l ie.size (.ex c),.cells true (uW c ie.z)) else none
    |none=>none
   |_,_,_=>none
  |_,_,_=>none
 |.makeMap _ none=>some (.m k,.mp [])
 |.range t x=>match T t,cg g x with
  |some i,some (.s s)=>match i.d with
   |.string=>some (.p k 0,.it s 0)
   |_=>none
  |_,_=>none
 |_=>none
noncomputable def KQ (T:TT) (k:Nat) (t:TypeId):Option (EV × VO):=match T t with
 |some i=>some (.p k 0,.cells true i.z)
 |none=>none
noncomputable def KR (g:Nat→EV) (k:Nat) (x:Operand):Option (EV × VO):=match cg g x with
 |some a=>bif a.sto&&a.cs.all EV.cell then some (.p k 0,.cells true a.cs) else none
 |none=>none
noncomputable def KS (T:TT) (g:Nat→EV) (k:Nat) (t:TypeId) (n:Nat) (ps:Array (Nat × Operand)):Option (EV × VO):=match T t with
 |some i=>match i.d with
  |.slice e=>match T e,p7 (fun p:Nat × Operand=>cg g p.2) ps.toList with
   |some ie,some vs=>bif Nat.blt 0 (n*ie.size)&&Nat.ble (n*ie.size) 16777216 then
     match pL (fun j=>some (j*ie.size,ie.size)) (uW n ie.z) ((ps.toList.map (·.1)).zip vs) with
     |some rs=>bif rs.all EV.cell&&Nat.beq rs.length (n*ie.size) then some (.sl k 0 n ie.size (.ex n),.cells true rs) else none
     |none=>none
    else bif Nat.beq n 0&&ps.toList.isEmpty then some (.sl k 0 0 ie.size (.ex 0),.cells true []) else none
   |_,_=>none
  |_=>none
 |none=>none
noncomputable def KT (T:TT) (g:Nat→EV) (k:Nat) (t:TypeId) (x y:Operand):Option (EV × VO):=match T t,cg g x,cg g y with
 |some i,some (.i _ l),some (.i _ c)=>match i.d,kl l,kl c with
  |.slice e,some l,some c=>match T e with
   |some ie=>bif Nat.blt 0 ie.size&&Nat.ble l c&&Nat.ble (ie.bytes*c) 281474976710656&&Nat.ble c 281474976710656 then some (.sl k 0 l ie.size (.ex c),.cells true (uW c ie.z)) else none
   |none=>none
  |_,_,_=>none
 |_,_,_=>none
noncomputable def KU (k:Nat) (r:Option Operand):Option (EV × VO):=match r with
 |none=>some (.m k,.mp [])
 |_=>none
noncomputable def KV (T:TT) (g:Nat→EV) (k:Nat) (t:TypeId) (x:Operand):Option (EV × VO):=match T t,cg g x with
 |some i,some (.s s)=>match i.d with
  |.string=>some (.p k 0,.it s 0)
  |_=>none
 |_,_=>none
noncomputable def J1 (T:TT) (g:Nat→EV) (k:Nat) (op:Op):Option (EV × VO):=
 match op with
 |.alloc t=>KQ T k t
 |.box _ x=>KR g k x
 |.buildSlice t n ps=>KS T g k t n ps
 |.makeSlice t x y=>KT T g k t x y
 |.makeMap _ r=>KU k r
 |.range t x=>KV T g k t x
 |_=>none
theorem Jz (T:TT) (g:Nat→EV) (k:Nat) (op:Op):J1 T g k op=Jy T g k op:=by
 cases op<;>try rfl
 case makeMap t r=>cases r<;>rfl
section
variable {P:Program} {φ:cN} {g:Nat→EV} {ρ:bU} {w:World} {T:TT} {I:aP} {H:Hp} {k nx:Nat} {F L:List (Nat × Obj)} {E:World}
theorem mb {r:Nat} {vs:List Value} {cs:List EV} {t:TypeId} (h:RelVs φ cs vs) (h1:∀u∈vs,u.oneCell'=true) (hk:φ k=none):gn I (φ.put k ⟨r,0,vs.length⟩) k (.cells true cs) [(r,.cells vs.toArray t (0,0))]:=
 ⟨⟨r,0,vs.length⟩,t,vs,[],q6 _ _ _,rfl,h.mono (qk hk _),by simpa using h1,by simp,fun _=>rfl,by simp⟩
theorem RelVs.flatR {z:List EV} {vs:List Value} (h:RelVs φ z vs):∀n,RelVs φ (uW n z) (List.replicate n vs).flatten
 |0=>rfl
 |n+1=>by
  unfold uW
  rw[List.replicate_succ,List.replicate_succ,List.flatten_cons,List.flatten_cons]
  exact h.append (RelVs.flatR h n)
theorem sO.cell1 {t:TypeId} {i:TI} (h:sO P t i) {zv:Value} (hz:∀φ,RelVs φ i.z zv.cells.toList):∀u∈zv.cells.toList,u.oneCell'=true:=EV.cells_rel (hz fun _=>none) h.z1
theorem wE {t e:TypeId} {ty:TypeId} {pos:String} {af:Array Edge} {gu:Option (Nat × Bool)} {d:Option Nat} {n:Nat} (hu:P.underlying t=some (.slice e)) (hs:∀w,(sizeOf e).run P w=.ok n w) :
  (execOp (ev ρ) (Oper.mk d (.buildSlice t 0 #[]) ty pos af gu)).run P w=.ok (.value (.slice (some ⟨w.heap.size,0,none⟩) 0 0)) (w.alloc (.cells #[] e)):=by
 simp[execOp,Instr.buildSlice,run_underlying hu,hs,Instr.fill,newRow]
 congr 2
 exact Array.eq_empty_of_size_eq_zero (by simp)
theorem Hf (hT:cW P T) (hg:eF φ g ρ) {o:Oper} {x:EV} {vo:VO} (h:Jy T g k o.op=some (x,vo)) (hk:φ k=none) (hS:SL I L E w) :
  ∃v w' q A,(execOp (ev ρ) o).run P w=.ok (.value v) w'∧aY (φ.put k q) x v∧gn I (φ.put k q) k vo A∧SL I (A++L) E w':=by
 obtain ⟨dst,op,ty,pos,af,gu⟩:=o
 dsimp only at h
 unfold Jy at h
 split at h
 ·rename_i t
  split at h
  ·rename_i i hi
   simp only[Option.some.injEq,Prod.mk.injEq] at h
   obtain ⟨rfl,rfl⟩:=h
   obtain ⟨zv,hz,hzr,_⟩:=(hT t i hi).zero
   have hz1:=(hT t i hi).cell1 hzr
   refine ⟨.pointer (some ⟨w.heap.size,0,none⟩),w.alloc (.cells zv.cells t),⟨w.heap.size,0,zv.cells.toList.length⟩,[(w.heap.size,.cells zv.cells.toList.toArray t (0,0))],?_,⟨_,q6 _ _ _,Z⟩,mb (hzr φ) hz1 hk,?_⟩
   ·simp[execOp,Instr.alloc,hz,fU]
   ·rw[Array.toArray_toList];exact hS.alloc _
  ·cases h
 ·rename_i t x'
  split at h
  ·rename_i a hx
   cases hb:(a.sto&&a.cs.all EV.cell) with
   |false=>rw[hb] at h;cases h
   |true=>
    rw[hb] at h
    simp only[cond_true,Option.some.injEq,Prod.mk.injEq] at h
    obtain ⟨rfl,rfl⟩:=h
    simp only[w6] at hb
    have hr:=EV.cs_rel (aS hg hx) hb.1
    have h1:=EV.cells_rel hr hb.2
    refine ⟨.pointer (some ⟨w.heap.size,0,none⟩),w.alloc (.cells (ev ρ x').cells t),⟨w.heap.size,0,(ev ρ x').cells.toList.length⟩,[(w.heap.size,.cells (ev ρ x').cells.toList.toArray t (0,0))],?_,⟨_,q6 _ _ _,Z⟩,mb hr h1 hk,?_⟩
    ·simp[execOp,Instr.box,fU]
    ·rw[Array.toArray_toList];exact hS.alloc _
  ·cases h
 ·rename_i t n ps
  split at h
  ·rename_i i hi
   split at h
   ·rename_i e hd
    have hu:=hd▸(hT t i hi).und
    split at h
    ·rename_i ie vs hie hvs
     have hTe:=hT e ie hie
     obtain ⟨zv,hz,hzr,hzs⟩:=hTe.zero
     have hz1:=hTe.cell1 hzr
     have hpr:=kM (φ:=φ) (g:=fun p:Nat × Operand=>ev ρ p.2) (fun p a hp=>aS hg hp) ps.toList vs hvs
     have epar:(ps.map fun p=>(p.1,ev ρ p.2)).toList=ps.toList.map fun p=>(p.1,ev ρ p.2):=by simp
     cases hb:(Nat.blt 0 (n*ie.size)&&Nat.ble (n*ie.size) 16777216) with
     |true=>
      rw[hb] at h
      simp only[cond_true] at h
      simp only[w6] at hb
      have b1:0<n*ie.size:=Nat.le_of_ble_eq_true hb.1
      have b2:=Nat.le_of_ble_eq_true hb.2
      split at h
      ·rename_i rs hrs
       cases hb3:(rs.all EV.cell&&Nat.beq rs.length (n*ie.size)) with
       |false=>rw[hb3] at h;cases h
       |true=>
        rw[hb3] at h
        simp only[cond_true,Option.some.injEq,Prod.mk.injEq] at h
        obtain ⟨rfl,rfl⟩:=h
        simp only[w6] at hb3
        have b4:=Nat.eq_of_beq_eq_true hb3.2
        have hzl:zv.cells.toList.length=ie.size:=by rw[Array.length_toList];exact hzs
        have hmc:madeCells zv.cells (n*ie.size)=(List.replicate n zv.cells.toList).flatten.toArray:=by
         have:=km zv.cells.toList n (by rw[hzl];exact Nat.pos_of_ne_zero fun e=>by rw[e,Nat.mul_zero] at b1;omega) hz1
         rw[hzl,Array.toArray_toList] at this
         exact this
        have hl:(ps.toList.map (·.1)).length=vs.length:=by have:=hpr.length;simp at this ⊢;exact this
        obtain ⟨vc,f1,f2⟩:=ma (place:=fun j=>some (j*ie.size,ie.size)) (ps.toList.map fun p=>(p.1,ev ρ p.2)) _ (uW n ie.z) (madeCells zv.cells (n*ie.size)) rs (by rw[od _ _ hl,List.map_map];rfl) (by rw[oe _ _ hl,List.map_map];exact hpr) (by rw[hmc];exact (hzr φ).flatR n) hrs
        have h1:=EV.cells_rel f2 hb3.1
        have hvl:vc.toList.length=n*ie.size:=by rw[f2.length,b4]
        have hrun:(Instr.buildSlice t n (ps.map fun p=>(p.1,ev ρ p.2))).run P w=.ok (.slice (some ⟨w.heap.size,0,none⟩) n n) (w.alloc (.cells vc e)):=by
         unfold Instr.buildSlice
         simp only[Sem.run_bind,Result.andThen_ok,run_underlying hu,hTe.sz]
         rw[if_neg (by omega)]
         have f1':Instr.fill (fun i=>some (i*ie.size,ie.size)) ((Array.range (n*ie.size)).map (zv.cells[·% zv.cells.size]!)) (ps.map fun p=>(p.1,ev ρ p.2)).toList=some vc:=by rw[epar];exact f1
         simp only[Sem.run_pure,Result.andThen_ok,if_neg (by omega:¬n*ie.size=0),Sem.run_bind,hz,f1',newRow]
         simp
        refine ⟨.slice (some ⟨w.heap.size,0,none⟩) n n,w.alloc (.cells vc e),⟨w.heap.size,0,vc.toList.length⟩,[(w.heap.size,.cells vc.toList.toArray e (0,0))],gr hrun,⟨_,0,n,q6 _ _ _,Z,Nat.le_refl _,fun _=>Z,Z⟩,mb f2 h1 hk,?_⟩
        rw[Array.toArray_toList];exact hS.alloc _
      ·cases h
     |false=>
      rw[hb] at h
      simp only[cond_false] at h
      cases hb3:(Nat.beq n 0&&ps.toList.isEmpty) with
      |false=>rw[hb3] at h;cases h
      |true=>
       rw[hb3] at h
       simp only[cond_true,Option.some.injEq,Prod.mk.injEq] at h
       obtain ⟨rfl,rfl⟩:=h
       simp only[w6] at hb3
       have b4:=Nat.eq_of_beq_eq_true hb3.1
       subst b4
       have hps:ps=#[]:=Array.toList_inj.1 (List.isEmpty_iff.1 hb3.2)
       subst hps
       refine ⟨.slice (some ⟨w.heap.size,0,none⟩) 0 0,w.alloc (.cells #[] e),⟨w.heap.size,0,0⟩,[(w.heap.size,.cells ([]:List Value).toArray e (0,0))],wE hu hTe.sz,⟨_,0,0,q6 _ _ _,Z,Nat.le_refl _,fun _=>Z,Z⟩,mb (vs:=[]) Z (by simp) hk,hS.alloc _⟩
    ·cases h
   ·cases h
  ·cases h
 ·rename_i t x' y'
  split at h
  ·rename_i i k1 l k2 c hi hx hy
   have hx:ev ρ x'=.int k1 l:=aS hg hx
   have hy:ev ρ y'=.int k2 c:=aS hg hy
   split at h
   ·rename_i e l' c' hd hl hc
    have hl:=gq hl
    have hc:=gq hc
    subst hl hc
    have hu:=hd▸(hT t i hi).und
    split at h
    ·rename_i ie hie
     have hTe:=hT e ie hie
     cases hb:(Nat.blt 0 ie.size&&Nat.ble l' c'&&Nat.ble (ie.bytes*c') 281474976710656&&Nat.ble c' 281474976710656) with
     |false=>rw[hb] at h;cases h
     |true=>
      rw[hb] at h
      simp only[cond_true,Option.some.injEq,Prod.mk.injEq] at h
      obtain ⟨rfl,rfl⟩:=h
      simp only[w6] at hb
      have b1:0<ie.size:=Nat.le_of_ble_eq_true hb.1.1.1
      have b2:=Nat.le_of_ble_eq_true hb.1.1.2
      have b3:=Nat.le_of_ble_eq_true hb.1.2
      have b4:=Nat.le_of_ble_eq_true hb.2
      obtain ⟨f,zv,f1,f2,f3,f4,f5,_⟩:=hTe.inf
      have hz1:=hTe.cell1 f5
      have hzl:zv.cells.toList.length=ie.size:=by rw[(f5 φ).length,hTe.zl]
      have hrun:=run_make (P:=P) w t e f zv hu f1 f4 k1 k2 l' c' (by omega) (by omega) (by rw[f3,←Int.natCast_mul];omega) (by omega)
      have hmc:madeCells zv.cells (c'*ie.size)=(List.replicate c' zv.cells.toList).flatten.toArray:=by
       have:=km zv.cells.toList c' (by omega) hz1
       rw[hzl,Array.toArray_toList] at this
       exact this
      rw[Int.toNat_natCast,Int.toNat_natCast,f2,hmc] at hrun
      have hr:=(f5 φ).flatR c'
      have hlen:(List.replicate c' zv.cells.toList).flatten.length=c'*ie.size:=by simp[hzl]
      refine ⟨.slice (some ⟨w.heap.size,0,none⟩) l' c',_,⟨w.heap.size,0,(List.replicate c' zv.cells.toList).flatten.length⟩,[(w.heap.size,.cells (List.replicate c' zv.cells.toList).flatten.toArray e (0,0))],?_,⟨_,0,c',q6 _ _ _,Z,b2,fun _=>Z,Z⟩,mb hr (fun u hu=>?_) hk,hS.alloc _⟩
      ·refine gr ?_
       rw[hx,hy];exact hrun
      ·obtain ⟨r,hr,hu⟩:=List.mem_flatten.1 hu
       rw[List.eq_of_mem_replicate hr] at hu
       exact hz1 u hu
    ·cases h
   ·cases h
  ·cases h
 ·simp only[Option.some.injEq,Prod.mk.injEq] at h
  obtain ⟨rfl,rfl⟩:=h
  refine ⟨.map (some w.heap.size),w.alloc (.map #[] 0),⟨w.heap.size,0,0⟩,[(w.heap.size,.map #[] 0)],?_,⟨_,q6 _ _ _,Z⟩,⟨_,[],q6 _ _ _,⟨Z,fun _ _ h=>by cases h⟩,Z⟩,hS.alloc _⟩
  simp only[execOp,Option.map_none]
  rw[Sem.run_bind,run_makeMap_plain];rfl
 ·rename_i t x'
  split at h
  ·rename_i i s hi hx
   have hx:ev ρ x'=.string s:=aS hg hx
   split at h
   ·rename_i hd
    have hu:=hd▸(hT t i hi).und
    simp only[Option.some.injEq,Prod.mk.injEq] at h
    obtain ⟨rfl,rfl⟩:=h
    refine ⟨.pointer (some ⟨w.heap.size,0,none⟩),w.alloc (.stringIter s 0),⟨w.heap.size,0,0⟩,[(w.heap.size,.stringIter s 0)],?_,⟨_,q6 _ _ _,Z⟩,⟨_,q6 _ _ _,Z,Z⟩,hS.alloc _⟩
    simp[execOp,Instr.range,hx,run_underlying hu]
   ·cases h
  ·cases h
 ·cases h
theorem E8 (hT:cW P T) (hg:eF φ g ρ) {o:Oper} {x:EV} {vo:VO} (h:J1 T g k o.op=some (x,vo)) (hk:φ k=none) (hS:SL I L E w) :
  ∃v w' q A,(execOp (ev ρ) o).run P w=.ok (.value v) w'∧aY (φ.put k q) x v∧gn I (φ.put k q) k vo A∧SL I (A++L) E w':=Hf hT hg (Jz T g k o.op▸h) hk hS
end
end
end Go.Proofs.YtjpnhkmfhlnpcaaGreatDoor
