/- Statements whose order is open, over a heap told exactly: what they need to be the same in any order. No conditions. -/
import Derived.Test.YtjpnhkmfhlnpcaaGreatDoorZs
import Derived.Test.YtjpnhkmfhlnpcaaGreatDoorZd
set_option linter.unusedVariables false
set_option linter.unusedSimpArgs false
set_option linter.unusedSectionVars false
namespace Go.Proofs.YtjpnhkmfhlnpcaaGreatDoor
section
open Go.Proofs
def d6 (φ:cN) (I:aP) (F:List (Nat × Obj)) (E:World) (k nx:Nat) (x:EV) (H:Hp) (nx':Nat) (v:Value) (w:World):Prop:=
 ∃J ψ,I.le J∧φ.le ψ∧(∀j,j<nx→j≠k→ψ j=φ j)∧nx≤nx'∧aY ψ x v∧dg J ψ H nx' F E w
section
variable {φ:cN} {I:aP} {H:Hp} {k nx:Nat} {F L A:List (Nat × Obj)} {E w w':World} {o:VO} {q:xU}
theorem dg.freshN (h:dg I φ H nx F E w) (hk:φ k=none):∃L,qS I φ H k L∧SL I (L++F) E w:=by
 obtain ⟨M,L,hn,hm,hr,hS⟩:=h.ex
 refine ⟨L,⟨M,hn,fun j o'=>?_,hr⟩,hS⟩
 rw[←hm j o']
 refine ⟨fun hj=>⟨fun e=>?_,hj⟩,fun hj=>hj.2⟩
 obtain ⟨q,hq⟩:=hr.phi _ hj
 subst e
 rw[hk] at hq;cases hq
theorem lB (φ:cN) (q:xU) {j:Nat} (h:j≠k):φ.put k q j=φ j:=if_neg h
theorem mc (h:∀j,nx≤j→φ j=none) (hk:k<nx) (q:xU):∀j,nx≤j→φ.put k q j=none:=fun j hj=>by rw[lB φ q (by omega)];exact h j hj
theorem dg.addB (h:dg I φ H nx F E w) (hk:φ k=none) (hx:k<nx) {x:EV} {v:Value} (hv:aY (φ.put k q) x v) (hb:gn I (φ.put k q) k o A) (hS:∀L,SL I (L++F) E w→SL I (A++(L++F)) E w'):d6 φ I F E k nx x (H.set k (some o)) nx v w':=by
 obtain ⟨L,hr,hS0⟩:=h.freshN hk
 exact ⟨I,φ.put k q,.refl _,qk hk q,fun j _ hj=>lB φ q hj,Nat.le_refl _,hv,qi (hr.mono (.refl _) (qk hk q)) hb (hS L hS0) (mc h.top hx q)⟩
theorem dg.stay (h:dg I φ H nx F E w) {x:EV} {v:Value} (hv:aY φ x v):d6 φ I F E k nx x H nx v w:=⟨I,φ,.refl _,.refl _,fun _ _ _=>rfl,Nat.le_refl _,hv,h⟩
end
section
variable {φ:cN} {I:aP} {H:Hp} {k b:Nat} {L:List (Nat × Obj)}
theorem qS.moved (h:qS I φ H b L) (hk:φ k=none):qS I φ (H.set b none) k L:=by
 obtain ⟨M,hn,hm,hr⟩:=h
 refine ⟨M,hn,fun j o=>?_,hr⟩
 rw[hm j o,Tr.get_set]
 constructor
 ·rintro ⟨h1,h2⟩
  refine ⟨fun e=>?_,by rw[if_neg h1];exact h2⟩
  obtain ⟨q,hq⟩:=hr.phi _ ((hm j o).2 ⟨h1,h2⟩)
  subst e
  rw[hk] at hq;cases hq
 ·rintro ⟨_,h2⟩
  by_cases e:j=b
  ·rw[if_pos e] at h2;cases h2
  ·rw[if_neg e] at h2;exact ⟨e,h2⟩
end
def me:Nat:=140737488355328
noncomputable def yE (H:Hp) (y:EV) (size:Nat):Option (Nat × List EV):=
 match y with
 |.ns=>some (0,[])
 |.sl b off m k _=>bif Nat.beq k size then (cellsOf H b off (m*size)).map fun l=>(m,l) else none
 |_=>none
def Iy (n:Nat):Cp→Bool
 |.ex cap=>Nat.ble n cap
 |.en=>true
 |.un=>false
noncomputable def yF (T:TT) (H:Hp) (k t:Nat) (x y:EV):Option (EV × Hp):=
 match T t with
 |some i=>match i.d with
  |.slice e=>match T e with
   |some ie=>match yE H y ie.size with
    |some (m,news)=>match x with
     |.ns=>bif Nat.beq m 0 then some (.ns,H) else bif Nat.ble (m*ie.bytes) me&&Nat.ble m me then some (.sl k 0 m ie.size .en,H.set k (some (.cells false news))) else none
     |.sl b off n k' c=>bif Nat.beq m 0 then some (.sl b off n k' c,H) else
      bif Nat.beq k' ie.size&&Nat.blt 0 ie.size&&Nat.ble ((n+m)*ie.bytes) me&&Nat.ble (n+m) me then
       match H.get b with
       |some (.cells ex cs)=>bif Iy (n+m) c&&Nat.ble (off+(n+m)*ie.size) cs.length then
         some (.sl b off (n+m) k' c,H.set b (some (.cells ex (cs.take (off+n*ie.size)++news++cs.drop (off+(n+m)*ie.size)))))
        else match c with
         |.ex cap=>bif Nat.blt cap (n+m)&&Nat.ble (off+n*ie.size) cs.length then some (.sl k 0 (n+m) ie.size .en,H.set k (some (.cells false ((cs.drop off).take (n*ie.size)++news)))) else none
         |.en=>bif Nat.beq off 0&&Nat.beq (n*ie.size) cs.length then some (.sl k 0 (n+m) ie.size .en,(H.set b none).set k (some (.cells false (cs++news)))) else none
         |.un=>none
       |some (.kn cs)=>match c with
        |.ex cap=>bif Nat.blt cap (n+m)&&Nat.ble (off+n*ie.size) cs.length then some (.sl k 0 (n+m) ie.size .en,H.set k (some (.cells false ((cs.drop off).take (n*ie.size)++news)))) else none
        |_=>none
       |_=>none
      else none
     |_=>none
    |none=>none
   |none=>none
  |_=>none
 |none=>none
section
variable {P:Program} {φ:cN} {w:World} {T:TT} {I:aP} {H:Hp} {k nx:Nat} {F:List (Nat × Obj)} {E:World} {t e ty:TypeId}
theorem pO (hR:dg I φ H nx F E w) {y:EV} {size m:Nat} {news:List EV} (h:yE H y size=some (m,news)) {c:Value} (hy:aY φ y c) :
  ∃sa c2 nv,c=.slice sa m c2∧RelVs φ news nv∧nv.length=m*size∧(∀u∈nv,u.oneCell'=true)∧((sa=none∧m=0)∨∃sp,sa=some sp∧∀(j:Nat) u,nv[j]?=some u→w.cell? (sp.add j)=some u):=by
 unfold yE at h
 split at h
 ·cases h
  exact ⟨none,0,[],hy,rfl,by simp,by simp,.inl ⟨rfl,rfl⟩⟩
 ·rename_i b off m' k' cp
  cases hb:Nat.beq k' size with
  |false=>rw[hb] at h;cases h
  |true=>
   rw[hb] at h
   obtain ⟨l,hl,he⟩:=Option.map_eq_some_iff.1 h
   cases he
   obtain ⟨q,o,cap,hq,rfl,h1,h2,_⟩:=hy
   obtain ⟨vs,g1,g2,g3,g4⟩:=gv hR hl hq
   refine ⟨_,cap,vs,Z,g1,g2,g3,.inr ⟨_,Z,fun j u hj=>?_⟩⟩
   have hjl:=(List.getElem?_eq_some_iff.1 hj).1
   have hm0:cap≠0:=fun e=>by
    have:m=0:=by omega
    rw[g2,this,Nat.zero_mul] at hjl;omega
   rw[bK,h2 hm0]
   exact g4 j u hj
 ·cases h
theorem jE {i:TypeInfo} (ht:P.underlying t=some (.slice e)) (hi:P.info? e=some i) {a sa:Option Addr} {n cap c:Nat} (h:n≤cap) (h0:a=none→n=0∧cap=0) :
  (Builtin.append_ #[t,t] ty #[.slice a n cap,.slice sa 0 c]).run P w=.ok (.slice a n cap) w:=by
 cases a with
 |none=>
  obtain ⟨rfl,rfl⟩:=h0 rfl
  cases sa<;>simp[Builtin.append_,run_underlying ht,sizeOf,typeInfo,hi,Builtin.lenOf,Builtin.firstCells,loadCells,loadCellsFrom,storeCells]
 |some p=>cases sa<;>simp[Builtin.append_,run_underlying ht,sizeOf,typeInfo,hi,Builtin.lenOf,Builtin.firstCells,h,loadCells,loadCellsFrom,storeCells]
theorem iD {i:TypeInfo} (ht:P.underlying t=some (.slice e)) (hi:P.info? e=some i) {g off n cap m c:Nat} {S:TypeId} {cur:Array Value} (hg:w.heap[g]?=some (.cells cur S (0,0))) {a:Addr} {news:List Value}
  (hl:news.length=m*i.size) (hn:∀(j:Nat) u,news[j]?=some u→w.cell? (a.add j)=some u) (h1:∀u∈news,u.oneCell'=true) (hroom:n+m≤cap) (hfit:off+n*i.size+news.length≤cur.size) :
  (Builtin.append_ #[t,t] ty #[.slice (some ⟨g,off,none⟩) n cap,.slice (some a) m c]).run P w=.ok (.slice (some ⟨g,off,none⟩) (n+m) cap) (w.setRow g (cur.toList.take (off+n*i.size)++news++cur.toList.drop (off+n*i.size+news.length)).toArray):=by
 have hf:=run_firstCells_some (P:=P) w i.size m a m c news hl hn
 have hst:=run_storeCells_at P g (off+n*i.size) S news 0 cur w hg (by simpa using hfit) h1
 simp only[Nat.add_zero] at hst
 simp[Builtin.append_,run_underlying ht,sizeOf,typeInfo,hi,Builtin.lenOf,hroom,hf,bK,hst]
theorem Dh {z:Array Value} {n:Nat}:(Builtin.zeroCells z n).size=n*z.size:=size_zeroCells z n
theorem yG {i:TypeInfo} {zv:Value} {ie:TI} (hTe:sO P e ie) (hi:P.info? e=some i) (hsz:i.size=ie.size) (hzr:∀φ,RelVs φ ie.z zv.cells.toList) (hR:dg I φ H nx F E w) (hk:φ k=none) (hkx:k<nx) {cs:List EV} {vs:List Value} {cap m:Nat}
  (hr:RelVs φ cs vs) (h1:∀u∈vs,u.oneCell'=true) (hl:vs.length=m*ie.size) (hc:m≤cap):d6 φ I F E k nx (.sl k 0 m ie.size .en) (H.set k (some (.cells false cs))) nx (.slice (some ⟨w.heap.size,0,none⟩) m cap) (w.drew.alloc (.cells (vs.toArray++Builtin.zeroCells zv.cells (cap - m)) e)):=by
 have hz1:=hTe.cell1 hzr
 have hzl:zv.cells.size=ie.size:=by have:=(hzr φ).length;rw[hTe.zl] at this;simpa using this
 have htot:(vs++(Builtin.zeroCells zv.cells (cap - m)).toList).length=cap*ie.size:=by
  rw[qw,hl,Array.length_toList,Dh,hzl,←Nat.add_mul];congr 1;omega
 refine hR.addB (q:=⟨w.heap.size,0,cap*ie.size⟩) (A:=[(w.heap.size,.cells (vs++(Builtin.zeroCells zv.cells (cap - m)).toList).toArray e (0,0))]) hk hkx ⟨_,0,cap,q6 _ _ _,rfl,hc,fun _=>rfl,by show 0+0+cap*ie.size=cap*ie.size;omega⟩
  ⟨_,e,vs,(Builtin.zeroCells zv.cells (cap - m)).toList,q6 _ _ _,rfl,hr.mono (qk hk _),fun u hu=>?_,htot,(fun h=>by cases h),rfl⟩ fun L hS=>?_
 ·rcases List.mem_append.1 hu with hu|hu
  ·exact h1 u hu
  ·simp only[Builtin.zeroCells] at hu
   simp at hu
   obtain ⟨a,ha,rfl⟩:=hu
   have hp:a % zv.cells.size<zv.cells.size:=Nat.mod_lt _ (Nat.pos_of_ne_zero fun e=>by rw[e,Nat.mul_zero] at ha;omega)
   rw[getElem!_pos zv.cells (a % zv.cells.size) hp]
   exact hz1 _ (by simp)
 ·have h2:=hS.drew.alloc (.cells (vs.toArray++Builtin.zeroCells zv.cells (cap - m)) e)
  have he:(vs++(Builtin.zeroCells zv.cells (cap - m)).toList).toArray=vs.toArray++Builtin.zeroCells zv.cells (cap - m):=by apply Array.toList_inj.1;simp
  rw[he]
  exact h2
theorem E9 (hT:cW P T) (hR:dg I φ H nx F E w) (hk:φ k=none) (hkx:k<nx) {x y z:EV} {H':Hp} (h:yF T H k t x y=some (z,H')) {a c:Value} (hx:aY φ x a) (hy:aY φ y c) :
  ∃v w',(Builtin.append_ #[t,t] ty #[a,c]).run P w=.ok v w'∧d6 φ I F E k nx z H' nx v w':=by
 have hB:me=140737488355328:=rfl
 unfold yF at h
 split at h
 ·rename_i i hi
  split at h
  ·rename_i e hd
   have ht:=hd▸(hT t i hi).und
   split at h
   ·rename_i ie hie
    have hTe:=hT e ie hie
    obtain ⟨f,zv,f1,f2,f3,f4,f5,_⟩:=hTe.inf
    split at h
    ·rename_i m news hnews
     obtain ⟨sa,c2,nv,rfl,n1,n2,n3,n4⟩:=pO hR hnews hy
     split at h
     ·have hx:a=.slice none 0 0:=hx
      subst hx
      cases hm:Nat.beq m 0 with
      |true=>
       rw[hm] at h
       simp only[cond_true,Option.some.injEq,Prod.mk.injEq] at h
       obtain ⟨rfl,rfl⟩:=h
       have hm:=Nat.eq_of_beq_eq_true hm
       subst hm
       exact ⟨_,w,jE ht f1 (Nat.le_refl _) (fun _=>⟨rfl,rfl⟩),hR.stay rfl⟩
      |false=>
       rw[hm] at h
       simp only[cond_false] at h
       have hm0:m≠0:=fun e=>by rw[e] at hm;cases hm
       cases hb:(Nat.ble (m*ie.bytes) me&&Nat.ble m me) with
       |false=>rw[hb] at h;cases h
       |true=>
        rw[hb] at h
        simp only[cond_true,Option.some.injEq,Prod.mk.injEq] at h
        obtain ⟨rfl,rfl⟩:=h
        simp only[w6] at hb
        have b1:=Nat.le_of_ble_eq_true hb.1
        have b2:=Nat.le_of_ble_eq_true hb.2
        rcases n4 with ⟨_,h0⟩|⟨sp,rfl,hat⟩
        ·exact absurd h0 hm0
        ·have hrun:=run_append_nil (P:=P) w t ty e f zv ht f1 f4 sp m c2 nv (by rw[n2,f2]) hat (by omega) (by omega) (by rw[f3];omega)
         exact ⟨_,_,hrun,yG hTe f1 f2 f5 hR hk hkx n1 n3 n2 (grownCap_ge _ _ _ _)⟩
     ·rename_i b off n k' cp
      obtain ⟨q,o,cap,hq,rfl,x1,x2,x3⟩:=hx
      cases hm:Nat.beq m 0 with
      |true=>
       rw[hm] at h
       simp only[cond_true,Option.some.injEq,Prod.mk.injEq] at h
       obtain ⟨rfl,rfl⟩:=h
       have hm:=Nat.eq_of_beq_eq_true hm
       subst hm
       exact ⟨_,w,jE ht f1 x1 (fun e=>by cases e),hR.stay ⟨q,o,cap,hq,rfl,x1,x2,x3⟩⟩
      |false=>
       rw[hm] at h
       simp only[cond_false] at h
       have hm0:m≠0:=fun e=>by rw[e] at hm;cases hm
       obtain ⟨sp,rfl,hat⟩:∃sp,sa=some sp∧∀(j:Nat) u,nv[j]?=some u→w.cell? (sp.add j)=some u:=by
        rcases n4 with ⟨_,h0⟩|h0
        ·exact absurd h0 hm0
        ·exact h0
       cases hb:(Nat.beq k' ie.size&&Nat.blt 0 ie.size&&Nat.ble ((n+m)*ie.bytes) me&&Nat.ble (n+m) me) with
       |false=>rw[hb] at h;cases h
       |true=>
        rw[hb] at h
        simp only[cond_true] at h
        simp only[w6] at hb
        have b0:=Nat.eq_of_beq_eq_true hb.1.1.1
        have b1:0<ie.size:=Nat.le_of_ble_eq_true hb.1.1.2
        have b2:=Nat.le_of_ble_eq_true hb.1.2
        have b3:=Nat.le_of_ble_eq_true hb.2
        subst b0
        have move:∀{cs:List EV},((H.get b).bind VO.cs?)=some cs→cap<n+m→Nat.ble (off+n*ie.size) cs.length=true →
          ∃v w',(Builtin.append_ #[t,t] ty #[.slice (some ⟨q.r,o,none⟩) n cap,.slice (some sp) m c2]).run P w=.ok v w'∧d6 φ I F E k nx (.sl k 0 (n+m) ie.size .en) (H.set k (some (.cells false ((cs.drop off).take (n*ie.size)++news)))) nx v w':=fun {cs} hcs hlt hle=>by
         obtain ⟨vs,g1,g2,g3,g4⟩:=gv (n:=n*ie.size) (off:=off) (l:=(cs.drop off).take (n*ie.size)) hR (by unfold cellsOf;rw[hcs];dsimp only;rw[hle];rfl) hq
         have hrun:=run_append_grow (P:=P) w t ty e f zv ht f1 f4 ⟨q.r,o,none⟩ n cap vs (by rw[g2,f2]) (fun j v hj=>by
          have hjl:=(List.getElem?_eq_some_iff.1 hj).1
          have hn0:n≠0:=fun e=>by rw[g2,e,Nat.zero_mul] at hjl;omega
          rw[bK,x2 (by omega)]
          exact g4 j v hj) sp m c2 nv (by rw[n2,f2]) hat hlt (by omega) (growslice_fits hlt (by rw[f3];omega))
         refine ⟨_,_,hrun,?_⟩
         have he:(vs.toArray++nv.toArray:Array Value)=(vs++nv).toArray:=by simp
         rw[he]
         exact yG hTe f1 f2 f5 hR hk hkx (g1.append n1) (fun u hu=>(List.mem_append.1 hu).elim (g3 u) (n3 u)) (by rw[qw,g2,n2,Nat.add_mul]) (grownCap_ge _ _ _ _)
        split at h
        ·rename_i ex cs hcs
         have hcs2:(H.get b).bind VO.cs?=some cs:=by rw[hcs];rfl
         cases hin:(Iy (n+m) cp&&Nat.ble (off+(n+m)*ie.size) cs.length) with
         |true=>
          rw[hin] at h
          simp only[cond_true,Option.some.injEq,Prod.mk.injEq] at h
          obtain ⟨rfl,rfl⟩:=h
          simp only[w6] at hin
          have i2:=Nat.le_of_ble_eq_true hin.2
          obtain ⟨A,L,hBb,hr,hS⟩:=hR.pick hcs
          obtain ⟨q',S,vs,junk,y1,y2,y3,y4,y5,y6,rfl⟩:=hBb
          rw[hq] at y1;cases y1
          have hown:=hS.own _ (.head _)
          simp only at hown
          have hmul:(n+m)*ie.size=n*ie.size+m*ie.size:=Nat.add_mul _ _ _
          have hvl:=y3.length
          have hcap:n+m≤cap:=by
           cases cp with
           |ex c3=>
            have x3:cap=c3:=x3
            have:=Nat.le_of_ble_eq_true hin.1
            omega
           |en=>
            have x3:q.sh+off+cap*ie.size=q.κ:=x3
            rw[qw] at y5
            have:(n+m)*ie.size≤cap*ie.size:=by omega
            exact Nat.le_of_mul_le_mul_right this b1
           |un=>cases hin.1
          have ho:o=off:=by rw[x2 (by omega),y2,Nat.zero_add]
          subst ho
          have hrun:=iD (P:=P) (ty:=ty) ht f1 (off:=o) (n:=n) (cap:=cap) (m:=m) (c:=c2) hown (by rw[n2,f2]) hat n3 hcap (by rw[f2,n2];simp;omega)
          rw[f2,n2] at hrun
          have hcells:(vs++junk).toArray.toList.take (o+n*ie.size)++nv++(vs++junk).toArray.toList.drop (o+n*ie.size+m*ie.size)=(vs.take (o+n*ie.size)++nv++vs.drop (o+(n+m)*ie.size))++junk:=by
           simp only
           rw[List.take_append_of_le_length (by omega),List.drop_append_of_le_length (by omega),hmul,Nat.add_assoc]
           simp
          rw[hcells] at hrun
          refine ⟨_,_,hrun,?_⟩
          refine ⟨I,φ,.refl _,.refl _,fun _ _ _=>Z,Nat.le_refl _,⟨q,o,cap,hq,Z,hcap,x2,x3⟩,qi hr ⟨q,S,vs.take (o+n*ie.size)++nv++vs.drop (o+(n+m)*ie.size),junk,hq,y2,((y3.take _).append n1).append (y3.drop _),fun u hu=>?_,?_,y6,Z⟩ hS.turn1 hR.top⟩
          ·rcases List.mem_append.1 hu with hu|hu
           ·rcases List.mem_append.1 hu with hu|hu
            ·rcases List.mem_append.1 hu with hu|hu
             ·exact y4 u (List.mem_append_left _ (List.mem_of_mem_take hu))
             ·exact n3 u hu
            ·exact y4 u (List.mem_append_left _ (List.mem_of_mem_drop hu))
           ·exact y4 u (List.mem_append_right _ hu)
          ·rw[←y5]
           simp only[qw,w3,List.length_drop,n2]
           omega
         |false=>
          rw[hin] at h
          simp only[cond_false] at h
          split at h
          ·rename_i c3
           have x3:cap=c3:=x3
           subst x3
           cases hb5:(Nat.blt cap (n+m)&&Nat.ble (off+n*ie.size) cs.length) with
           |false=>rw[hb5] at h;cases h
           |true=>
            rw[hb5] at h
            simp only[cond_true,Option.some.injEq,Prod.mk.injEq] at h
            obtain ⟨rfl,rfl⟩:=h
            simp only[w6] at hb5
            exact move hcs2 (Nat.le_of_ble_eq_true hb5.1) hb5.2
          ·cases hb5:(Nat.beq off 0&&Nat.beq (n*ie.size) cs.length) with
           |false=>rw[hb5] at h;cases h
           |true=>
            rw[hb5] at h
            simp only[cond_true,Option.some.injEq,Prod.mk.injEq] at h
            obtain ⟨rfl,rfl⟩:=h
            simp only[w6] at hb5
            have c1:=Nat.eq_of_beq_eq_true hb5.1
            have c4:=Nat.eq_of_beq_eq_true hb5.2
            subst c1
            obtain ⟨A,L,hBb,hr,hS⟩:=hR.pick hcs
            obtain ⟨q',S,vs,junk,y1,y2,y3,y4,y5,y6,rfl⟩:=hBb
            rw[hq] at y1;cases y1
            have hown:=hS.own _ (.head _)
            simp only at hown
            have hvl:=y3.length
            have x3:q.sh+0+cap*ie.size=q.κ:=x3
            by_cases hcap:n+m≤cap
            ·have ho:o=0:=by rw[x2 (by omega),y2]
             subst ho
             have hmul:(n+m)*ie.size=n*ie.size+m*ie.size:=Nat.add_mul _ _ _
             have hle:(n+m)*ie.size≤cap*ie.size:=Nat.mul_le_mul_right _ hcap
             have hjl:vs.length+junk.length=cap*ie.size:=by rw[←qw,y5];omega
             have hrun:=iD (P:=P) (ty:=ty) ht f1 (off:=0) (n:=n) (cap:=cap) (m:=m) (c:=c2) hown (by rw[n2,f2]) hat n3 hcap (by rw[f2,n2];simp;omega)
             rw[f2,n2] at hrun
             have hcells:(vs++junk).toArray.toList.take (0+n*ie.size)++nv++(vs++junk).toArray.toList.drop (0+n*ie.size+m*ie.size)=(vs++nv)++junk.drop (m*ie.size):=by
              have e1:0+n*ie.size=vs.length:=by omega
              simp only[e1]
              rw[List.take_left,List.drop_append,List.drop_eq_nil_of_le (by omega:vs.length≤vs.length+m*ie.size)]
              simp
             rw[hcells] at hrun
             refine ⟨_,_,hrun,I,φ.put k ⟨q.r,0,q.κ⟩,.refl _,qk hk _,fun j _ hj=>lB φ _ hj,Nat.le_refl _,⟨_,0,cap,q6 _ _ _,rfl,hcap,fun _=>rfl,by show 0+0+cap*ie.size=q.κ;omega⟩,
              qi ((hr.moved hk).mono (.refl _) (qk hk _)) ⟨_,S,vs++nv,junk.drop (m*ie.size),q6 _ _ _,rfl,(y3.append n1).mono (qk hk _),fun u hu=>?_,?_,(fun h=>by cases h),rfl⟩ hS.turn1 (mc hR.top hkx _)⟩
             ·rcases List.mem_append.1 hu with hu|hu
              ·rcases List.mem_append.1 hu with hu|hu
               ·exact y4 u (List.mem_append_left _ hu)
               ·exact n3 u hu
              ·exact y4 u (List.mem_append_right _ (List.mem_of_mem_drop hu))
             ·show _=q.κ
              rw[←y5]
              simp only[qw,List.length_drop,n2]
              omega
            ·have hlt:cap<n+m:=by omega
             obtain ⟨us,g1,g2,g3,g4⟩:=gv (n:=n*ie.size) (off:=0) (l:=(cs.drop 0).take (n*ie.size)) hR (by unfold cellsOf;rw[hcs2];dsimp only;rw[show Nat.ble (0+n*ie.size) cs.length=true from Nat.ble_eq_true_of_le (by omega)];rfl) hq
             have e0:(cs.drop 0).take (n*ie.size)=cs:=by rw[List.drop_zero,List.take_of_length_le (by omega)]
             rw[e0] at g1
             have hrun:=run_append_grow (P:=P) w t ty e f zv ht f1 f4 ⟨q.r,o,none⟩ n cap us (by rw[g2,f2]) (fun j v hj=>by
              have hjl:=(List.getElem?_eq_some_iff.1 hj).1
              have hn0:n≠0:=fun e=>by rw[g2,e,Nat.zero_mul] at hjl;omega
              rw[bK,x2 (by omega)]
              exact g4 j v hj) sp m c2 nv (by rw[n2,f2]) hat hlt (by omega) (growslice_fits hlt (by rw[f3];omega))
             refine ⟨_,_,hrun,?_⟩
             have he:(us.toArray++nv.toArray:Array Value)=(us++nv).toArray:=by simp
             rw[he]
             have hR2:dg I φ (H.set b none) nx F E w:=dg.gone hr hS.dropAll hR.top
             exact yG hTe f1 f2 f5 hR2 hk hkx (g1.append n1) (fun u hu=>(List.mem_append.1 hu).elim (g3 u) (n3 u)) (by rw[qw,g2,n2,Nat.add_mul]) (grownCap_ge _ _ _ _)
          ·cases h
        ·rename_i cs hcs
         have hcs2:(H.get b).bind VO.cs?=some cs:=by rw[hcs];rfl
         split at h
         ·rename_i c3
          have x3:cap=c3:=x3
          subst x3
          cases hb5:(Nat.blt cap (n+m)&&Nat.ble (off+n*ie.size) cs.length) with
          |false=>rw[hb5] at h;cases h
          |true=>
           rw[hb5] at h
           simp only[cond_true,Option.some.injEq,Prod.mk.injEq] at h
           obtain ⟨rfl,rfl⟩:=h
           simp only[w6] at hb5
           exact move hcs2 (Nat.le_of_ble_eq_true hb5.1) hb5.2
         ·cases h
        ·cases h
     ·cases h
    ·cases h
   ·cases h
  ·cases h
 ·cases h
end
end
section
open Go.Proofs
section
variable {φ:cN}
theorem cV.push:∀{es:List (EV × EV)} {ms:List MapEntry},cV φ es ms→∀{k v:EV} {e:MapEntry},aY φ k e.key→aY φ v e.val→cV φ (es++[(k,v)]) (ms++[e])
 |[],_,h,k,v,e,h1,h2=>by have h:_=[]:=h;subst h;exact ⟨e,[],rfl,h1,h2,rfl⟩
 |_::_,_,⟨e',r,a,b,c,d⟩,k,v,e,h1,h2=>by subst a;exact ⟨e',_,rfl,b,c,cV.push d h1 h2⟩
theorem cV.set:∀{es:List (EV × EV)} {ms:List MapEntry} (j:Nat),cV φ es ms→∀{k v:EV} {e:MapEntry},aY φ k e.key→aY φ v e.val→cV φ (es.set j (k,v)) (ms.set j e)
 |[],_,_,h,k,v,e,h1,h2=>by have h:_=[]:=h;subst h;exact rfl
 |_::_,_,0,⟨e',r,a,b,c,d⟩,k,v,e,h1,h2=>by subst a;exact ⟨e,_,rfl,h1,h2,d⟩
 |_::_,_,j+1,⟨e',r,a,b,c,d⟩,k,v,e,h1,h2=>by subst a;exact ⟨e',_,rfl,b,c,cV.set j d h1 h2⟩
end
noncomputable def yH (T:TT) (H:Hp) (k t u:Nat) (x y:EV):Option (EV × Hp):=
 match T t,T u with
 |some i,some iu=>match i.d,iu.d,x,y with
  |.slice e,.int _,.ns,.i _ n=>match T e,kl n with
   |some ie,some m=>bif Nat.blt 0 m&&Nat.blt 0 ie.size&&Nat.ble (m*ie.bytes) me&&Nat.ble m me then some (.sl k 0 m ie.size .en,H.set k (some (.cells false (uW m ie.z)))) else none
   |_,_=>none
  |_,_,_,_=>none
 |_,_=>none
noncomputable def sV (T:TT) (H:Hp) (t:Nat) (x y:EV):Option (EV × Hp):=
 match T t with
 |some i=>match i.d,x with
  |.slice e,.sl b off n k' _=>match T e with
   |some ie=>match yE H y ie.size,H.get b with
    |some (m,news),some (.cells ex cs)=>bif Nat.beq (Nat.min m n) 0 then some (.i .i64 0,H) else bif Nat.beq k' ie.size&&Nat.blt 0 ie.size&&Nat.blt 0 (Nat.min m n)&&Nat.ble (off+Nat.min m n*ie.size) cs.length then
      some (.i .i64 (Nat.min m n),H.set b (some (.cells ex (cs.take off++news.take (Nat.min m n*ie.size)++cs.drop (off+Nat.min m n*ie.size))))) else none
    |_,_=>none
   |none=>none
  |_,_=>none
 |none=>none
noncomputable def Fa (T:TT) (g:Nat→EV) (H:Hp) (t:TypeId) (m y z:Operand):Option (EV × Hp):=match T t,cg g m,cg g y,cg g z with
 |some i,some (.m b),some key,some v=>match i.d,H.get b with
  |.map kt _,some (.mp es)=>match T kt with
   |some ik=>match na T kt ik key es with
    |some (some (j,_))=>some (.u,H.set b (some (.mp (es.set j (key,v)))))
    |some none=>some (.u,H.set b (some (.mp (es++[(key,v)]))))
    |none=>none
   |none=>none
  |_,_=>none
 |_,_,_,_=>none
noncomputable def Fb (T:TT) (g:Nat→EV) (H:Hp) (t:TypeId) (m y:Operand):Option (EV × Hp):=match T t,cg g m,cg g y with
 |some i,some (.m b),some key=>match i.d,H.get b with
  |.map kt et,some (.mp es)=>match T kt,T et with
   |some ik,some ie=>match na T kt ik key es with
    |some (some (j,v))=>some (.tu [v,.i .i64 j],H.set b (some (.mp (es.set j (key,v)))))
    |some none=>some (.tu [ie.v,.i .i64 es.length],H.set b (some (.mp (es++[(key,ie.v)]))))
    |none=>none
   |_,_=>none
  |_,_=>none
 |_,_,_=>none
noncomputable def Fc (g:Nat→EV) (H:Hp) (m s z:Operand):Option (EV × Hp):=match cg g m,cg g s,cg g z with
 |some (.m b),some (.i .i64 n),some v=>match H.get b,kl n with
  |some (.mp es),some j=>match es[j]? with
   |some e=>some (.u,H.set b (some (.mp (es.set j (e.1,v)))))
   |none=>none
  |_,_=>none
 |_,_,_=>none
theorem nE.push {ms:List MapEntry} {e:MapEntry} (h:nE ms) (he:e.born=ms.length):nE (ms++[e]):=fun j x hx=>by
 rcases Nat.lt_trichotomy j ms.length with q|q|q
 ·rw[List.getElem?_append_left q] at hx;exact h j x hx
 ·subst q
  rw[List.getElem?_append_right (Nat.le_refl _)] at hx
  simp at hx
  subst hx;exact he
 ·rw[List.getElem?_eq_none (by simp;omega)] at hx;cases hx
theorem nE.set {ms:List MapEntry} {e e0:MapEntry} {i:Nat} (h:nE ms) (h0:ms[i]?=some e0) (he:e.born=e0.born):nE (ms.set i e):=fun j x hx=>by
 by_cases q:i=j
 ·subst q
  rw[List.getElem?_set_self (List.getElem?_eq_some_iff.1 h0).1] at hx
  cases hx
  rw[he];exact h _ _ h0
 ·rw[List.getElem?_set_ne q] at hx;exact h j x hx
theorem cV.len {φ:cN}:∀{es:List (EV × EV)} {ms:List MapEntry},cV φ es ms→es.length=ms.length
 |[],ms,h=>by
  have h:ms=[]:=h
  subst h;rfl
 |_::_,_,⟨e,r,a,_,_,d⟩=>by subst a;simp[cV.len d]
theorem cV.at {φ:cN}:∀{es:List (EV × EV)} {ms:List MapEntry} (j:Nat) {e:EV × EV},cV φ es ms→es[j]?=some e→∃x,ms[j]?=some x∧aY φ e.1 x.key∧aY φ e.2 x.val
 |[],_,_,_,_,h=>by cases h
 |_::_,_,0,_,⟨e,r,a,b,c,_⟩,h=>by subst a;cases h;exact ⟨e,rfl,b,c⟩
 |_::_,_,j+1,_,⟨e,r,a,_,_,d⟩,h=>by subst a;exact cV.at j d h
theorem sW {ms:List MapEntry} {j:Nat} {e:MapEntry} {f:MapEntry→MapEntry} (h:ms[j]?=some e):ms.toArray.modify j f=(ms.set j (f e)).toArray:=by
 have hjl:=(List.getElem?_eq_some_iff.1 h).1
 apply Array.ext_getElem?
 intro p
 rw[Array.getElem?_modify,List.getElem?_toArray,List.getElem?_toArray]
 by_cases hp:j=p
 ·subst hp
  rw[if_pos rfl,h,List.getElem?_set_self hjl];rfl
 ·rw[if_neg hp,List.getElem?_set_ne hp]
theorem nE.find {ms:List MapEntry} (h:nE ms) {j:Nat} (hj:j<ms.length):ms.toArray.findIdx? (fun e=>(e.born:Int) == (j:Int))=some j:=by
 rw[List.findIdx?_toArray,List.findIdx?_eq_some_iff_getElem]
 refine ⟨hj,?_,fun i hi=>?_⟩
 ·have:=h j _ (qq hj);simp[this]
 ·have:=h i _ (qq (Nat.lt_trans hi hj));simp[this];omega
noncomputable def JA (T:TT) (g:Nat→EV) (H:Hp) (k:Nat) (op:Op):Option (EV × Hp):=
 match op with
 |.store t x y=>match T t,cg g x,cg g y with
  |some i,some (.p b off),some a=>match H.get b with
   |some (.cells ex cs)=>bif a.sto&&a.cs.all EV.cell&&Nat.beq a.cs.length i.size&&Nat.ble (off+i.size) cs.length then some (.u,H.set b (some (.cells ex (cs.take off++a.cs++cs.drop (off+i.size))))) else none
   |_=>none
  |_,_,_=>none
 |.next x true=>match cg g x with
  |some (.p b off)=>match H.get b with
   |some (.it s p)=>bif Nat.beq off 0 then
     match s.data.toList[p]? with
     |some c=>bif Nat.blt c.toNat 128 then some (.tu [.b true,.i .i64 p,.i .i32 c.toNat],H.set b (some (.it s (p+1)))) else none
     |none=>some (.tu [.b false],H)
    else none
   |_=>none
  |_=>none
 |.mapUpdate t m y z=>Fa T g H t m y z
 |.mapEntry t m y=>Fb T g H t m y
 |.entryStore _ m s z=>Fc g H m s z
 |.call ⟨.builtin .append,ar,ts⟩=>match ar.toList,ts.toList with
  |[x,y],[t,u]=>match cg g x,cg g y with
   |some a,some c=>bif Nat.beq t u then yF T H k t a c else yH T H k t u a c
   |_,_=>none
  |_,_=>none
 |.call ⟨.builtin .copy,ar,ts⟩=>match ar.toList,ts.toList with
  |[x,y],[t,_]=>match cg g x,cg g y with
   |some a,some c=>sV T H t a c
   |_,_=>none
  |_,_=>none
 |_=>none
noncomputable def KW (T:TT) (g:Nat→EV) (H:Hp) (t:TypeId) (x y:Operand):Option (EV × Hp):=match T t,cg g x,cg g y with
 |some i,some (.p b off),some a=>match H.get b with
  |some (.cells ex cs)=>bif a.sto&&a.cs.all EV.cell&&Nat.beq a.cs.length i.size&&Nat.ble (off+i.size) cs.length then some (.u,H.set b (some (.cells ex (cs.take off++a.cs++cs.drop (off+i.size))))) else none
  |_=>none
 |_,_,_=>none
noncomputable def KX (g:Nat→EV) (H:Hp) (x:Operand) (s:Bool):Option (EV × Hp):=match s with
 |true=>match cg g x with
  |some (.p b off)=>match H.get b with
   |some (.it s p)=>bif Nat.beq off 0 then
     match s.data.toList[p]? with
     |some c=>bif Nat.blt c.toNat 128 then some (.tu [.b true,.i .i64 p,.i .i32 c.toNat],H.set b (some (.it s (p+1)))) else none
     |none=>some (.tu [.b false],H)
    else none
   |_=>none
  |_=>none
 |false=>none
noncomputable def KY (T:TT) (g:Nat→EV) (H:Hp) (k:Nat) (ar:Array Operand) (ts:Array TypeId):Option (EV × Hp):=match ar.toList,ts.toList with
 |[x,y],[t,u]=>match cg g x,cg g y with
  |some a,some c=>bif Nat.beq t u then yF T H k t a c else yH T H k t u a c
  |_,_=>none
 |_,_=>none
noncomputable def KZ (T:TT) (g:Nat→EV) (H:Hp) (ar:Array Operand) (ts:Array TypeId):Option (EV × Hp):=match ar.toList,ts.toList with
 |[x,y],[t,_]=>match cg g x,cg g y with
  |some a,some c=>sV T H t a c
  |_,_=>none
 |_,_=>none
noncomputable def K0 (T:TT) (g:Nat→EV) (H:Hp) (k:Nat) (b:Builtin) (ar:Array Operand) (ts:Array TypeId):Option (EV × Hp):=match b with
 |.append=>KY T g H k ar ts
 |.copy=>KZ T g H ar ts
 |_=>none
noncomputable def K1 (T:TT) (g:Nat→EV) (H:Hp) (k:Nat) (c:Call):Option (EV × Hp):=match c with
 |⟨.builtin b,ar,ts⟩=>K0 T g H k b ar ts
 |_=>none
noncomputable def K2 (T:TT) (g:Nat→EV) (H:Hp) (k:Nat) (op:Op):Option (EV × Hp):=
 match op with
 |.store t x y=>KW T g H t x y
 |.next x s=>KX g H x s
 |.mapUpdate t m y z=>Fa T g H t m y z
 |.mapEntry t m y=>Fb T g H t m y
 |.entryStore _ m s z=>Fc g H m s z
 |.call c=>K1 T g H k c
 |_=>none
theorem JB (T:TT) (g:Nat→EV) (H:Hp) (k:Nat) (op:Op):K2 T g H k op=JA T g H k op:=by
 cases op<;>try rfl
 case next x s=>cases s<;>rfl
 case call c=>
  obtain ⟨cl,ar,ts⟩:=c
  cases cl<;>try rfl
  rename_i b
  cases b<;>rfl
section
variable {P:Program} {φ:cN} {g:Nat→EV} {ρ:bU} {w:World} {T:TT} {I:aP} {H:Hp} {k nx:Nat} {F:List (Nat × Obj)} {E:World}
theorem Fd {t u:Nat} {ty:TypeId} (hT:cW P T) (hR:dg I φ H nx F E w) (hk:φ k=none) (hkx:k<nx) {x y z:EV} {H':Hp} (h:yH T H k t u x y=some (z,H')) {a c:Value} (hx:aY φ x a) (hy:aY φ y c) :
  ∃v w',(Builtin.append_ #[t,u] ty #[a,c]).run P w=.ok v w'∧d6 φ I F E k nx z H' nx v w':=by
 have hB:me=140737488355328:=rfl
 unfold yH at h
 split at h
 ·rename_i i iu hi hiu
  split at h
  ·rename_i e ku k2 n hd hdu
   have ht:=hd▸(hT t i hi).und
   have hu:=hdu▸(hT u iu hiu).und
   have hx:a=.slice none 0 0:=hx
   have hy:c=.int k2 n:=hy
   subst hx hy
   split at h
   ·rename_i ie m hie hm
    have hm:=gq hm
    subst hm
    have hTe:=hT e ie hie
    obtain ⟨f,zv,f1,f2,f3,f4,f5,_⟩:=hTe.inf
    cases hb:(Nat.blt 0 m&&Nat.blt 0 ie.size&&Nat.ble (m*ie.bytes) me&&Nat.ble m me) with
    |false=>rw[hb] at h;cases h
    |true=>
     rw[hb] at h
     simp only[cond_true,Option.some.injEq,Prod.mk.injEq] at h
     obtain ⟨rfl,rfl⟩:=h
     simp only[w6] at hb
     have b0:0<m:=Nat.le_of_ble_eq_true hb.1.1.1
     have b1:0<ie.size:=Nat.le_of_ble_eq_true hb.1.1.2
     have b2:=Nat.le_of_ble_eq_true hb.1.2
     have b3:=Nat.le_of_ble_eq_true hb.2
     have hz1:=hTe.cell1 f5
     have hzl:zv.cells.toList.length=ie.size:=by rw[(f5 φ).length,hTe.zl]
     have hrun:=Go.Lib.run_append_nil_zeros (P:=P) w t u ty e f zv k2 ku ht hu f1 f4 m b0 (by rw[f2];exact b1) (by omega) (by rw[f3];omega)
     have hzc:Builtin.zeroCells zv.cells m=(List.replicate m zv.cells.toList).flatten.toArray:=by
      have:=km zv.cells.toList m (by omega) hz1
      rw[Array.toArray_toList] at this
      rw[←this,Array.length_toList];rfl
     rw[hzc] at hrun
     exact ⟨_,_,hrun,yG hTe f1 f2 f5 hR hk hkx ((f5 φ).flatR m) (fun u hu=>by
      obtain ⟨r,hr,hu⟩:=List.mem_flatten.1 hu
      rw[List.eq_of_mem_replicate hr] at hu
      exact hz1 u hu) (by simp[hzl]) (grownCap_ge _ _ _ _)⟩
   ·cases h
  ·cases h
 ·cases h
theorem Di {t u:Nat} {ty:TypeId} (hT:cW P T) (hR:dg I φ H nx F E w) {x y z:EV} {H':Hp} (h:sV T H t x y=some (z,H')) {a c:Value} (hx:aY φ x a) (hy:aY φ y c) :
  ∃v w',(Builtin.copy_ #[t,u] ty #[a,c]).run P w=.ok v w'∧d6 φ I F E k nx z H' nx v w':=by
 unfold sV at h
 split at h
 ·rename_i i hi
  split at h
  ·rename_i e b off n k' cp hd
   have ht:=hd▸(hT t i hi).und
   split at h
   ·rename_i ie hie
    have hTe:=hT e ie hie
    split at h
    ·rename_i m news ex cs hnews hcs
     obtain ⟨q,hqe⟩:∃q,Nat.min m n=q:=⟨_,rfl⟩
     rw[hqe] at h
     have hq1:q≤m:=hqe▸Nat.min_le_left m n
     have hq2:q≤n:=hqe▸Nat.min_le_right m n
     cases hq0:Nat.beq q 0 with
     |true=>
      rw[hq0] at h
      simp only[cond_true,Option.some.injEq,Prod.mk.injEq] at h
      obtain ⟨rfl,rfl⟩:=h
      have hq0:=Nat.eq_of_beq_eq_true hq0
      subst hq0
      obtain ⟨pb,o,cap,hq,rfl,x1,x2,x3⟩:=hx
      obtain ⟨sa,c2,nv,rfl,n1,n2,n3,n4⟩:=pO hR hnews hy
      refine ⟨.int .i64 0,w,?_,hR.stay Z⟩
      cases sa<;>simp[Builtin.copy_,run_underlying ht,hTe.sz,Builtin.lenOf,hqe,Builtin.firstCells,loadCells,loadCellsFrom,storeCells,goInt,Result.andThen]
     |false=>
     rw[hq0] at h
     simp only[cond_false] at h
     cases hb:(Nat.beq k' ie.size&&Nat.blt 0 ie.size&&Nat.blt 0 q&&Nat.ble (off+q*ie.size) cs.length) with
     |false=>rw[hb] at h;cases h
     |true=>
      rw[hb] at h
      simp only[cond_true,Option.some.injEq,Prod.mk.injEq] at h
      obtain ⟨rfl,rfl⟩:=h
      simp only[w6] at hb
      have b0:=Nat.eq_of_beq_eq_true hb.1.1.1
      have b1:0<ie.size:=Nat.le_of_ble_eq_true hb.1.1.2
      have b2:0<q:=Nat.le_of_ble_eq_true hb.1.2
      have b3:=Nat.le_of_ble_eq_true hb.2
      subst b0
      obtain ⟨pb,o,cap,hq,rfl,x1,x2,_⟩:=hx
      obtain ⟨sa,c2,nv,rfl,n1,n2,n3,n4⟩:=pO hR hnews hy
      obtain ⟨sp,rfl,hat⟩:∃sp,sa=some sp∧∀(j:Nat) u,nv[j]?=some u→w.cell? (sp.add j)=some u:=by
       rcases n4 with ⟨_,h0⟩|h0
       ·omega
       ·exact h0
      have hmul:q*ie.size≤m*ie.size:=Nat.mul_le_mul_right _ hq1
      have hnl:(nv.take (q*ie.size)).length=q*ie.size:=by rw[w3,n2];omega
      have hf:=run_firstCells_some (P:=P) w ie.size q sp m c2 (nv.take (q*ie.size)) hnl (fun j v hj=>hat j v (by
       have:=(List.getElem?_eq_some_iff.1 hj).1
       rw[hnl] at this
       rwa [List.getElem?_take_of_lt this] at hj))
      obtain ⟨A,L,hBb,hr,hS⟩:=hR.pick hcs
      obtain ⟨q',S,vs,junk,y1,y2,y3,y4,y5,y6,rfl⟩:=hBb
      rw[hq] at y1;cases y1
      have hvl:=y3.length
      have ho:o=off:=by rw[x2 (by omega),y2,Nat.zero_add]
      subst ho
      have hst:=sm (P:=P) (w:=w) (b:=pb.r) (off:=o) (n:=q*ie.size) (T:=S) (old:=vs++junk) (vs:=nv.take (q*ie.size)) hnl (fun u hu=>n3 u (List.mem_of_mem_take hu)) (by rw[qw];omega) (hS.own _ (.head _))
      have hcells:(vs++junk).take o++nv.take (q*ie.size)++(vs++junk).drop (o+q*ie.size)=(vs.take o++nv.take (q*ie.size)++vs.drop (o+q*ie.size))++junk:=by
       rw[List.take_append_of_le_length (by omega),List.drop_append_of_le_length (by omega)]
       simp
      rw[hcells] at hst
      refine ⟨.int .i64 q,_,?_,I,φ,.refl _,.refl _,fun _ _ _=>Z,Nat.le_refl _,Z,qi hr ⟨pb,S,vs.take o++nv.take (q*ie.size)++vs.drop (o+q*ie.size),junk,hq,y2,((y3.take _).append (n1.take _)).append (y3.drop _),fun u hu=>?_,?_,y6,Z⟩ hS.turn1 hR.top⟩
      ·simp[Builtin.copy_,run_underlying ht,hTe.sz,Builtin.lenOf,hqe,hf,hst,goInt,Result.andThen]
      ·rcases List.mem_append.1 hu with hu|hu
       ·rcases List.mem_append.1 hu with hu|hu
        ·rcases List.mem_append.1 hu with hu|hu
         ·exact y4 u (List.mem_append_left _ (List.mem_of_mem_take hu))
         ·exact n3 u (List.mem_of_mem_take hu)
        ·exact y4 u (List.mem_append_left _ (List.mem_of_mem_drop hu))
       ·exact y4 u (List.mem_append_right _ hu)
      ·rw[←y5]
       simp only[qw,List.length_drop,hnl,w3,n2] at *
       omega
    ·cases h
   ·cases h
  ·cases h
 ·cases h
theorem ei.val {o:Oper} {K:Value→World→Prop} {v:Value} {w':World} (h:(execOp (ev ρ) o).run P w=.ok (.value v) w') (hk:K v w'):ei P o ρ w K:=by
 unfold ei;rw[h];exact hk
theorem ei.skp {o:Oper} {K:Value→World→Prop} {w':World} (h:(execOp (ev ρ) o).run P w=.ok .skip w') (hk:K undef w'):ei P o ρ w K:=by
 unfold ei;rw[h];exact hk
theorem Hg (hT:cW P T) (hg:eF φ g ρ) (hR:dg I φ H nx F E w) (hk:φ k=none) (hkx:k<nx) {o:Oper} {x:EV} {H':Hp} (h:JA T g H k o.op=some (x,H')):ei P o ρ w (d6 φ I F E k nx x H' nx):=by
 obtain ⟨dst,op,ty,pos,af,gu⟩:=o
 dsimp only at h
 unfold JA at h
 split at h
 ·rename_i t x' y'
  split at h
  ·rename_i i b off a hi hx hy
   have hTi:=hT t i hi
   obtain ⟨q,hq,hxv⟩:=aS hg hx
   have hyv:=aS hg hy
   split at h
   ·rename_i ex cs hcs
    cases hb:(a.sto&&a.cs.all EV.cell&&Nat.beq a.cs.length i.size&&Nat.ble (off+i.size) cs.length) with
    |false=>rw[hb] at h;cases h
    |true=>
     rw[hb] at h
     simp only[cond_true,Option.some.injEq,Prod.mk.injEq] at h
     obtain ⟨rfl,rfl⟩:=h
     simp only[w6] at hb
     have b1:=hb.1.1.1
     have b2:=hb.1.1.2
     have b3:=Nat.eq_of_beq_eq_true hb.1.2
     have b4:=Nat.le_of_ble_eq_true hb.2
     have hr:=EV.cs_rel hyv b1
     have h1:=EV.cells_rel hr b2
     obtain ⟨A,L,hBb,hrest,hS⟩:=hR.pick hcs
     obtain ⟨q',S,vs,junk,y1,y2,y3,y4,y5,y6,rfl⟩:=hBb
     rw[hq] at y1;cases y1
     have hvl:=y3.length
     have hrun:=jQ (P:=P) (t:=t) (b:=q.r) (off:=off) (v:=ev ρ y') (vs:=(ev ρ y').cells.toList) (old:=vs++junk) (w:=w) hTi.sz (by simp) (by rw[hr.length,b3]) h1 (by rw[qw];omega) (hS.own _ (.head _))
     have hcells:(vs++junk).take off++(ev ρ y').cells.toList++(vs++junk).drop (off+i.size)=(vs.take off++(ev ρ y').cells.toList++vs.drop (off+i.size))++junk:=by
      rw[List.take_append_of_le_length (by omega),List.drop_append_of_le_length (by omega)]
      simp
     rw[hcells] at hrun
     refine ei.skp (w':=w.setRow q.r ((vs.take off++(ev ρ y').cells.toList++vs.drop (off+i.size))++junk).toArray) ?_ ⟨I,φ,.refl _,.refl _,fun _ _ _=>Z,Nat.le_refl _,trivial,qi hrest ⟨q,S,_,junk,hq,y2,((y3.take off).append hr).append (y3.drop _),fun u hu=>?_,?_,y6,Z⟩ hS.turn1 hR.top⟩
     ·simp only[execOp,hxv]
      rw[y2,Nat.zero_add,Sem.run_bind,hrun];rfl
     ·rcases List.mem_append.1 hu with hu|hu
      ·rcases List.mem_append.1 hu with hu|hu
       ·rcases List.mem_append.1 hu with hu|hu
        ·exact y4 u (List.mem_append_left _ (List.mem_of_mem_take hu))
        ·exact h1 u hu
       ·exact y4 u (List.mem_append_left _ (List.mem_of_mem_drop hu))
      ·exact y4 u (List.mem_append_right _ hu)
     ·have hl2:=hr.length
      rw[←y5]
      simp only[qw,w3,List.length_drop,hl2]
      omega
   ·cases h
  ·cases h
 ·rename_i x'
  split at h
  ·rename_i b off hx
   obtain ⟨q,hq,hxv⟩:=aS hg hx
   split at h
   ·rename_i s p hsp
    obtain ⟨A,L,hBb,hrest,hS⟩:=hR.pick hsp
    obtain ⟨q',y1,y2,rfl⟩:=hBb
    rw[hq] at y1;cases y1
    have hb:=hS.own _ (.head _)
    simp only at hb
    cases ho:Nat.beq off 0 with
    |false=>rw[ho] at h;cases h
    |true=>
     rw[ho] at h
     have ho:=Nat.eq_of_beq_eq_true ho
     subst ho
     have hxv:ev ρ x'=.pointer (some ⟨q.r,0,none⟩):=by rw[hxv,y2]
     simp only[cond_true] at h
     have hsz:s.size=s.data.toList.length:=by rw[Array.length_toList];rfl
     split at h
     ·rename_i c hc
      cases hc2:Nat.blt c.toNat 128 with
      |false=>rw[hc2] at h;cases h
      |true=>
       rw[hc2] at h
       simp only[cond_true,Option.some.injEq,Prod.mk.injEq] at h
       obtain ⟨rfl,rfl⟩:=h
       have hc2:c.toNat<128:=Nat.le_of_ble_eq_true hc2
       have hd:=lH (s:=s) (p:=p) (b:=c) (by rw[←Array.getElem?_toList];exact hc) hc2
       have hp:p<s.size:=by rw[hsz];exact (List.getElem?_eq_some_iff.1 hc).1
       refine ei.val (v:=.tuple #[.bool true,.int .i64 p,.int .i32 c.toNat]) (w':={ w with heap:=w.heap.setIfInBounds q.r (.stringIter s (p+1)) }) ?_ ⟨I,φ,.refl _,.refl _,fun _ _ _=>Z,Nat.le_refl _,⟨[_,_,_],Z,_,_,Z,Z,_,_,Z,Z,_,_,Z,Z,Z⟩,qi hrest ⟨q,hq,y2,Z⟩ (hS.turn Z Z Z ?_ ?_) hR.top⟩
       ·simp[execOp,Instr.next,hxv,eJ hb,jP hb,Result.andThen,hp,goInt,hd]
       ·simp[cJ hb]
       ·intro j hj;simp[Array.getElem?_setIfInBounds,Ne.symm hj]
     ·rename_i hc
      simp only[Option.some.injEq,Prod.mk.injEq] at h
      obtain ⟨rfl,rfl⟩:=h
      have hp:¬p<s.size:=by rw[hsz];exact fun hlt=>by rw[qq hlt] at hc;cases hc
      refine ei.val (v:=.tuple #[.bool false]) (w':=w) ?_ (hR.stay ⟨[_],Z,_,_,Z,Z,Z⟩)
      simp[execOp,Instr.next,hxv,eJ hb,Result.andThen,hp]
   ·cases h
  ·cases h
 ·rename_i t m' y' z'
  unfold Fa at h
  split at h
  ·rename_i i b key v hi hx hy hz
   obtain ⟨q,hq,hxv⟩:=aS hg hx
   have hyv:=aS hg hy
   have hzv:=aS hg hz
   split at h
   ·rename_i kt et es hd hes
    have hu:=hd▸(hT t i hi).und
    split at h
    ·rename_i ik hik
     obtain ⟨A,L,hBb,hrest,hS⟩:=hR.pick hes
     obtain ⟨q',ms,y1,y2,rfl⟩:=hBb
     rw[hq] at y1;cases y1
     have hb2:=hS.own _ (.head _)
     simp only at hb2
     have fin:∀(es':List (EV × EV)) (ms':List MapEntry) (clock':Nat),cV φ es' ms'→nE ms'→clock'=ms'.length→(execOp (ev ρ) (Oper.mk dst (.mapUpdate t m' y' z') ty pos af gu)).run P w=.ok .skip { w with heap:=w.heap.setIfInBounds q.r (.map ms'.toArray clock') }→ei P (Oper.mk dst (.mapUpdate t m' y' z') ty pos af gu) ρ w (d6 φ I F E k nx .u (H.set b (some (.mp es'))) nx):=fun es' ms' clock' hr hbn hcl hrun=>by
      subst hcl
      have hh:=MapKept.heap_set (o':=.map ms'.toArray ms'.length) hb2
      exact ei.skp hrun ⟨I,φ,.refl _,.refl _,fun _ _ _=>rfl,Nat.le_refl _,trivial,qi hrest ⟨q,ms',hq,⟨hr,hbn⟩,rfl⟩ (hS.turn rfl rfl rfl hh.1 hh.2) hR.top⟩
     split at h
     ·rename_i j v0 hf
      obtain ⟨hc,hkeep,⟨e,_⟩|⟨j',y,e,g1,g2,g3,g4,g5⟩⟩:=iC hT hik hyv y2.1 hf
      ·cases e
      ·cases g1
       cases h
       have hc:=hc w false
       have hf:=g2 w
       have hkeep:=hkeep w
       refine fin _ (ms.set j { e with key:=ev ρ y',val:=ev ρ z' }) ms.length (y2.1.set j hyv hzv) (y2.2.set g4 Z) (by simp) ?_
       rw[←sW (f:=fun e=>{ e with key:=ev ρ y',val:=ev ρ z' }) g4]
       simp[execOp,hxv,Instr.mapUpdate,run_underlying hu,MapKept.run_getObj_map hb2,hc,hf,MapKept.run_setObj_map _ hb2,Result.andThen,g4,g5,hkeep]
     ·rename_i hf
      obtain ⟨hc,hkeep,⟨_,g2⟩|⟨j,y,e,g1,_⟩⟩:=iC hT hik hyv y2.1 hf
      ·cases h
       have hc:=hc w false
       have hf:=g2 w
       refine fin _ (ms++[{ key:=ev ρ y',val:=ev ρ z',born:=ms.length }]) (ms.length+1) (y2.1.push hyv hzv) (y2.2.push Z) (by simp) ?_
       simp[execOp,hxv,Instr.mapUpdate,run_underlying hu,MapKept.run_getObj_map hb2,hc,hf,MapKept.run_setObj_map _ hb2,Result.andThen]
      ·cases g1
     ·cases h
    ·cases h
   ·cases h
  ·cases h
 ·rename_i t m' y'
  unfold Fb at h
  split at h
  ·rename_i i b key hi hx hy
   obtain ⟨q,hq,hxv⟩:=aS hg hx
   have hyv:=aS hg hy
   split at h
   ·rename_i kt et es hd hes
    have hu:=hd▸(hT t i hi).und
    split at h
    ·rename_i ik ie hik hie
     obtain ⟨A,L,hBb,hrest,hS⟩:=hR.pick hes
     obtain ⟨q',ms,y1,y2,rfl⟩:=hBb
     rw[hq] at y1;cases y1
     have hb2:=hS.own _ (.head _)
     simp only at hb2
     have fin:∀(es':List (EV × EV)) (ms':List MapEntry) (clock':Nat) (x:EV) (v:Value),cV φ es' ms'→nE ms'→clock'=ms'.length→aY φ x v→(execOp (ev ρ) (Oper.mk dst (.mapEntry t m' y') ty pos af gu)).run P w=.ok (.value v) { w with heap:=w.heap.setIfInBounds q.r (.map ms'.toArray clock') }→ei P (Oper.mk dst (.mapEntry t m' y') ty pos af gu) ρ w (d6 φ I F E k nx x (H.set b (some (.mp es'))) nx):=fun es' ms' clock' x v hr hbn hcl hxr hrun=>by
      subst hcl
      have hh:=MapKept.heap_set (o':=.map ms'.toArray ms'.length) hb2
      exact ei.val hrun ⟨I,φ,.refl _,.refl _,fun _ _ _=>rfl,Nat.le_refl _,hxr,qi hrest ⟨q,ms',hq,⟨hr,hbn⟩,rfl⟩ (hS.turn rfl rfl rfl hh.1 hh.2) hR.top⟩
     split at h
     ·rename_i j v0 hf
      obtain ⟨hc,hkeep,⟨e,_⟩|⟨j',y,e,g1,g2,g3,g4,g5⟩⟩:=iC hT hik hyv y2.1 hf
      ·cases e
      ·cases g1
       cases h
       have hc:=hc w false
       have hf:=g2 w
       have hkeep:=hkeep w
       have hbj:=y2.2 j e g4
       refine fin _ (ms.set j { e with key:=ev ρ y' }) ms.length _ (.tuple #[e.val,.int .i64 j]) (y2.1.set j hyv g3) (y2.2.set g4 Z) (by simp) ⟨[e.val,.int .i64 j],Z,_,_,Z,g3,_,_,Z,Z,Z⟩ ?_
       rw[←sW (f:=fun e=>{ e with key:=ev ρ y' }) g4]
       simp[execOp,hxv,Instr.mapEntry,run_underlying hu,MapKept.run_getObj_map hb2,hc,hf,MapKept.run_setObj_map _ hb2,Result.andThen,g4,g5,hkeep,goInt,hbj]
     ·rename_i hf
      obtain ⟨hc,hkeep,⟨_,g2⟩|⟨j,y,e,g1,_⟩⟩:=iC hT hik hyv y2.1 hf
      ·obtain ⟨zv,hz,hzr⟩:=(hT et ie hie).zeroV
       cases h
       have hc:=hc w false
       have hf:=g2 w
       have hz:=hz w
       refine fin _ (ms++[{ key:=ev ρ y',val:=zv,born:=ms.length }]) (ms.length+1) _ (.tuple #[zv,.int .i64 ms.length]) (y2.1.push hyv (hzr φ)) (y2.2.push Z) (by simp) ⟨[zv,.int .i64 ms.length],Z,_,_,Z,hzr φ,_,_,Z,by rw[y2.1.len];rfl,rfl⟩ ?_
       simp[execOp,hxv,Instr.mapEntry,run_underlying hu,MapKept.run_getObj_map hb2,hc,hf,hz,MapKept.run_setObj_map _ hb2,Result.andThen,goInt]
      ·cases g1
     ·cases h
    ·cases h
   ·cases h
  ·cases h
 ·rename_i t m' s' z'
  unfold Fc at h
  split at h
  ·rename_i b n v hx hy hz
   obtain ⟨q,hq,hxv⟩:=aS hg hx
   have hyv:ev ρ s'=.int .i64 n:=aS hg hy
   have hzv:=aS hg hz
   split at h
   ·rename_i es j hes hj
    split at h
    ·rename_i e0 he0
     cases h
     obtain ⟨A,L,hBb,hrest,hS⟩:=hR.pick hes
     obtain ⟨q',ms,y1,y2,rfl⟩:=hBb
     rw[hq] at y1;cases y1
     have hb2:=hS.own _ (.head _)
     simp only at hb2
     obtain ⟨e,g4,h1,h2⟩:=y2.1.at j he0
     have hn:n=(j:Int):=gq hj
     subst hn
     have hfi:=y2.2.find (List.getElem?_eq_some_iff.1 g4).1
     have hrun:(execOp (ev ρ) (Oper.mk dst (.entryStore t m' s' z') ty pos af gu)).run P w=.ok .skip { w with heap:=w.heap.setIfInBounds q.r (.map (ms.set j { e with val:=ev ρ z' }).toArray ms.length) }:=by
      rw[←sW (f:=fun e=>{ e with val:=ev ρ z' }) g4]
      simp only[execOp,hxv,hyv,Instr.entryStore]
      simp[MapKept.run_getObj_map hb2,MapKept.run_setObj_map _ hb2,Result.andThen,asInt,asIntOf,hfi]
     have fin:∀(ms':List MapEntry) (clock':Nat),cV φ (es.set j (e0.1,v)) ms'→nE ms'→clock'=ms'.length→(execOp (ev ρ) (Oper.mk dst (.entryStore t m' s' z') ty pos af gu)).run P w=.ok .skip { w with heap:=w.heap.setIfInBounds q.r (.map ms'.toArray clock') }→ei P (Oper.mk dst (.entryStore t m' s' z') ty pos af gu) ρ w (d6 φ I F E k nx .u (H.set b (some (.mp (es.set j (e0.1,v))))) nx):=fun ms' clock' hr hbn hcl hrun=>by
      subst hcl
      have hh:=MapKept.heap_set (o':=.map ms'.toArray ms'.length) hb2
      exact ei.skp hrun ⟨I,φ,.refl _,.refl _,fun _ _ _=>rfl,Nat.le_refl _,trivial,qi hrest ⟨q,ms',hq,⟨hr,hbn⟩,rfl⟩ (hS.turn rfl rfl rfl hh.1 hh.2) hR.top⟩
     exact fin (ms.set j { e with val:=ev ρ z' }) ms.length (y2.1.set (e:={ e with val:=ev ρ z' }) j h1 hzv) (y2.2.set g4 rfl) (by simp) hrun
    ·cases h
   ·cases h
  ·cases h
 ·split at h
  ·rename_i ar ts _ _ x' y' t u h1 h2
   have h1:=Dc h1
   have h2:=Dc h2
   subst h1 h2
   split at h
   ·rename_i a c hx hy
    cases htu:Nat.beq t u with
    |false=>
     rw[htu] at h
     obtain ⟨v,w',h3,h4⟩:=Fd (ty:=ty) hT hR hk hkx h (aS hg hx) (aS hg hy)
     exact ei.val (by simp[execOp,resolve,invoke,builtin,h3]) h4
    |true=>
     rw[htu] at h
     have htu:=Nat.eq_of_beq_eq_true htu
     subst htu
     obtain ⟨v,w',h3,h4⟩:=E9 (ty:=ty) hT hR hk hkx h (aS hg hx) (aS hg hy)
     exact ei.val (by simp[execOp,resolve,invoke,builtin,h3]) h4
   ·cases h
  ·cases h
 ·split at h
  ·rename_i ar ts _ _ x' y' t u h1 h2
   have h1:=Dc h1
   have h2:=Dc h2
   subst h1 h2
   split at h
   ·rename_i a c hx hy
    obtain ⟨v,w',h3,h4⟩:=Di (k:=k) (u:=u) (ty:=ty) hT hR h (aS hg hx) (aS hg hy)
    exact ei.val (by simp[execOp,resolve,invoke,builtin,h3]) h4
   ·cases h
  ·cases h
 ·cases h
theorem Fe (hT:cW P T) (hg:eF φ g ρ) (hR:dg I φ H nx F E w) (hk:φ k=none) (hkx:k<nx) {o:Oper} {x:EV} {H':Hp} (h:K2 T g H k o.op=some (x,H')):ei P o ρ w (d6 φ I F E k nx x H' nx):=Hg hT hg hR hk hkx (JB T g H k o.op▸h)
end
end
section
open Go.Proofs
noncomputable def gt (G:Tr EV) (t:Nat):EV:=(G.get t).getD .u
noncomputable def setO (G:Tr EV) (d:Option Nat) (x:EV):Tr EV:=
 match d with
 |some d=>G.set d (some x)
 |none=>G
abbrev cb:=Nat→List EV→Hp→Nat→Option (EV × Hp × Nat)
def db (P:Program) (E:World) (call:cb):Prop:=
 ∀f ar H nx x H' nx',call f ar H nx=some (x,H',nx')→∀φ I F w vs,dg I φ H nx F E w→RelVs φ ar vs→Fn P f vs.toArray w (d6 φ I F E nx nx x H' nx')
noncomputable def Ff (T:TT) (call:cb) (g:Nat→EV) (H:Hp) (nx:Nat) (op:Op):Option (EV × Hp × Nat):=
 match op with
 |.call ⟨.value fo,ar,_⟩=>match cg g fo,p7 (cg g) ar.toList with
  |some (.fn f a c),some m=>call f (a++m++c) H nx
  |_,_=>none
 |.call ⟨.invoke ro nm,ar,_⟩=>match cg g ro,p7 (cg g) ar.toList with
  |some (.ifc t v),some m=>match (T t).bind fun i=>i.ms nm with
   |some f=>call f (v::m) H nx
   |none=>none
  |_,_=>none
 |_=>none
noncomputable def Hh (T:TT) (call:cb) (g:Nat→EV) (H:Hp) (k nx:Nat) (op:Op):Option (EV × Hp × Nat):=
 match KJ T g op with
 |some x=>some (x,H,nx)
 |none=>match KP T g H op with
  |some x=>some (x,H,nx)
  |none=>match J1 T g k op with
   |some (x,o)=>some (x,H.set k (some o),nx)
   |none=>match K2 T g H k op with
    |some (x,H')=>some (x,H',nx)
    |none=>Ff T call g H nx op
section
variable {P:Program} {φ:cN} {g:Nat→EV} {ρ:bU} {w:World} {T:TT} {I:aP} {H H':Hp} {k nx nx':Nat} {F:List (Nat × Obj)} {E:World} {call:cb}
theorem d6.weak {x:EV} {v:Value} (h:d6 φ I F E nx nx x H' nx' v w):d6 φ I F E k nx x H' nx' v w:=
 let ⟨J,ψ,a,b,c,d,e,f⟩:=h;⟨J,ψ,a,b,fun j hj _=>c j hj (Nat.ne_of_lt hj),d,e,f⟩
theorem eF.setO {G:Tr EV} (hg:eF φ (gt G) ρ) {x:EV} {v:Value} (hx:aY φ x v) (d:Option Nat):eF φ (gt (setO G d x)) (updO ρ d v):=by
 cases d with
 |none=>exact hg
 |some d=>
  intro t
  show aY φ (((G.set d (some x)).get t).getD .u) (upd ρ d v t)
  rw[Tr.get_set]
  by_cases e:t=d
  ·rw[if_pos e];subst e;rw[fT];exact hx
  ·rw[if_neg e,dG _ _ e];exact hg t
theorem yI (hT:cW P T) (hC:db P E call) (hg:eF φ g ρ) (hR:dg I φ H nx F E w) {o:Oper} {x:EV} (h:Ff T call g H nx o.op=some (x,H',nx')):ei P o ρ w (d6 φ I F E k nx x H' nx'):=by
 obtain ⟨dst,op,ty,pos,af,gu⟩:=o
 dsimp only at h
 unfold Ff at h
 split at h
 ·rename_i fo ar ts
  split at h
  ·rename_i f a c m hf hm
   obtain ⟨vs,us,he,h1,h2⟩:=aS hg hf
   have hm:=oh hg hm
   have hc:=hC _ _ _ _ _ _ _ h φ I F w _ hR ((h1.append hm).append h2)
   obtain ⟨⟨fn,cd,h3,hb,hn⟩,hcalls⟩:=hc
   unfold ei
   have hrun:(execOp (ev ρ) (Oper.mk dst (.call { callee:=.value fo,args:=ar,argTypes:=ts }) ty pos af gu)).run P w=.ok (.enter f (vs++ar.toList.map (ev ρ)++us).toArray) w:=by
    simp[execOp,resolve,he,Deferred.ofValue,invoke,callFunc,h3,hb,hn]
   rw[hrun]
   exact hcalls.mono fun e w' ⟨v,g1,g2⟩=>⟨v,g1,g2.weak⟩
  ·cases h
 ·rename_i ro nm ar ts
  split at h
  ·rename_i t v m hf hm
   split at h
   ·rename_i f hms
    obtain ⟨i,hi,hms⟩:=Option.bind_eq_some_iff.1 hms
    obtain ⟨u,he,h1⟩:=aS hg hf
    have hm:=oh hg hm
    have hc:=hC _ _ _ _ _ _ _ h φ I F w _ hR (show RelVs φ (v::m) (u::ar.toList.map (ev ρ)) from ⟨_,_,rfl,h1,hm⟩)
    obtain ⟨⟨fn,cd,h3,hb,hn⟩,hcalls⟩:=hc
    have hmt:=(hT t i hi).mt nm f hms
    unfold ei
    have hrun:(execOp (ev ρ) (Oper.mk dst (.call { callee:=.invoke ro nm,args:=ar,argTypes:=ts }) ty pos af gu)).run P w=.ok (.enter f (u::ar.toList.map (ev ρ)).toArray) w:=by
     have e1:(method (P.types.size+Made.depth) t u nm).run P w=.ok (f,u) w:=hmt (P.types.size+99) u w
     have e2:((#[ev ρ ro]++ar.map (ev ρ):Array Value).extract 1 (#[ev ρ ro]++ar.map (ev ρ):Array Value).size)=ar.map (ev ρ):=by
      apply Array.ext'
      simp only[Array.toList_extract,List.extract,Array.toList_append,Array.size_append,List.size_toArray,Array.size_map]
      simp
      exact List.take_of_length_le (by simp)
     have e3:(#[ev ρ ro]++ar.map (ev ρ):Array Value)[0]?=some (.iface t u):=by simp[he,Array.getElem?_append]
     have hpr:(program:Sem Program).run P w=.ok P w:=rfl
     have e4:(invoke (.fn (.method nm) #[]) (#[ev ρ ro]++ar.map (ev ρ))).run P w=.ok (.enter f (u::ar.toList.map (ev ρ)).toArray) w:=by
      unfold invoke
      simp only[e3,e2,callMethod,Sem.run_bind,hpr,Result.andThen_ok,e1,callFunc,h3,hb]
      simp[hn]
     have e5:(resolve (ev ρ) { callee:=.invoke ro nm,args:=ar,argTypes:=ts } ty).run P w=.ok { target:=.fn (.method nm) #[],args:=#[ev ρ ro]++ar.map (ev ρ) } w:=rfl
     show (do let d ←resolve (ev ρ) { callee:=.invoke ro nm,args:=ar,argTypes:=ts } ty;invoke d.target d.args:Sem Next).run P w=_
     rw[Sem.run_bind,e5]
     exact e4
    rw[hrun]
    exact hcalls.mono fun e w' ⟨v,g1,g2⟩=>⟨v,g1,g2.weak⟩
   ·cases h
  ·cases h
 ·cases h
theorem yJ (hT:cW P T) (hC:db P E call) (hg:eF φ g ρ) (hR:dg I φ H nx F E w) (hk:φ k=none) (hkx:k<nx) {o:Oper} {x:EV} (h:Hh T call g H k nx o.op=some (x,H',nx')):ei P o ρ w (d6 φ I F E k nx x H' nx'):=by
 unfold Hh at h
 split at h
 ·rename_i y hy
  cases h
  obtain ⟨v,h1,h2⟩:=E4 (P:=P) (w:=w) hT hg hy
  exact ei.val h1 (hR.stay h2)
 ·split at h
  ·rename_i y hy
   cases h
   obtain ⟨v,h1,h2⟩:=E7 hT hg hR hy
   exact ei.val h1 (hR.stay h2)
  ·split at h
   ·rename_i y vo hy
    cases h
    obtain ⟨L,hr,hS⟩:=hR.freshN hk
    obtain ⟨v,w',q,A,h1,h2,h3,h4⟩:=E8 (P:=P) hT hg hy hk hS
    exact ei.val h1 ⟨I,φ.put k q,.refl _,qk hk q,fun j _ hj=>lB φ q hj,Nat.le_refl _,h2,qi (hr.mono (.refl _) (qk hk q)) h3 h4 (mc hR.top hkx q)⟩
   ·split at h
    ·rename_i y H1 hy
     cases h
     exact Fe hT hg hR hk hkx hy
    ·exact yI hT hC hg hR h
end
noncomputable def uX (ops:List Oper) (g:Nat→EV) (o:Oper):Option Bool:=
 match o.guard with
 |none=>some true
 |some (j,b)=>match (ops[j]?).bind (·.dst) with
  |some s=>match g s with
   |.b b'=>some (b' == b)
   |.tu _=>some false
   |_=>none
  |none=>none
noncomputable def uY (T:TT) (call:cb) (ops:List Oper):List Oper→Tr EV→Hp→Nat→Option (Tr EV × Hp × Nat)
 |[],G,H,nx=>some (G,H,nx)
 |o::rest,G,H,nx=>match uX ops (gt G) o with
  |none=>none
  |some t=>bif t then
    match Hh T call (gt G) H nx (nx+1) o.op with
    |some (x,H',nx')=>uY T call ops rest (setO G o.dst x) H' nx'
    |none=>none
   else uY T call ops rest (setO G o.dst (.tu [])) H nx
def gx (φ:cN) (I:aP) (F:List (Nat × Obj)) (E:World) (nx:Nat) (G:Tr EV) (H:Hp) (nx':Nat) (ρ:bU) (w:World):Prop:=
 ∃J ψ,I.le J∧φ.le ψ∧(∀j,j<nx→ψ j=φ j)∧nx≤nx'∧eF ψ (gt G) ρ∧dg J ψ H nx' F E w
section
variable {P:Program} {φ ψ:cN} {g:Nat→EV} {ρ:bU} {w:World} {T:TT} {I J:aP} {H H':Hp} {k nx nx' n:Nat} {F:List (Nat × Obj)} {E:World} {call:cb} {G G':Tr EV}
theorem gx.up (hI:I.le J) (h:φ.le ψ) (hs:∀j,j<nx→ψ j=φ j) {n1:Nat} (hn:nx≤n1):gx ψ J F E n1 G H nx' ρ w→gx φ I F E nx G H nx' ρ w:=
 fun ⟨K,χ,a,b,c,d,e,f⟩=>⟨K,χ,hI.trans a,h.trans b,fun j hj=>(c j (by omega)).trans (hs j hj),by omega,e,f⟩
theorem yK {ops:List Oper} {o:Oper} {t:Bool} (hg:eF φ g ρ) (h:uX ops g o=some t):b8 ops.toArray o ρ=t:=by
 unfold uX at h
 unfold b8
 cases hgu:o.guard with
 |none=>rw[hgu] at h;cases h;rfl
 |some jb=>
  obtain ⟨j,b⟩:=jb
  rw[hgu] at h
  simp only[List.getElem?_toArray] at h ⊢
  cases hd:(ops[j]?).bind (fun o:Oper=>o.dst) with
  |none=>rw[hd] at h;cases h
  |some s=>
   rw[hd] at h
   simp only at h ⊢
   have hs:=hg s
   split at h
   ·rename_i b' hb
    cases h
    rw[hb] at hs
    have hs:ρ s=.bool b':=hs
    rw[hs]
   ·rename_i hb
    cases h
    rw[hb] at hs
    obtain ⟨vs,hs,_⟩:=hs
    rw[hs]
   ·cases h
theorem pP (hT:cW P T) (hC:db P E call) {ops:List Oper}:∀(rest:List Oper) (G:Tr EV) (H:Hp) (nx:Nat) (G':Tr EV) (H':Hp) (nx':Nat),uY T call ops rest G H nx=some (G',H',nx') →
  ∀(φ:cN) (I:aP) (ρ:bU) (w:World),eF φ (gt G) ρ→dg I φ H nx F E w→bL P ops.toArray (gx φ I F E nx G' H' nx') rest ρ w
 |[],G,H,nx,G',H',nx',h,φ,I,ρ,w,hg,hR=>by
  cases h
  exact ⟨I,φ,.refl _,.refl _,fun _ _=>rfl,Nat.le_refl _,hg,hR⟩
 |o::rest,G,H,nx,G',H',nx',h,φ,I,ρ,w,hg,hR=>by
  unfold uY at h
  split at h
  ·cases h
  ·rename_i t ht
   have hw:=yK hg ht
   unfold bL
   rw[hw]
   cases t with
   |false=>
    simp only[cond_false] at h
    rw[if_neg (by decide)]
    exact pP hT hC rest _ _ _ _ _ _ h φ I _ w (hg.setO (x:=.tu []) (v:=undef) ⟨[],rfl,rfl⟩ o.dst) hR
   |true=>
    simp only[cond_true] at h
    rw[if_pos rfl]
    split at h
    ·rename_i x H1 nx1 hx
     refine (yJ hT hC hg (hR.mono (Nat.le_succ nx)) (hR.top nx (Nat.le_refl _)) (Nat.lt_succ_self nx) hx).mono fun v w' ⟨J,ψ,a,b,c,d,e,f⟩=>?_
     have:=pP hT hC rest _ _ _ _ _ _ h ψ J (updO ρ o.dst v) w' ((hg.mono b).setO e o.dst) f
     exact q5 (fun _ _=>gx.up a b (fun j hj=>c j (by omega) (by omega)) (by omega)) _ _ _ this
    ·cases h
end
end
section
open Go.Proofs
def K3:Operand→Option Nat
 |.tmp t=>some t
 |_=>none
def vd (l:List Oper) (o:Oper):List Nat:=
 (match o.guard with
  |some (j,_)=>(match (l[j]?).bind (·.dst) with
   |some s=>[s]
   |none=>[])
  |none=>[])++o.op.operands.toList.filterMap K3
def nF (t:Nat):List Nat→Bool
 |[]=>false
 |x::l=>Nat.beq t x||nF t l
theorem gy {t:Nat}:∀{l:List Nat},nF t l=true↔t∈l
 |[]=>by simp[nF]
 |x::l=>by
  have ih:=@gy t l
  unfold nF
  rw[Bool.or_eq_true,ih,List.mem_cons]
  constructor
  ·rintro (h|h)
   ·exact .inl (Nat.eq_of_beq_eq_true h)
   ·exact .inr h
  ·rintro (h|h)
   ·exact .inl (by rw[h];exact Nat.beq_refl x)
   ·exact .inr h
noncomputable def Dj (lk:List Nat) (G:Tr EV):Nat→EV:=fun t=>bif nF t lk then gt G t else .u
inductive Rc where
 |pv (x:EV)
 |lv (x:EV)
 |av (x:EV) (o:VO)
 |cv (x:EV)
def Rc.x:Rc→EV
 |.pv x | .lv x | .av x _ | .cv x=>x
def bT (nx0:Nat) (p:Nat→Bool):List Rc→Nat→List (Nat × VO)
 |[],_=>[]
 |.av _ o::rs,a=>bif p a then (nx0+a,o)::bT nx0 p rs (a+1) else bT nx0 p rs (a+1)
 |_::rs,a=>bT nx0 p rs (a+1)
noncomputable def sX:List (Nat × VO)→Hp→Option Hp
 |[],H=>some H
 |(k,o)::r,H=>match H.get k with
  |none=>sX r (H.set k (some o))
  |some _=>none
def Fg (am:List Nat) (o:Oper):Nat:=o.after.toList.foldl (fun m e=>bif Region.binds .any e then m ||| (2 ^ e.on ||| (am[e.on]?).getD 0) else m) 0
def iV:List Oper→List Nat→List Nat
 |[],am=>am
 |o::r,am=>iV r (am++[Fg am o])
abbrev wF:=Hp × Nat × Nat
def qA (fl m:Nat) (a:Nat):Bool:=m.testBit a&&!fl.testBit a
noncomputable def pass (T:TT) (call:cb) (l:List Oper) (am:List Nat) (nx0:Nat):List Oper→Nat→List Rc→Tr EV→List wF→Hp→Nat→Nat→Option Nat→Option (List Rc × Tr EV × List wF)
 |[],_,rs,G,S,_,_,_,_=>some (rs,G,S)
 |o::rest,i,rs,G,S,H,nx,fl,last=>
  let g:=Dj (vd l o) G
  match uX l g o with
  |none=>none
  |some t=>bif t then
    match KJ T g o.op with
    |some x=>pass T call l am nx0 rest (i+1) (rs++[.pv x]) (setO G o.dst x) S H nx fl last
    |none=>match J1 T g (nx0+i) o.op with
     |some (x,vo)=>pass T call l am nx0 rest (i+1) (rs++[.av x vo]) (setO G o.dst x) S H nx fl last
     |none=>
      match sX (bT nx0 (qA fl ((am[i]?).getD 0)) rs 0) H with
      |none=>none
      |some H1=>match KP T g H1 o.op with
       |some x=>pass T call l am nx0 rest (i+1) (rs++[.lv x]) (setO G o.dst x) S H nx fl last
       |none=>match (match K2 T g H1 (nx0+i) o.op with
         |some (x,H')=>some (x,H',nx)
         |none=>Ff T call g H1 nx o.op) with
        |none=>none
        |some (x,H',nx')=>bif last.elim true (fun c=>((am[i]?).getD 0).testBit c) then
          pass T call l am nx0 rest (i+1) (rs++[.cv x]) (setO G o.dst x) (S++[(H',nx',fl ||| (am[i]?).getD 0)]) H' nx' (fl ||| (am[i]?).getD 0) (some i)
         else none
   else pass T call l am nx0 rest (i+1) (rs++[.pv (.tu [])]) (setO G o.dst (.tu [])) S H nx fl last
def fj:Rc→Bool
 |.cv _=>true
 |_=>false
def ee (R:List Rc) (i:Nat):Nat:=((R.take i).filter fj).length
def wG (R:List Rc) (am:List Nat) (i j:Nat):Bool:=
 (List.range R.length).all fun c=>match R[c]? with
  |some (.cv _)=>(!((am[i]?).getD 0).testBit c||Nat.blt (ee R c) j)&&(!((am[c]?).getD 0).testBit i||Nat.ble j (ee R c))
  |_=>true
noncomputable def gz (T:TT) (l:List Oper) (am:List Nat) (nx0:Nat) (R:List Rc) (G:Tr EV) (S:List wF):Bool:=
 (List.range R.length).all fun i=>match R[i]?,l[i]? with
  |some (.lv x),some o=>(List.range S.length).all fun j=>!wG R am i j||(match S[j]? with
   |some (H,_,fl)=>(match sX (bT nx0 (qA fl ((am[i]?).getD 0)) (R.take i) 0) H with
    |some H1=>(match KP T (Dj (vd l o) G) H1 o.op with
     |some y=>eqE 40 x y
     |none=>false)
    |none=>false)
   |none=>false)
  |_,_=>true
where
 eqE:Nat→EV→EV→Bool
  |0,_,_=>false
  |n+1,x,y=>match x,y with
   |.u,.u=>true
   |.b a,.b c=>a == c
   |.i k a,.i k' c=>decide (k=k')&&decide (a=c)
   |.s a,.s c=>qT a c
   |.np,.np=>true
   |.p a b,.p c d=>Nat.beq a c&&Nat.beq b d
   |.ns,.ns=>true
   |.sl a b c d e,.sl a' b' c' d' e'=>Nat.beq a a'&&Nat.beq b b'&&Nat.beq c c'&&Nat.beq d d'&&(match e,e' with
    |.ex m,.ex m'=>Nat.beq m m'
    |.en,.en=>true
    |.un,.un=>true
    |_,_=>false)
   |.ag l,.ag m=>eqL n l m
   |.tu l,.tu m=>eqL n l m
   |.fn f a c,.fn f' a' c'=>Nat.beq f f'&&eqL n a a'&&eqL n c c'
   |.nf,.nf=>true
   |.ifc t v,.ifc t' v'=>Nat.beq t t'&&eqE n v v'
   |.ni,.ni=>true
   |.m a,.m b=>Nat.beq a b
   |.nm,.nm=>true
   |.vr a,.vr b=>Nat.beq a b
   |.us a b x,.us c d y=>Nat.beq a c&&Nat.beq b d&&Nat.beq x y
   |_,_=>false
 eqL:Nat→List EV→List EV→Bool
  |0,_,_=>false
  |_+1,[],[]=>true
  |n+1,x::l,y::m=>eqE n x y&&eqL n l m
  |_,_,_=>false
def sY (l:List Oper) (am:List Nat):Bool:=
 (List.range l.length).all fun i=>match l[i]? with
  |some o=>o.after.toList.all (fun e=>!Region.binds .any e||Nat.blt e.on i) &&
    (List.range l.length).all fun j=>match (l[j]?).bind (·.dst) with
     |some d=>(!nF d (vd l o)||((am[i]?).getD 0).testBit j)&&(Nat.beq i j||!(match o.dst with
      |some d'=>Nat.beq d d'
      |none=>false))
     |none=>true
  |none=>true
noncomputable def sZ (T:TT) (call:cb) (l:List Oper) (G:Tr EV) (H:Hp) (nx:Nat):Option (Tr EV × Hp × Nat):=
 let am:=iV l []
 bif sY l am then
  match pass T call l am nx l 0 [] G [(H,nx+l.length,0)] H (nx+l.length) 0 none with
  |some (R,GF,S)=>bif gz T l am nx R GF S then
    match S.getLast? with
    |some (Hm,nm,fl)=>match sX (bT nx (fun a=>!fl.testBit a) R 0) Hm with
     |some H'=>some (GF,H',nm)
     |none=>none
    |none=>none
   else none
  |none=>none
 else none
end
end Go.Proofs.YtjpnhkmfhlnpcaaGreatDoor
