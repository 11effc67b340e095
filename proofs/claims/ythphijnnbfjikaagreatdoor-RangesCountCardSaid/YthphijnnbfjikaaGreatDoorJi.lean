/- A block of numbers that is looked at by its place: slices of it, copies within it. No conditions but bounds. -/
import Derived.Test.YthphijnnbfjikaaGreatDoorJh
import Derived.Test.YthphijnnbfjikaaGreatDoorJc
import Derived.Test.YthphijnnbfjikaaGreatDoorJe
import Derived.Test.YthphijnnbfjikaaGreatDoorJf
import Derived.Test.YthphijnnbfjikaaGreatDoorJd
import Derived.Laws.CopyRow
set_option linter.unusedVariables false
set_option linter.unusedSimpArgs false
set_option linter.unusedSectionVars false
namespace Go.Proofs.YthphijnnbfjikaaGreatDoor
section
open Go.Proofs.Tryz
open Go.Proofs
noncomputable def wR:List (Nat × List EV)→Nat→Option (List EV)
 |[],_=>none
 |q::l,k=>bif Nat.beq q.1 k then some q.2 else wR l k
theorem pV:∀{hs:List (Nat × List EV)} {k:Nat} {cs:List EV},wR hs k=some cs→(k,cs)∈hs
 |[],_,_,h=>by cases h
 |q::l,k,cs,h=>by
  unfold wR at h
  cases e:Nat.beq q.1 k with
  |true=>
   rw[e] at h
   have h:q.2=cs:=by simpa using h
   rw[←h,←Nat.eq_of_beq_eq_true e];exact .head _
  |false=>rw[e] at h;exact .tail _ (pV h)
noncomputable def EY (c:List AV→List EV→List AV) (k:Nat):List (List AV)→List EV→List (List AV)
 |[],_=>[]
 |r::rs,cs=>c r (cs.take k)::EY c k rs (cs.drop k)
noncomputable def conv (hs:List (Nat × List EV)) (nv:Nat) (val:Nat→Int):Nat→List AV→List EV→List AV
 |0,_,xs=>xs.map fun _=>.any
 |_+1,_,[]=>[]
 |n+1,[],_::xs=>.any::conv hs nv val n [] xs
 |n+1,a::al,x::xs=>(match a,x with
  |.agg bs,.ag l=>.agg (conv hs nv val n bs l)
  |.tup bs,.tu l=>.tup (conv hs nv val n bs l)
  |.fro k _,.ns=>.fro k []
  |.fro k rows,.sl kb off len sz _=>match wR hs kb with
   |some cs=>bif Nat.beq sz k&&(Nat.beq len rows.length&&Nat.ble (off+len*k) cs.length) then .fro k (EY (conv hs nv val n) k rows (cs.drop off)) else .any
   |none=>.any
  |_,.b y=>.bool y
  |_,.i kd m=>.int kd m
  |_,.s y=>.str y
  |_,.vr k=>bif Nat.blt k nv then .int .i64 (val k) else .any
  |_,_=>.any)::conv hs nv val n al xs
theorem wS (c:List AV→List EV→List AV) (k:Nat):∀(rows:List (List AV)) (cs:List EV),(EY c k rows cs).length=rows.length
 |[],_=>rfl
 |r::rs,cs=>by unfold EY;rw[List.length_cons,wS c k rs,List.length_cons]
theorem wT (c:List AV→List EV→List AV) (k:Nat):∀(rows:List (List AV)) (cs:List EV) (j:Nat) (r:List AV),(EY c k rows cs)[j]?=some r→∃r0,rows[j]?=some r0∧r=c r0 ((cs.drop (j*k)).take k)
 |[],_,_,_,h=>by simp[EY] at h
 |r0::rs,cs,0,r,h=>by
  unfold EY at h
  simp at h
  exact ⟨r0,rfl,by rw[Nat.zero_mul,List.drop_zero];exact h.symm⟩
 |r0::rs,cs,j+1,r,h=>by
  unfold EY at h
  rw[List.getElem?_cons_succ] at h
  obtain ⟨r1,h1,h2⟩:=wT c k rs (cs.drop k) j r h
  refine ⟨r1,by simpa using h1,?_⟩
  rw[h2,List.drop_drop,Nat.add_mul,Nat.one_mul,Nat.add_comm k]
section
variable {I:G} {ψ:b7} {hs:List (Nat × List EV)} {nv:Nat} {val:Nat→Int}
theorem tj:∀(xs:List EV) (vs:List Value),RelVs ψ xs vs→RepL I (xs.map fun _=>AV.any) vs
 |[],_,h=>h
 |x::xs,vs,⟨v,us,e,_,h⟩=>⟨v,us,e,trivial,tj xs us h⟩
theorem gX (hK:∀q∈hs,ft I.k ψ q.1 (.kn q.2) []) (hV:∀j,j<nv→∀q,ψ j=some q→q.num=val j):∀(n:Nat) (al:List AV) (xs:List EV) (vs:List Value),RelVs ψ xs vs→RepL I (conv hs nv val n al xs) vs
 |0,_,xs,vs,h=>tj xs vs h
 |_+1,_,[],vs,h=>by unfold conv;exact h
 |n+1,[],x::xs,vs,⟨v,us,e,_,h⟩=>by unfold conv;exact ⟨v,us,e,trivial,gX hK hV n [] xs us h⟩
 |n+1,a::al,x::xs,vs,⟨v,us,e,h1,h⟩=>by
  unfold conv
  refine ⟨v,us,e,?_,gX hK hV n al xs us h⟩
  split
  ·obtain ⟨ws,e1,h2⟩:=h1;exact ⟨ws,e1,gX hK hV n _ _ ws h2⟩
  ·obtain ⟨ws,e1,h2⟩:=h1;exact ⟨ws,e1,gX hK hV n _ _ ws h2⟩
  ·exact ⟨none,0,0,h1,rfl,Nat.le_refl _,fun _=>rfl,trivial⟩
  ·rename_i k rows kb off len sz c
   split
   ·rename_i cs hb
    cases hc:(Nat.beq sz k&&(Nat.beq len rows.length&&Nat.ble (off+len*k) cs.length)) with
    |false=>exact trivial
    |true=>
     simp only[qu] at hc
     obtain ⟨c1,c2,c3⟩:=hc
     have c1:=Nat.eq_of_beq_eq_true c1
     have c2:=Nat.eq_of_beq_eq_true c2
     have c3:=Nat.le_of_ble_eq_true c3
     subst c1
     obtain ⟨q,o,cap,hq,hv,hcap,ho,_⟩:=h1
     obtain ⟨q',ws,hq',hrel,_,hat,_⟩:=hK _ (pV hb)
     have hq':ψ kb=some q':=hq'
     rw[hq] at hq'
     obtain rfl:=Option.some.inj hq'
     have hrel:RelVs ψ cs ws:=hrel
     have hwl:=hrel.length
     refine ⟨_,_,_,hv,by rw[wS];exact c2,hcap,(fun e=>by cases e),RepR.intro fun j r hj=>?_⟩
     obtain ⟨r0,hr0,hr⟩:=wT (conv hs nv val n) sz rows (cs.drop off) j r hj
     have hjl:=(List.getElem?_eq_some_iff.1 hr0).1
     have hne:cap≠0:=by omega
     have hmul:(j+1)*sz≤len*sz:=Nat.mul_le_mul_right _ (by omega)
     rw[Nat.add_mul,Nat.one_mul] at hmul
     refine ⟨q.r,q.sh+off,((ws.drop off).drop (j*sz)).take sz,by rw[ho hne],?_,?_,fun i u hu=>?_⟩
     ·rw[List.length_take,List.length_drop,List.length_drop];omega
     ·rw[hr];exact gX hK hV n _ _ _ (((hrel.drop off).drop (j*sz)).take sz)
     ·rw[List.getElem?_take] at hu
      split at hu
      ·rw[List.getElem?_drop,List.getElem?_drop] at hu
       have:=hat (off+(j*sz+i)) u hu
       rwa [show q.sh+off+(0+j)*sz+i=q.sh+(off+(j*sz+i)) by rw[Nat.zero_add];omega]
      ·cases hu
   ·exact trivial
  ·exact h1
  ·exact h1
  ·exact h1
  ·rename_i k
   cases hk:Nat.blt k nv with
   |false=>exact trivial
   |true=>
    obtain ⟨q,hq,e⟩:=h1
    rw[hV k (Nat.le_of_ble_eq_true hk) q hq] at e
    exact e
  ·exact trivial
end
section
variable {P:Program} {E:World}
theorem Hq {call:bY} (hC:cY P E call) {m:dh} (hn:vf (m.hin.map (·.1))=true)
  (h:(match call m.f m.ar (GD m.hin) m.base with|some (x,H',_)=>some (x,m.hout.map fun q=>(H'.get q.1).bind VO.cs?)|none=>none)=some (m.x,m.hout.map fun q=>some q.2)):bZ P E m:=fun φ I F w vs hin hr hS ht=>by
 split at h
 ·rename_i x H' nx' hc
  simp only[Option.some.injEq,Prod.mk.injEq] at h
  obtain ⟨rfl,h2⟩:=h
  have h2:∀q∈m.hout,(H'.get q.1).bind VO.cs?=some q.2:=fun q hq=>by
   obtain ⟨i,hi⟩:=List.getElem?_of_mem hq
   have:=congrArg (fun l:List (Option (List EV))=>l[i]?) h2
   simp only[qr,hi,Option.map_some,Option.some.injEq] at this
   exact this
  have hnd:=m7 hn
  have hR:cT I φ (GD m.hin) m.base F E w:=by
   refine ⟨ht,m.hin.map fun q=>(q.1,.kn q.2),[],?_,fun j o=>?_,?_,hS⟩
   ·rw[List.map_map];exact hnd
   ·rw[show GD m.hin=mH m.hin .lf from rfl,rI m.hin .lf j o hnd fun _ _=>Tr.get_lf _,Tr.get_lf,List.mem_map]
    constructor
    ·rintro ⟨q,hq,e⟩
     cases e
     exact .inl ⟨q.2,hq,rfl⟩
    ·rintro (⟨cs,h1,rfl⟩|h)
     ·exact ⟨(j,cs),h1,rfl⟩
     ·cases h
   ·generalize m.hin=l at hin
    clear hn hnd hc h2 hr
    induction l with
    |nil=>rfl
    |cons q l ih=>exact ⟨[],[],rfl,hin q (.head _),ih fun r hr=>hin r (.tail _ hr)⟩
  refine (hC _ _ _ _ _ _ _ hc φ I F w vs hR hr).mono fun v w' ⟨J,ψ,a,b,c,d,e,f⟩=>?_
  obtain ⟨K,k1,k2,k3⟩:=cT.frzL m.hout f fun q hq=>h2 q hq
  exact ⟨K,ψ,a.trans k1,fun j hj=>c j hj (Nat.ne_of_lt hj),e,k2,k3.sl⟩
 ·cases h
theorem zM {f:Nat} {ar:List EV} {hin:List (Nat × List EV)} {base nv:Nat} {al:(Nat→Int)→List AV} {t:Bool} (hA:∀val,aF P E f (al val) (.bool t)) (hc:∀val,conv hin nv val 60 (al val) ar=al val):bZ P E ⟨f,ar,hin,.b t,[],base⟩:=fun φ I F w vs hi hr hS _=>by
 obtain ⟨val,hval⟩:∃val:Nat→Int,val=fun j=>((φ j).map lu.num).getD 0:=⟨_,rfl⟩
 have h1:=gX (I:=⟨I,fun _=>none⟩) (nv:=nv) (val:=val) hi (fun j _ q hq=>by rw[hval];dsimp only;rw[hq];rfl) 60 (al val) ar vs hr
 rw[hc val] at h1
 refine (hA val ⟨I,fun _=>none⟩ F w vs h1 ⟨⟨0,fun _ _=>Z⟩,[],Z,hS⟩).mono fun v w' ⟨J,x,O',a,b,c,d⟩=>?_
 subst d
 obtain ⟨_,L,_,hS'⟩:=c
 exact ⟨J.k,φ,a.k,fun _ _=>rfl,b,(fun _ h=>nomatch h),hS'.dropAll⟩
def Kn (hs:List (Nat × List EV)) (nv:Nat) (val:Nat→Int) (ψ:b7) (B:Nat) (I:aC):Prop:=(∀q∈hs,ft I ψ q.1 (.kn q.2) [])∧(∀j,B≤j→ψ j=none)∧∀j,j<nv→ψ j=some (lu.ofI (val j))
theorem Kn.mono {hs:List (Nat × List EV)} {nv:Nat} {val:Nat→Int} {ψ:b7} {B:Nat} {I J:aC} (h:Kn hs nv val ψ B I) (hI:I.le J):Kn hs nv val ψ B J:=⟨fun q hq=>ft.mono hI (.refl _) (h.1 q hq),h.2⟩
def Hr (hs:List (Nat × List EV)) (nv:Nat) (val:Nat→Int) (B:Nat) (g:b7 × Value × List Value):AV:=.agg (.ext (fun J v=>v=g.2.1∧Kn hs nv val g.1 B J)::g.2.2.map AV.raw)
def Hs (nv:Nat) (val:Nat→Int):b7:=fun j=>if j<nv then some (lu.ofI (val j)) else none
theorem Ht {I:G}:∀(us:List Value),RepL I (us.map AV.raw) us
 |[]=>rfl
 |u::us=>⟨u,us,rfl,rfl,Ht us⟩
theorem wU {I:G}:∀{us ws:List Value},RepL I (us.map AV.raw) ws→ws=us
 |[],_,h=>h
 |u::us,_,⟨v,r,e,h1,h2⟩=>by
  have h1:v=u:=h1
  rw[e,h1,wU h2]
theorem Cm {call:bY} (hC:cY P E call) {f:Nat} {ar:List EV} {al:List AV} {x:EV} {xs:List EV} {hs:List (Nat × List EV)} {nv:Nat} {val:Nat→Int} {B:Nat} (hx:∀φ vs,RelVs φ (x::xs) vs→∀v us,vs=v::us→v.oneCell'=true)
  (har:∀I vs,RepL I al vs→RelVs (Hs nv val) ar vs)
  (h:(match call f ar .lf nv with|some (y,H',n)=>some (y,hs.map (fun q=>(H'.get q.1).bind VO.cs?),Nat.ble n B)|none=>none)=some (.ag (x::xs),hs.map (fun q=>some q.2),true)) :
  aU P E f al [] fun y O=>∃g:b7 × Value × List Value,y=Hr hs nv val B g∧O=[]∧RelVs g.1 (x::xs) (g.2.1::g.2.2):=fun I F w vs h1 h2=>by
 split at h
 ·rename_i y H' n hc
  simp only[Option.some.injEq,Prod.mk.injEq] at h
  obtain ⟨rfl,h3,hB⟩:=h
  have hB:=Nat.le_of_ble_eq_true hB
  have h3:∀q∈hs,(H'.get q.1).bind VO.cs?=some q.2:=fun q hq=>by
   obtain ⟨i,hi⟩:=List.getElem?_of_mem hq
   have:=congrArg (fun l:List (Option (List EV))=>l[i]?) h3
   simp only[qr,hi,Option.map_some,Option.some.injEq] at this
   exact this
  obtain ⟨ht,L,hL,hS⟩:=h2
  have hL:L=[]:=hL
  subst hL
  have hR:cT I.k (Hs nv val) .lf nv F E w:=⟨fun j hj=>if_neg (by omega),[],[],List.nodup_nil,fun j o=>by simp[Tr.get_lf],rfl,hS⟩
  refine (hC _ _ _ _ _ _ _ hc _ I.k F w vs hR (har I vs h1)).mono fun v w' ⟨J,ψ,a,b,c,d,e,f'⟩=>?_
  obtain ⟨K,k1,k2,k3⟩:=cT.frzL hs f' fun q hq=>h3 q hq
  obtain ⟨ws,rfl,hw⟩:=e
  obtain ⟨v0,us,e2,_,_⟩:=id hw
  subst e2
  have hKn:Kn hs nv val ψ B K:=⟨k2,fun j hj=>k3.top j (by omega),fun j hj=>b j _ (if_pos hj)⟩
  refine ⟨⟨K,I.h⟩,Hr hs nv val B (ψ,v0,us),[],⟨a.trans k1,fun _ _ h=>h⟩,⟨v0::us,Z,v0,us,Z,⟨hx ψ _ hw v0 us Z,fun J hJ=>⟨Z,hKn.mono hJ⟩⟩,Ht us⟩,⟨ht,[],Z,k3.sl⟩,(ψ,v0,us),Z,Z,hw⟩
 ·cases h
theorem D7 {m:dh} (hM:bZ P E m) {x:EV} {xs:List EV} (har:m.ar=[.ag (x::xs)]) {g:b7 × Value × List Value} (hg:RelVs g.1 (x::xs) (g.2.1::g.2.2)) {r:AV} {nv:Nat} {val:Nat→Int} (hnv:nv≤m.base) (hc:conv m.hout nv val 60 [r] [m.x]=[r]) :
  aF P E m.f [Hr m.hin nv val m.base g] r:=fun I F w vs h1 h2=>by
 obtain ⟨v,us,rfl,⟨ws,rfl,v0,us0,rfl,⟨_,h3⟩,h4⟩,h5⟩:=h1
 have h5:us=[]:=h5
 subst h5
 obtain ⟨rfl,hKn⟩:=h3 I.k (.refl _)
 have:=wU h4
 subst this
 obtain ⟨ht,L,hL,hS⟩:=h2
 have hL:L=[]:=hL
 subst hL
 refine (hM g.1 I.k F w _ hKn.1 (by rw[har];exact ⟨_,[],rfl,⟨_,rfl,hg⟩,rfl⟩) hS hKn.2.1).mono fun v w' ⟨J,ψ,a,b,c,d,e⟩=>?_
 have:=gX (I:=⟨J,I.h⟩) (nv:=nv) (val:=val) d (fun j hj q hq=>by rw[b j (by omega),hKn.2.2 j hj] at hq;rw[←Option.some.inj hq,lu.num_ofI]) 60 [r] [m.x] [v] ⟨v,[],rfl,c,rfl⟩
 rw[hc] at this
 obtain ⟨v',us',e1,h6,_⟩:=this
 obtain ⟨rfl,_⟩:=List.cons.inj e1
 exact ⟨⟨J,I.h⟩,r,[],⟨a,fun _ _ h=>h⟩,h6,⟨ht,[],rfl,e⟩,rfl⟩
end
end
section
open Go.Proofs.Tryz
open Go.Proofs
variable {E:World}
set_option maxRecDepth 20000
def ow {α:Type} (l:List α):Prop:=l.length≤140737488355328
def wV (p:dY):Prop:=ow p.args∧ow p.from_
def Hu (b:aW):Prop:=ow b.phis∧ow b.insts∧(∀p∈b.phis,wV p)∧(∀x∈b.insts,ow x.args)
def Cn (f:ac):Prop:=ow f.vars∧ow f.params∧ow f.blocks∧∀b∈f.blocks,Hu b
theorem ow.lt {α:Type} {l:List α} (h:ow l):l.length≤140737488355328:=h
theorem jb {x y:Bool} (h:x=y):AV.bool x=AV.bool y:=congrArg AV.bool h
theorem FZ (k:Nat):∀I v,br I (.raw (.slice none 0 0)) v→br I (.fro k []) v:=fun _ _ h=>⟨none,0,0,h,rfl,Nat.le_refl _,fun _=>rfl,trivial⟩
theorem F0 (a b c d:Int) (w:World) (m:Nat):(Op.equalIn (m+2) 46 (.agg [.int .i64 a,.int .i64 b].toArray) (.agg [.int .i64 c,.int .i64 d].toArray)).run prog w=.ok (decide (a=c∧b=d)) w:=by
 rw[Op.equalIn]
 simp only[Sem.run_bind,run_underlying Zb,Result.andThen_ok]
 simp only[Std.Legacy.Range.forIn_eq_forIn_range',Std.Legacy.Range.size,Nat.sub_zero,Nat.add_sub_cancel,Nat.div_one,List.range'_succ,List.range'_zero,List.forIn_cons,List.forIn_nil]
 simp[part,jq,jm,run_equalIn_int,Y0]
 by_cases h1:a=c<;>by_cases h2:b=d<;>simp[h1,h2]
theorem me (xs ys:List Int) (hl:ow xs):aF prog E 28 [.fro 1 (xs.map eE),.fro 1 (ys.map eE)] (.bool (decide (xs=ys))):=by
 have hl:=hl.lt
 refine zk func28 Z (by decide) Z<|ae<|ad Z<|z6<|ze<|ae<|bh Z<|au jh Z<|bh Z<|au jh Z<|z7 (yw Z Z)<|z6<|zz Z (fun c0=>?_) (fun c0=>?_)
 ·have h:¬xs=ys:=fun e=>by subst e;simp at c0
  refine ae<|ad Z<|z6<|zh<|zm (x:=.bool _) Z ?_
  rw[decide_eq_false h]
 ·have hl2:xs.length=ys.length:=by simp at c0;omega
  refine zi<|ze<|ae<|bh Z<|au jh Z<|aa Z<|z6<|zj<|ya (γ:=Nat) [0,1,12] (fun k=>[(13,.int .i64 k)]) (fun k=>[]) (fun k=>k≤xs.length∧xs.take k=ys.take k) (fun k=>xs.length - k) 0 aT aJ (⟨qm _,Z⟩) ?_
  rintro k ⟨hk,he⟩
  refine ae<|ax Z Z<|z6<|ze<|zp Z (fun ck=>?_) (fun ck=>?_)
  ·have hk2:k<xs.length:=by omega
   have hk3:k<ys.length:=by omega
   refine zi<|ze<|zj<|ae<|aa Z<|aq Z<|z6<|ze<|zw (fun j=>false) (by kernel_rfl) Z (zn (.rest _))<|ao 0 Z (C7 Z)<|ao 1 Z (fC Z)<|ao 2 Z (Gv.idxM jh jm Z Z Z (qj (by omega)))<|ao 3 Z (gy jq Z)<|ao 4 Z (C7 Z)<|ao 5 Z (fC Z)<|ao 6 Z (Gv.idxM jh jm Z Z Z (qj (by omega)))<|ao 7 Z (gy jq Z)<|ao 8 Z (yw Z Z)<|bO<|zz Z (fun cd=>?_) (fun cd=>?_)
   ·refine ae<|ad Z<|z6<|zh<|zm (x:=.bool _) Z ?_
    rw[decide_eq_false (GH hk2 hk3 (by simpa using cd))]
   ·refine zi<|bD<|aQ Z Z<|aa Z<|z6 ?_
    exact ⟨k+1,bX,aT,aJ,⟨hk2,xX hk2 hk3 he (by simpa using cd)⟩,by omega⟩
  ·refine y8<|ae<|ad Z<|z6<|zh<|zm (x:=.bool _) Z ?_
   rw[decide_eq_true (xY hl2 (by omega) he)]
end
section
open Go.Proofs.Tryz
open Go.Proofs
variable {E:World}
set_option maxRecDepth 20000
theorem mI {p:Int→Bool} {fn:FuncId} {c:List AV} (xs:List Int) (hl:xs.length≤281474976710656) (hp:∀x∈xs,aF prog E fn ([.int .i64 x]++c) (.bool (p x))) :
  aF prog E 103 [.fro 1 (xs.map eE),.fn fn [] c] (.int .i64 (bF p xs 0)):=by
 refine zk func103 Z (by decide) Z<|ae<|aq Z<|z6<|ze<|ae<|bh Z<|au jh Z<|aa Z<|z6<|zj<|ya (γ:=Nat) [0,1,7] (fun k=>[(8,.int .i64 k)]) (fun k=>[]) (fun k=>k≤xs.length∧(xs.take k).all (fun x=>!p x)) (fun k=>xs.length - k) 0 aT aJ (⟨qm _,Z⟩) ?_
 rintro k ⟨hk,hall⟩
 refine ae<|ax Z Z<|z6<|ze<|zp Z (fun ck=>?_) (fun ck=>?_)
 ·have hk2:k<xs.length:=by omega
  refine zi<|ze<|zj<|ae<|aa Z<|aq Z<|z6<|ae<|z7 (yb (v:=.fn _ _ _) Z)<|bh Z<|aa Z<|z7 (Gv.idxM jh jm Z Z Z (qj (by omega)))<|aw jq Z<|ai.callVP Z (hp _ (qn hk2)) Z<|z6<|zz Z (fun cp=>?_) (fun cp=>?_)
  ·refine ae<|aa Z<|aq Z<|z6<|zh<|zm (x:=.int _ _) Z ?_
   rw[bv p xs k hk hall,List.drop_eq_getElem_cons hk2,bF,if_pos cp]
  ·refine zi<|bD<|aQ Z Z<|aa Z<|z6 ?_
   exact ⟨k+1,bX,aT,aJ,⟨hk2,by rw[qk hk2,List.all_append,hall];simp[cp]⟩,by omega⟩
 ·have hkn:k=xs.length:=by omega
  refine y8<|ae<|aq Z<|z6<|zh<|zm (x:=.int _ _) Z ?_
  rw[bv p xs k hk hall,hkn,List.drop_length,bF]
theorem kA {p:Int→Bool} {fn:FuncId} {c:List AV} (xs:List Int) (hl:xs.length≤281474976710656) (hp:∀x∈xs,aF prog E fn ([.int .i64 x]++c) (.bool (p x))) :
  aF prog E 77 [.fro 1 (xs.map eE),.fn fn [] c] (.bool (xs.any p)):=by
 refine zk func77 Z (by decide) Z<|ae<|ad Z<|z6<|ae<|bh Z<|z7 (yb (v:=.fn _ _ _) Z)<|zg (mI xs hl hp) Z<|z7 (qa Z Z)<|ad Z<|z6<|zh<|zm (x:=.bool _) Z ?_
 rw[ej]
def d6 (f:ac) (v:Int):Int:=((f.vars[v.toNat]?).map (·.ty)).getD 0
theorem Co {f:ac} {v:Int} (h:cA f v=true):∃x,f.vars[v.toNat]?=some x∧v=(v.toNat:Int)∧d6 f v=x.ty:=by
 unfold cA at h
 simp only[qu,qv] at h
 have hl:v.toNat<f.vars.length:=by omega
 refine ⟨f.vars[v.toNat],qj hl,by omega,?_⟩
 unfold d6;rw[qj hl];rfl
theorem er (f:ac) (v:Int) (hv:cA f v=true):aF prog E 87 [.agg (b9 f),.int .i64 v] (.int .i64 (d6 f v)):=by
 obtain ⟨x,hx,hv2,hk⟩:=Co hv
 rw[hk]
 refine zk func87 Z (by decide) Z<|ae<|zy (cs:=_) Z Z Z<|aq Z<|z6<|ae<|aj jt Z Y4 Z Z<|bd Yb Z<|aa Z<|z7 (db v.toNat Zd sizeOf40 Z Z hv2 hx)<|aj Y3 Z sizeOf38 Z Z<|aw isAgg38 Z<|aq Z<|z6<|zh<|zm (x:=.int _ _) Z ?_
 rfl
theorem Cq (op:Int):aF prog E 88 [.int .i64 op] (.bool (decide (op=1))):=by
 refine zk func88 Z (by decide) Z<|ae<|ad Z<|z6<|ae<|aa Z<|ak Z Z<|ad Z<|z6<|zh<|zm (x:=.bool _) Z ?_
 simp_all
theorem Cr:∀{l:List Int} (h:0<l.length),l.headD 0=l[0]
 |[],h=>absurd h (Nat.lt_irrefl 0)
 |_::_,_=>rfl
def mf (f:ac) (x:bg):Bool:=if x.op=1 then decide (d6 f x.dst=d6 f (x.args.headD 0)) else decide (x.args.map (d6 f)=bu x.op)&&(!eX x.op||decide (d6 f x.dst=qF x.op))
theorem pa {f:ac} {xs ts:List Int} {k:Nat} (h1:k<xs.length) (h2:k<ts.length) (h:(xs.take k).map (d6 f)=ts.take k) (hk:d6 f xs[k]=ts[k]):(xs.take (k+1)).map (d6 f)=ts.take (k+1):=by
 rw[qk h1,qk h2,List.map_append,h,List.map_cons,List.map_nil,hk]
theorem F1 {f:ac} {xs ts:List Int} {k:Nat} (h1:k<xs.length) (h2:k<ts.length) (hk:¬d6 f xs[k]=ts[k]):¬xs.map (d6 f)=ts:=by
 intro e
 apply hk
 subst e
 rw[List.getElem_map]
theorem vh (f:ac) (x:bg) (ha:x.args.all (cA f)=true) (hl:x.args.length=(bu x.op).length) (hd:eX x.op=true→cA f x.dst=true) :
  aF prog E 60 [.agg (b9 f),.agg (d8 x)] (.bool (mf f x)):=by
 have hlen:(bu x.op).length≤3:=by
  rcases kT x.op with h|h
  ·unfold bu;rw[h];decide
  ·have:∀r∈ip,r.2.1.data.toList.length≤3:=by decide
   have:=this _ h
   unfold bu;simpa using this
 refine zk func60 Z (by decide) Z<|ae<|zy (cs:=_) Z Z Z<|zy (cs:=_) Z Z Z<|ad Z<|z6<|ze<|ae<|aj jo Z Zi Z Z<|aw Zm Z<|zg (Cq _) Z<|z6<|zp Z (fun c1=>?_) (fun c1=>?_)
 ·have e1:x.op=1:=by simpa using c1
  have hlz:0<x.args.length:=by rw[hl,e1];decide
  have hv0:cA f x.args[0]=true:=List.all_eq_true.1 ha _ (qn hlz)
  have hvd:cA f x.dst=true:=hd (by rw[e1];decide)
  refine ze<|zw (fun j=>false) (by kernel_rfl) Z (zn (.rest _))<|ao 0 Z (yl jx js Z Z)<|ao 1 Z (eh jo Z jm Z Z)<|ao 2 Z (gy jq Z)<|ao 4 Z (yl jx js Z Z)<|ao 5 Z (eh jo Z jr Z Z)<|ao 6 Z (lA jv Z)<|ao 7 Z (db 0 jh jm Z Z Z (qj hlz))<|ao 8 Z (gy jq Z)<|aL 3 Z<|zg (er _ _ (by assumption)) Z<|z6<|aL 9 Z<|zg (er _ _ (by assumption)) Z<|z6<|ao 10 Z (Gv.eqlI Z Z)<|ao 11 Z (sA Z)<|bO<|zh<|zm (x:=.bool _) Z ?_
  exact jb (by unfold mf;rw[if_pos e1,Cr hlz])
 ·have e1:¬x.op=1:=by simpa using c1
  refine zi<|ze<|ae<|aj jo Z Zi Z Z<|aw Zm Z<|zg (ny _) Z<|au underlying149 Z<|aa Z<|z6<|zj<|ya (γ:=Nat) [2,3,25,26] (fun k=>[(27,.int .i64 k)]) (fun k=>[]) (fun k=>k≤(bu x.op).length∧(x.args.take k).map (d6 f)=(bu x.op).take k) (fun k=>(bu x.op).length - k) 0 aT aJ (⟨qm _,Z⟩) ?_
  rintro k ⟨hk,hall⟩
  refine ae<|ax Z Z<|z6<|ze<|zp Z (fun ck=>?_) (fun ck=>?_)
  ·have hk2:k<(bu x.op).length:=by simp at ck;omega
   have hk3:k<x.args.length:=by omega
   have hvk:cA f x.args[k]=true:=List.all_eq_true.1 ha _ (qn hk3)
   refine zi<|ze<|zj<|ae<|aa Z<|z7 (db k underlying149 sizeOf38 Z Z Z (qj hk2))<|aw isAgg38 Z<|aq Z<|aq Z<|z6<|ze<|zw (fun j=>false) (by kernel_rfl) Z (zn (.rest _))<|ao 0 Z (yl jx js Z Z)<|ao 1 Z (eh jo Z jr Z Z)<|ao 2 Z (lA jv Z)<|ao 3 Z (fC Z)<|ao 4 Z (db k jh jm Z Z Z (qj hk3))<|ao 5 Z (gy jq Z)<|ao 7 Z (fC Z)<|aL 6 Z<|zg (er _ _ (by assumption)) Z<|z6<|ao 8 Z (yw Z Z)<|bO<|zz Z (fun cn=>?_) (fun cn=>?_)
   ·refine ae<|ad Z<|z6<|zh<|zm (x:=.bool _) Z ?_
    exact jb (by unfold mf;rw[if_neg e1,decide_eq_false (F1 hk3 hk2 (by simpa using cn))];rfl)
   ·refine zi<|bD<|aQ Z Z<|aa Z<|z6 ?_
    exact ⟨k+1,mB,aT,aJ,⟨hk2,pa hk3 hk2 hall (by simpa using cn)⟩,by omega⟩
  ·have hkn:k=(bu x.op).length:=by simp at ck;omega
   subst hkn
   rw[qo,←hl,qo] at hall
   refine y8<|ae<|aj jo Z Zi Z Z<|aw Zm Z<|zg (nz _) Z<|z7 (vX Z)<|z7 (r8 Z Z)<|z7 (C9 Z Z)<|aq Z<|ad Z<|z6<|ae<|ay Z<|z7 (yo Z)<|ay Z<|zx (s:=50) Z (fun c1=>?_) (fun c1=>?_)
   ·refine z8 Z Z c1<|z8 Z Z c1<|z8 Z Z c1<|z8 Z Z c1<|z8 Z Z c1<|z8 Z Z c1<|aM Z c1 Z<|ad Z<|z6<|zh<|zm (x:=.bool _) Z ?_
    exact jb (by unfold mf;rw[if_neg e1,decide_eq_true hall];simp_all)
   ·refine za Z Z c1<|ab jx js Z Z<|za Z Z c1<|aj jo Z jm Z Z<|za Z Z c1<|aw jq Z<|za Z Z c1<|zg (er f x.dst (hd (by simp_all))) Z<|za Z Z c1<|aa Z<|za Z Z c1<|ak Z Z<|aD Z c1 Z<|ad Z<|z6<|zh<|zm (x:=.bool _) Z ?_
    exact jb (by unfold mf;rw[if_neg e1,decide_eq_true hall];simp_all)
def F2 (f:ac) (p:dY):Bool:=!(p.args.any fun v=>!decide (d6 f v=d6 f p.dst))
theorem vi (f:ac) (p:dY) (v:Int) (hv:cA f v=true) (hd:cA f p.dst=true):aF prog E 86 ([.int .i64 v]++[.pf (b9 f),.pf (eY p)]) (.bool (!decide (d6 f v=d6 f p.dst))):=by
 refine zk func86 Z (by decide) Z<|ae<|ad Z<|z6<|ze<|zw (fun j=>false) (by kernel_rfl) Z (zn (.rest _))<|ao 0 Z (yl jx js Z Z)<|ao 1 Z (fC Z)<|ao 3 Z (yl jx js Z Z)<|ao 4 Z (eh Za Z jm Z Z)<|ao 5 Z (gy jq Z)<|aL 2 Z<|zg (er _ _ (by assumption)) Z<|z6<|aL 6 Z<|zg (er _ _ (by assumption)) Z<|z6<|ao 7 Z (yw Z Z)<|ao 8 Z (sA Z)<|bO<|zh<|zm (x:=.bool _) Z ?_
 simp_all
theorem zN (f:ac) (p:dY) (hp:wV p) (ha:p.args.all (cA f)=true) (hd:cA f p.dst=true):aF prog E 59 [.agg (b9 f),.agg (eY p)] (.bool (F2 f p)):=by
 have hl1:=hp.1.lt
 refine zk func59 Z (by decide) Z<|ae<|zy (cs:=_) Z Z Z<|zy (cs:=_) Z Z Z<|ad Z<|z6<|ae<|aj Za Z jr Z Z<|bd jv Z<|z7 (Gv.func Z Z)<|zg (kA p.args (by omega) (fun v hv=>vi f p v (List.all_eq_true.1 ha v hv) hd)) Z<|z7 (yo Z)<|ad Z<|z6<|zh<|zm (x:=.bool _) Z ?_
 rfl
def ox (f:ac) (t:fB):Bool:=if t.kind=0 then !decide (t.to0=0) else if t.kind=1 then decide (d6 f t.var=1)&&!decide (t.to0=0)&&!decide (t.to1=0) else decide (d6 f t.var=0)
theorem vj (f:ac) (t:fB) (h:¬t.kind=0→cA f t.var=true):aF prog E 61 [.agg (b9 f),.agg (qG t)] (.bool (ox f t)):=by
 refine zk func61 Z (by decide) Z<|ae<|zy (cs:=_) Z Z Z<|zy (cs:=_) Z Z Z<|ad Z<|z6<|ze<|ae<|aj Z0 Z sizeOf45 Z Z<|aw isAgg45 Z<|z6<|zj<|ae<|ak Z Z<|ad Z<|z6<|zz Z (fun c2=>?_) (fun c2=>?_)
 ·refine ae<|aj Z0 Z Zs Z Z<|z7 (Gv.idxAF (j:=0) Zb jm Z Z Z (by decide) Z)<|aw jq Z<|z7 (yw Z Z)<|ad Z<|z6<|zh<|zm (x:=.bool _) Z ?_
  exact jb (by unfold ox;simp_all)
 ·refine ae<|ak Z Z<|ad Z<|z6<|zz Z (fun c3=>?_) (fun c3=>?_)
  ·refine ae<|ab jx js Z Z<|aj Z0 Z jm Z Z<|aw jq Z<|zg (er f t.var (h (by simp_all))) Z<|ak Z Z<|ay Z<|zx (s:=20) Z (fun c4=>?_) (fun c4=>?_)
   ·refine za Z Z c4<|aj Z0 Z Zs Z Z<|za Z Z c4<|z7 (Gv.idxAF (j:=0) Zb jm Z Z Z (by decide) Z)<|za Z Z c4<|aw jq Z<|za Z Z c4<|z7 (yw Z Z)<|aM Z c4 Z<|ay Z<|zx (s:=26) Z (fun c5=>?_) (fun c5=>?_)
    ·refine za Z Z c5<|aj Z0 Z Zs Z Z<|za Z Z c5<|z7 (Gv.idxAF (j:=1) Zb jm Z Z Z (by decide) Z)<|za Z Z c5<|aw jq Z<|za Z Z c5<|z7 (yw Z Z)<|aM Z c5 Z<|ad Z<|z6<|zh<|zm (x:=.bool _) Z ?_
     exact jb (by unfold ox;simp_all)
    ·refine z8 Z Z c5<|z8 Z Z c5<|z8 Z Z c5<|z8 Z Z c5<|aD Z c5 Z<|ad Z<|z6<|zh<|zm (x:=.bool _) Z ?_
     exact jb (by unfold ox;simp_all)
   ·refine z8 Z Z c4<|z8 Z Z c4<|z8 Z Z c4<|z8 Z Z c4<|aD Z c4 Z<|ay Z<|z8 Z Z Z<|z8 Z Z Z<|z8 Z Z Z<|z8 Z Z Z<|aD Z Z Z<|ad Z<|z6<|zh<|zm (x:=.bool _) Z ?_
    exact jb (by unfold ox;simp_all)
  ·refine zi<|ae<|ab jx js Z Z<|aj Z0 Z jm Z Z<|aw jq Z<|zg (er f t.var (h (by simp_all))) Z<|ak Z Z<|ad Z<|z6<|zh<|zm (x:=.bool _) Z ?_
   exact jb (by unfold ox;simp_all)
end
section
open Go.Proofs.Tryz
open Go.Proofs
theorem iI:eD prog 36 #[(0,1),(1,1)] [.int .i64 0,.int .i64 0]:=⟨_,_,ji,jk,fun w=>by kernel_rfl,rfl⟩
variable {E:World}
set_option maxRecDepth 20000
theorem eL (a b c d:Int) (w:World):(Op.equalIn 10000 36 (.agg [.int .i64 a,.int .i64 b].toArray) (.agg [.int .i64 c,.int .i64 d].toArray)).run prog w=.ok (decide (a=c∧b=d)) w:=by
 have hS:prog.underlying 36=some (.struct (prog.fieldsOf 36)):=by kernel_rfl
 have hp:prog.stoodInHeld 36=false:=by kernel_rfl
 rw[show (10000:Nat)=9999+1 from rfl,run_equalIn_agg w 9999 _ _ _ hS hp]
 simp only[Program.fieldsOf,ji]
 simp[Op.eqFields,part,ju,run_equalIn_int,underlying2]
 by_cases h1:a=c<;>by_cases h2:b=d<;>simp[h1,h2]
theorem fD:aF prog E 12 [] (.agg (bk bw)):=by
 refine zk func12 Z (by decide) Z<|ae<|zo (cs:=[.int .i64 0,.int .i64 0]) jk Z Z<|fun i0=>z6<|ae<|z7 (zt (cps:=[(0,[_]),(1,[_])]) (rs:=[_,_]) iI Z Z Z)<|zf jf Z Z Z Z Z Z .head Z<|z6<|zh<|yc Z ⟨_,.head⟩ jg jf Z ?_
 rfl
theorem EZ (n:Int):aF prog E 32 [.int .i64 n] (.agg (bk (mz n))):=by
 refine zk func32 Z (by decide) Z<|ae<|zo (cs:=[.int .i64 0,.int .i64 0]) jk Z Z<|fun i2=>z6<|ae<|aa Z<|aa Z<|z7 (zt (cps:=[(0,[_]),(1,[_])]) (rs:=[_,_]) iI Z Z Z)<|zf jf Z Z Z Z Z Z .head Z<|z6<|zh<|yc Z ⟨_,.head⟩ jg jf Z ?_
 rfl
theorem Cs:aF prog E 62 [] (.agg (bk iW)):=by
 refine zk func62 Z (by decide) Z<|ae<|zo (cs:=[.int .i64 0,.int .i64 0]) jk Z Z<|fun i0=>z6<|ae<|z7 (zt (cps:=[(0,[_]),(1,[_])]) (rs:=[_,_]) iI Z Z Z)<|zf jf Z Z Z Z Z Z .head Z<|z6<|zh<|yc Z ⟨_,.head⟩ jg jf Z ?_
 rfl
theorem wW (t:Int):aF prog E 31 [.int .i64 t] (.agg (bk (dE t))):=by
 refine zk func31 Z (by decide) Z<|ae<|zo (cs:=[.int .i64 0,.int .i64 0]) jk Z Z<|fun i2=>z6<|ze<|ae<|aa Z<|z6<|zj<|ae<|ak Z Z<|ad Z<|z6<|zz Z (fun c1=>?_) (fun c1=>?_)
 ·refine ae<|zg (Cs) Z<|zf jf Z Z Z Z Z Z .head Z<|z6<|zh<|yc Z ⟨_,.head⟩ jg jf Z ?_
  exact DR (by simp_all[dE,iW]) (by simp_all[dE,iW])
 ·refine ae<|ak Z Z<|ad Z<|z6<|zz Z (fun c2=>?_) (fun c2=>?_)
  ·refine ae<|z7 (zt (cps:=[(0,[_]),(1,[_])]) (rs:=[_,_]) iI Z Z Z)<|zf jf Z Z Z Z Z Z .head Z<|z6<|zh<|yc Z ⟨_,.head⟩ jg jf Z ?_
   exact DR (by simp_all[dE,iW]) (by simp_all[dE,iW])
  ·refine ae<|ak Z Z<|ad Z<|z6<|zz Z (fun c3=>?_) (fun c3=>?_)
   ·refine ae<|z7 (zt (cps:=[(0,[_]),(1,[_])]) (rs:=[_,_]) iI Z Z Z)<|zf jf Z Z Z Z Z Z .head Z<|z6<|zh<|yc Z ⟨_,.head⟩ jg jf Z ?_
    exact DR (by simp_all[dE,iW]) (by simp_all[dE,iW])
   ·refine zi<|ae<|zg (fD) Z<|zf jf Z Z Z Z Z Z .head Z<|z6<|zh<|yc Z ⟨_,.head⟩ jg jf Z ?_
    exact DR (by simp_all[dE,iW]) (by simp_all[dE,iW])
theorem pW (lo hi:Int):aF prog E 118 [.int .i64 lo,.int .i64 hi] (.agg (bk (cG lo hi))):=by
 refine zk func118 Z (by decide) Z<|ae<|zo (cs:=[.int .i64 0,.int .i64 0]) jk Z Z<|fun i4=>z6<|ze<|ae<|aa Z<|aa Z<|z7 (Gv.gtr Z Z)<|z6<|zp Z (fun c=>?_) (fun c=>?_)
 ·refine ae<|zg (fD) Z<|zf jf Z Z Z Z Z Z .head Z<|z6<|zh<|yc Z ⟨_,.head⟩ jg jf Z ?_
  rw[cG,if_pos c];try rfl
 ·refine zi<|ae<|aa Z<|aa Z<|z7 (zt (cps:=[(0,[_]),(1,[_])]) (rs:=[_,_]) iI Z Z Z)<|zf jf Z Z Z Z Z Z .head Z<|z6<|zh<|yc Z ⟨_,.head⟩ jg jf Z ?_
  rw[cG,if_neg c];try rfl
theorem lm (a b:aA):aF prog E 92 [.agg (bk a),.agg (bk b)] (.agg (bk (aR a b))):=by
 refine zk func92 Z (by decide) Z<|ae<|zy (cs:=_) Z Z Z<|zy (cs:=_) Z Z Z<|zo (cs:=[.int .i64 0,.int .i64 0]) jk Z Z<|fun i4=>z6<|ae<|aj ji Z jp Z Z<|aw ju Z<|aj ji Z jp Z Z<|aw ju Z<|z7 (Gv.maxI Z Z)<|aj ji Z jp Z Z<|aw ju Z<|aj ji Z jp Z Z<|aw ju Z<|z7 (Gv.minI Z Z)<|zg (pW _ _) Z<|zf jf Z Z Z Z Z Z .head Z<|z6<|zh<|yc Z ⟨_,.head⟩ jg jf Z ?_
 rfl
theorem di (r:aA):aF prog E 119 [.agg (bk r)] (.bool (decide (r.2<r.1))):=by
 refine zk func119 Z (by decide) Z<|ae<|zy (cs:=_) Z Z Z<|ad Z<|z6<|ae<|aj ji Z jp Z Z<|aw ju Z<|aj ji Z jp Z Z<|aw ju Z<|z7 (Gv.gtr Z Z)<|ad Z<|z6<|zh<|zm (x:=.bool _) Z ?_
 rfl
theorem wX (a b:aA):aF prog E 94 [.agg (bk a),.agg (bk b)] (.agg (bk (aI a b))):=by
 refine zk func94 Z (by decide) Z<|ae<|zy (cs:=_) Z Z Z<|zy (cs:=_) Z Z Z<|zo (cs:=[.int .i64 0,.int .i64 0]) jk Z Z<|fun i4=>z6<|ze<|zj<|ae<|ab jg jf Z Z<|zg (di _) Z<|ad Z<|z6<|zp Z (fun c1=>?_) (fun c1=>?_)
 ·refine ae<|aj ji Z jp Z Z<|aw ju Z<|aj ji Z jp Z Z<|aw ju Z<|zg (pW _ _) Z<|zf jf Z Z Z Z Z Z .head Z<|z6<|zh<|yc Z ⟨_,.head⟩ jg jf Z ?_
  rw[aI,if_pos c1];try rfl
 ·refine ae<|ab jg jf Z Z<|zg (di _) Z<|ad Z<|z6<|zp Z (fun c2=>?_) (fun c2=>?_)
  ·refine ae<|ab jg jf Z Z<|zf jf Z Z Z Z Z Z .head Z<|z6<|zh<|yc Z ⟨_,.head⟩ jg jf Z ?_
   rw[aI,if_neg c1,if_pos c2];try rfl
  ·refine zi<|ae<|aj ji Z jp Z Z<|aw ju Z<|aj ji Z jp Z Z<|aw ju Z<|z7 (Gv.minI Z Z)<|aj ji Z jp Z Z<|aw ju Z<|aj ji Z jp Z Z<|aw ju Z<|z7 (Gv.maxI Z Z)<|z7 (zt (cps:=[(0,[_]),(1,[_])]) (rs:=[_,_]) iI Z Z Z)<|zf jf Z Z Z Z Z Z .head Z<|z6<|zh<|yc Z ⟨_,.head⟩ jg jf Z ?_
   rw[aI,if_neg c1,if_neg c2];try rfl
theorem Ct (b:Bool):aF prog E 170 [.bool b] (.int .i64 (if b=true then dy else dz)):=by
 refine zk func170 Z (by decide) Z<|ae<|aq Z<|z6<|ze<|ae<|ay Z<|z6<|zz Z (fun c4=>?_) (fun c4=>?_)
 ·refine ae<|aq Z<|z6<|zh<|zm (x:=.int _ _) Z ?_
  simp_all[dy,dz]
 ·refine zi<|ae<|aq Z<|z6<|zh<|zm (x:=.int _ _) Z ?_
  simp_all[dy,dz]
theorem E0 (op:Int):aF prog E 159 [.int .i64 op] (.bool (decide (op=2)||(decide (op=3)||decide (op=4)))):=by
 refine zk func159 Z (by decide) Z<|ae<|ad Z<|z6<|ae<|aa Z<|ak Z Z<|ay Z<|zx (s:=5) Z (fun c5=>?_) (fun c5=>?_)
 ·refine z8 Z Z c5<|z8 Z Z c5<|aM Z c5 Z<|ay Z<|z8 Z Z Z<|z8 Z Z Z<|aM Z Z Z<|ad Z<|z6<|zh<|zm (x:=.bool _) Z ?_
  exact jb (by simp_all)
 ·refine za Z Z c5<|aa Z<|za Z Z c5<|ak Z Z<|aD Z c5 Z<|ay Z<|zx (s:=9) Z (fun c6=>?_) (fun c6=>?_)
  ·refine z8 Z Z c6<|z8 Z Z c6<|aM Z c6 Z<|ad Z<|z6<|zh<|zm (x:=.bool _) Z ?_
   exact jb (by simp_all)
  ·refine za Z Z c6<|aa Z<|za Z Z c6<|ak Z Z<|aD Z c6 Z<|ad Z<|z6<|zh<|zm (x:=.bool _) Z ?_
   exact jb (by simp_all)
theorem Id {x y:Int} (hx:aK x) (hy:aK y):aF prog E 168 [.int .i64 x,.int .i64 y] (.tup [.int .i64 (IntKind.i64.wrap (x+y)),.bool (decide (dU 0 x y))]):=by
 rw[←Ia hx hy]
 refine zk func168 Z (by decide) Z<|ae<|aq Z<|ad Z<|z6<|ae<|aa Z<|aa Z<|z7 (Gv.addW Z Z)<|aq Z<|z6<|ae<|aa Z<|aa Z<|ax Z Z<|aa Z<|ax Z Z<|z7 (Gv.neqB Zo Z Z)<|ay Z<|zx (s:=16) Z (fun c7=>?_) (fun c7=>?_)
 ·refine z8 Z Z c7<|z8 Z Z c7<|z8 Z Z c7<|z8 Z Z c7<|z8 Z Z c7<|aM Z c7 Z<|aq Z<|ad Z<|z6<|zh<|dB.t2 (x:=.int _ _) (y:=.bool _) Z Z ?_
  simp_all
 ·refine za Z Z c7<|aa Z<|za Z Z c7<|ax Z Z<|za Z Z c7<|aa Z<|za Z Z c7<|ax Z Z<|za Z Z c7<|z7 (Gv.eqlB Zo Z Z)<|aD Z c7 Z<|aq Z<|ad Z<|z6<|zh<|dB.t2 (x:=.int _ _) (y:=.bool _) Z Z ?_
  simp_all
theorem Ie {x y:Int} (hx:aK x) (hy:aK y):aF prog E 171 [.int .i64 x,.int .i64 y] (.tup [.int .i64 (IntKind.i64.wrap (x - y)),.bool (decide (dU 1 x y))]):=by
 rw[←Ib hx hy]
 refine zk func171 Z (by decide) Z<|ae<|aq Z<|ad Z<|z6<|ae<|aa Z<|aa Z<|z7 (Gv.subW Z Z)<|aq Z<|z6<|ae<|aa Z<|aa Z<|ax Z Z<|aa Z<|ax Z Z<|z7 (Gv.eqlB Zo Z Z)<|ay Z<|zx (s:=16) Z (fun c8=>?_) (fun c8=>?_)
 ·refine z8 Z Z c8<|z8 Z Z c8<|z8 Z Z c8<|z8 Z Z c8<|z8 Z Z c8<|aM Z c8 Z<|aq Z<|ad Z<|z6<|zh<|dB.t2 (x:=.int _ _) (y:=.bool _) Z Z ?_
  simp_all
 ·refine za Z Z c8<|aa Z<|za Z Z c8<|ax Z Z<|za Z Z c8<|aa Z<|za Z Z c8<|ax Z Z<|za Z Z c8<|z7 (Gv.eqlB Zo Z Z)<|aD Z c8 Z<|aq Z<|ad Z<|z6<|zh<|dB.t2 (x:=.int _ _) (y:=.bool _) Z Z ?_
  simp_all
theorem Hv {x:Int} (hx:aK x):aF prog E 175 [.int .i64 x] (.int .u64 (x.natAbs:Int)):=by
 rw[←BT hx]
 refine zk func175 Z (by decide) Z<|ae<|aq Z<|z6<|ze<|ae<|aa Z<|ax Z Z<|z6<|zp Z (fun c=>?_) (fun c=>?_)
 ·refine ae<|aa Z<|z7 (Gv.conv underlying2 Zy Z)<|z7 (Gv.neg Z)<|aq Z<|z6<|zh<|zm (x:=.int _ _) Z ?_
  rw[if_pos c];try rfl
 ·refine zi<|ae<|aa Z<|z7 (Gv.conv underlying2 Zy Z)<|aq Z<|z6<|zh<|zm (x:=.int _ _) Z ?_
  rw[if_neg c];try rfl
theorem Ig {x y:Int} (hy:y≠0):aF prog E 173 [.int .i64 x,.int .i64 y] (.tup [.int .i64 (IntKind.i64.wrap (x.tdiv y)),.bool true]):=by
 refine zk func173 Z (by decide) Z<|ae<|aq Z<|ad Z<|z6<|ze<|ae<|aa Z<|ak Z Z<|z6<|yn Z (by simpa using hy)<|zi<|ae<|aa Z<|aa Z<|z7 (Gv.quo Z Z (by omega))<|aq Z<|ad Z<|z6<|zh<|dB.t2 (x:=.int _ _) (y:=.bool _) Z Z ?_
 rfl
end
section
open Go.Proofs.Tryz
open Go.Proofs
variable {E:World}
set_option maxRecDepth 20000
end
section
open Go.Proofs.Tryz
open Go.Proofs
theorem bT:dt prog 24 3 1 1 [.int .i64 0]:=⟨_,jh,jm,Y1,by decide,by decide,by kernel_rfl⟩
theorem Cu:dt prog 24 3 2 1 [.int .i64 0,.int .i64 0]:=⟨_,jh,jm,Y1,by decide,by decide,by kernel_rfl⟩
variable {E:World}
set_option maxRecDepth 20000
theorem F3 {t:fB} (h:t.kind=0):co t=[t.to0]:=by unfold co;rw[if_pos h]
theorem F4 {t:fB} (h:t.kind=1) (e:t.to0=t.to1):co t=[t.to0]:=by unfold co;rw[if_neg (by omega),if_pos h,if_pos e]
theorem F5 {t:fB} (h:t.kind=1) (e:¬t.to0=t.to1):co t=[t.to0,t.to1]:=by unfold co;rw[if_neg (by omega),if_pos h,if_neg e]
theorem F6 {t:fB} (h0:¬t.kind=0) (h:¬t.kind=1):co t=[]:=by unfold co;rw[if_neg h0,if_neg h]
theorem pX (t:fB):aF prog E 70 [.agg (qG t)] (.fro 1 ((co t).map eE)):=by
 refine zk func70 Z (by decide) Z<|ae<|zy (cs:=_) Z Z Z<|z7 (mS Z)<|z6<|ze<|zj<|ze<|ae<|aj Z0 Z sizeOf45 Z Z<|aw isAgg45 Z<|ak Z Z<|ad Z<|z6<|zp Z (fun c0=>?_) (fun c0=>?_)
 ·refine zi<|yq Z (by simpa using c0)<|ae<|aj Z0 Z Zs Z Z<|z7 (Gv.idxAF (j:=0) Zb jm Z Z Z (by decide) Z)<|aw jq Z<|zr (rows:=[[_]]) bT Z Z Z Z Z<|z7 (um Z)<|z6<|zh<|zm (x:=.fro _ _) Z ?_
  rw[F3 c0];rfl
 ·refine bD<|aj Z0 Z sizeOf45 Z Z<|aw isAgg45 Z<|ak Z Z<|ay Z<|zx (s:=10) Z (fun c1=>?_) (fun c1=>?_)
  ·refine za Z Z c1<|aj Z0 Z Zs Z Z<|za Z Z c1<|z7 (Gv.idxAF (j:=0) Zb jm Z Z Z (by decide) Z)<|za Z Z c1<|aw jq Z<|za Z Z c1<|aj Z0 Z Zs Z Z<|za Z Z c1<|z7 (Gv.idxAF (j:=1) Zb jm Z Z Z (by decide) Z)<|za Z Z c1<|aw jq Z<|za Z Z c1<|ak Z Z<|aM Z c1 Z<|ad Z<|z6<|zz Z (fun c2=>?_) (fun c2=>?_)
   ·refine ae<|aj Z0 Z Zs Z Z<|z7 (Gv.idxAF (j:=0) Zb jm Z Z Z (by decide) Z)<|aw jq Z<|zr (rows:=[[_]]) bT Z Z Z Z Z<|z7 (um Z)<|z6<|zh<|zm (x:=.fro _ _) Z ?_
    rw[F4 (by simpa using c1) (by simpa using c2)];rfl
   ·refine ae<|aj Z0 Z sizeOf45 Z Z<|aw isAgg45 Z<|ak Z Z<|ad Z<|z6<|yq Z (by simpa using c1)<|ae<|aj Z0 Z Zs Z Z<|z7 (Gv.idxAF (j:=0) Zb jm Z Z Z (by decide) Z)<|aw jq Z<|aj Z0 Z Zs Z Z<|z7 (Gv.idxAF (j:=1) Zb jm Z Z Z (by decide) Z)<|aw jq Z<|zr (rows:=[[_],[_]]) Cu Z Z Z Z Z<|z7 (um Z)<|z6<|zh<|zm (x:=.fro _ _) Z ?_
    rw[F5 (by simpa using c1) (by simpa using c2)];rfl
  ·refine z8 Z Z c1<|z8 Z Z c1<|z8 Z Z c1<|z8 Z Z c1<|z8 Z Z c1<|z8 Z Z c1<|z8 Z Z c1<|aD Z c1 Z<|ad Z<|z6<|yn Z Z<|ae<|aj Z0 Z sizeOf45 Z Z<|aw isAgg45 Z<|ak Z Z<|ad Z<|z6<|yn Z (by simpa using c1)<|zi<|ae<|z7 (mS Z)<|z6<|zh ?_
   repeat (first|refine bc ?_|refine aO ?_)
   refine aN.fin (aN.slot (t:=2) Z (FZ 1))<|zm (x:=.fro _ _) Z ?_
   rw[F6 (by simpa using c0) (by simpa using c1)];rfl
def ln (rows:List (List Int)) (c x:Int):List (List Int):=rows.set c.toNat ((rows[c.toNat]?).getD []++[x])
def eM (rows:List (List Int)) (cs:List Int) (x:Int):List (List Int):=cs.foldl (fun r c=>ln r c x) rows
theorem oy (cs:List Int) (x:Int):∀rows,(eM rows cs x).length=rows.length:=by
 induction cs with
 |nil=>intro rows;rfl
 |cons c cs ih=>intro rows;show (eM (ln rows c x) cs x).length=_;rw[ih];unfold ln;simp
theorem tk (rows:List (List Int)) (cs:List Int) (c x:Int):eM rows (cs++[c]) x=ln (eM rows cs x) c x:=by unfold eM;rw[List.foldl_append];rfl
theorem zO {rows:List (List Int)} {c x:Int} (h0:0≤c) (b:Nat):(ln rows c x)[b]?=(rows[b]?).map (·++if c=(b:Int) then[x] else[]):=by
 unfold ln
 rw[List.getElem?_set]
 by_cases e:c.toNat=b
 ·have:c=(b:Int):=by omega
  rw[if_pos e,if_pos this,e]
  by_cases hb:b<rows.length
  ·rw[if_pos hb,qj hb];rfl
  ·rw[if_neg hb,List.getElem?_eq_none (by omega)];rfl
 ·have:¬c=(b:Int):=by omega
  rw[if_neg e,if_neg this];simp
theorem kB (x:Int) (b:Nat):∀(cs:List Int) (rows:List (List Int)),(∀c∈cs,0≤c)→(eM rows cs x)[b]?=(rows[b]?).map (·++(cs.filter fun c=>decide (c=(b:Int))).map fun _=>x)
 |[],rows,_=>by simp[eM]
 |c::cs,rows,h=>by
  show (eM (ln rows c x) cs x)[b]?=_
  rw[kB x b cs _ (fun c hc=>h c (List.mem_cons_of_mem _ hc)),zO (h c (List.mem_cons_self ..))]
  cases rows[b]? with
  |none=>rfl
  |some r=>
   by_cases e:c=(b:Int)
   ·simp[e]
   ·simp[e]
def bU (f:ac) (k:Nat):List (List Int):=(List.range f.blocks.length).map fun (b:Nat)=>bl (ah f) k (b:Int)
theorem fc (f:ac) (k:Nat):(bU f k).length=f.blocks.length:=by unfold bU;simp
theorem tm (f:ac):List.replicate f.blocks.length []=bU f 0:=by
 apply List.ext_getElem
 ·rw[fc];simp
 ·intro i h1 h2
  unfold bU bl ee
  simp
theorem mh (E:Int→List Int) (k:Nat) (b:Int):bl E (k+1) b=bl E k b++((E k).filter fun c=>decide (c=b)).map fun _=>(k:Int):=by
 unfold bl;rw[lV,List.flatMap_append];simp
theorem tn {f:ac} {k:Nat} (h0:∀c∈ah f k,0≤c):eM (bU f k) (ah f k) k=bU f (k+1):=by
 apply List.ext_getElem?
 intro b
 rw[kB _ _ _ _ h0]
 by_cases hb:b<f.blocks.length
 ·unfold bU
  rw[qr,qr,List.getElem?_range hb]
  simp only[Option.map_some]
  rw[mh]
 ·rw[List.getElem?_eq_none (by rw[fc];omega),List.getElem?_eq_none (by rw[fc];omega)];rfl
theorem Cv {rows:List (List Int)} {c x:Int} (h:c.toNat<rows.length):rows.set c.toNat (rows[c.toNat]++[x])=ln rows c x:=by
 unfold ln;rw[qj h];rfl
theorem gY (f:ac) (b:Int):∀k,(bl (ah f) k b).length≤2*k
 |0=>by simp[bl,ee]
 |k+1=>by
  have h1:=gY f b k
  have h2:=nB f k
  have h3:=List.length_filter_le (fun c=>decide (c=b)) (ah f k)
  rw[mh,qp,qq]
  omega
theorem D8 {f:ac} {k b:Nat} {cs:List Int} {x:Int} (h0:∀c∈cs,0≤c) (hb:b<(eM (bU f k) cs x).length):(eM (bU f k) cs x)[b].length≤2*k+cs.length:=by
 have hb2:b<f.blocks.length:=by rwa [oy,fc] at hb
 have h:=kB x b cs (bU f k) h0
 have hr:(bU f k)[b]?=some (bl (ah f) k (b:Int)):=by unfold bU;rw[qr,List.getElem?_range hb2];rfl
 rw[qj hb,hr] at h
 have h:(eM (bU f k) cs x)[b]=bl (ah f) k (b:Int)++(cs.filter fun c=>decide (c=(b:Int))).map fun _=>x:=by simpa using h
 have h2:=gY f b k
 have h3:=List.length_filter_le (fun c=>decide (c=(b:Int))) cs
 rw[h,qp,qq]
 omega
theorem oz (f:ac) (hE:ef f) (hn:f.blocks.length≤100000):aF prog E 42 [.agg (b9 f)] (mF eI (bU f f.blocks.length)):=by
 refine zk func42 Z (by decide) Z<|ae<|zy (cs:=_) Z Z Z<|z7 (mS Z)<|z6<|ae<|aj jt Z Zj Z Z<|bd Zn Z<|au jw Z<|zu (m:=f.blocks.length) jj Z4 Z Z Z Z Z (by simp) (by simp) (by show (24:Int)*_≤_;omega) (by omega) eI 3<|fun b11=>z7 (y7 (v:=dg _ _) Z)<|z6<|ze<|ae<|aj jt Z Zj Z Z<|bd Zn Z<|au jw Z<|aa Z<|z6<|zj<|ya (γ:=Nat) [3,13,14] (fun k=>[(15,.int .i64 k)]) (fun k=>[(0,cu eI 24 3 b11 (bU f k))]) (fun k=>k≤f.blocks.length) (fun k=>f.blocks.length - k) 0 aT ⟨_,(.refl _),by rw[tm]⟩ (qm _) ?_
 rintro k hk
 refine ae<|ax Z Z<|z6<|ze<|zp Z (fun ck=>?_) (fun ck=>?_)
 ·have hk2:k<f.blocks.length:=by simp at ck;omega
  have hEk:ah f k=co f.blocks[k].term:=uB hk2
  have hlen:=py f.blocks[k].term
  have hrng:=hE.rng _ (qn hk2)
  refine zi<|ze<|zj<|ae<|aa Z<|z7 (db k jw Z2 Z Z Z (qj hk2))<|ab Y6 Z2 Z Z<|zo (cs:=[.str ⟨#[]⟩,.raw (.slice none 0 0),.raw (.slice none 0 0),.int .i64 0,.int .i64 0,.int .i64 0,.int .i64 0]) Zf Z Z<|fun i5=>aq Z<|zf Z2 Z Z Z Z Z Z .head Z<|z6<|ae<|z7 (y0 jy Z Y7 (by decide) Z Z)<|z7 (yf (l:=[_,_,_,_]) isAgg48 Y7 Z ⟨_,.head⟩ Z Z)<|zg (pX _) Z<|au jh Z<|aa Z<|z6<|zj<|ya (γ:=Nat) [3,4,13,14,15,22,23] (fun j=>[(24,.int .i64 j)]) (fun j=>[(0,cu eI 24 3 b11 (eM (bU f k) ((co f.blocks[k].term).take j) k))]) (fun j=>j≤(co f.blocks[k].term).length) (fun j=>(co f.blocks[k].term).length - j) 0 aT ⟨_,(.drop (.refl _)),Z⟩ (qm _) ?_
  rintro j hj
  refine ae<|ax Z Z<|z6<|ze<|zp Z (fun cj=>?_) (fun cj=>?_)
  ·have hj2:j<(co f.blocks[k].term).length:=by simp at cj;omega
   obtain ⟨c,hc⟩:∃c,(co f.blocks[k].term)[j]=c:=⟨_,rfl⟩
   have hr:=hrng c (hc▸qn hj2)
   obtain ⟨rows,hrows⟩:∃rows,eM (bU f k) ((co f.blocks[k].term).take j) k=rows:=⟨_,rfl⟩
   have hrl:rows.length=f.blocks.length:=by rw[←hrows,oy,fc]
   have hcn:c.toNat<rows.length:=by omega
   have hrow:rows[c.toNat].length≤200002:=by
    have:=D8 (f:=f) (k:=k) (b:=c.toNat) (cs:=(co f.blocks[k].term).take j) (x:=k) (fun c hc=>(hrng c (List.mem_of_mem_take hc)).1) (by rw[hrows];exact hcn)
    simp only[hrows,List.length_take] at this
    omega
   rw[hrows]
   refine zi<|ze<|zj<|ae<|z7 (db j jh jm Z Z Z (by rw[qj hj2,hc])) ?_
   refine aw jq Z<|aq Z<|z6<|bD<|z7 (yb (v:=dg _ _) Z)<|aa Z<|z7 (yb (v:=dg _ _) Z)<|aa Z<|z7 (qf (j:=c.toNat) jj jr Z Z (by omega) (by omega))<|q3 (j:=c.toNat) (r:=rows[c.toNat]) jv Z (qj hcn) (fun _=>.head)<|fun i33=>aa Z<|zr (rows:=[[_]]) bT Z Z Z Z Z<|yp (k:=1) jh type3 Z Z Z Z Z (fun _=>.head) (by rw[eI.av_len];rfl) (by decide) Z (by show (_+1)*8≤_;omega) (by show _+1≤_;omega)<|fun i36=>z7 (qf (j:=c.toNat) jj jr Z Z (by omega) (by omega))<|qg (j:=c.toNat) (r:=rows[c.toNat]++[(k:Int)]) jr Z Z (by omega) .head .head Z (eI.av_push _ _) (by simp)<|z6<|bD<|aQ Z Z<|aa Z<|z6 ?_
   exact ⟨j+1,Aw,aT,⟨_,(.refl _),by rw[qk hj2,tk,hrows,hc,Cv hcn]⟩,hj2,by omega⟩
  ·have hjn:j=(co f.blocks[k].term).length:=by simp at cj;omega
   refine y8<|bD<|aQ Z Z<|aa Z<|z6 ?_
   exact ⟨k+1,bX,aT,⟨_,(.refl _),by rw[hjn,qo,←hEk,tn (fun c hc=>(hrng c (hEk▸hc)).1)]⟩,hk2,by omega⟩
 ·have hkn:k=f.blocks.length:=by simp at ck;omega
  subst hkn
  refine yh (aN.nestKnow (s:=3) Z .head (fc f _))<|y8<|ae<|bh Z<|z7 (um Z)<|z6<|zh<|zm (x:=.fro _ _) Z ?_
  rfl
end
section
open Go.Proofs.Tryz
open Go.Proofs
theorem E1:eD prog 157 #[(0,1),(1,1)] [.int .i64 0,.int .i64 0]:=⟨_,_,Zz,zeroValue157,fun w=>by kernel_rfl,rfl⟩
theorem wY:dt prog 158 157 1 2 [.int .i64 0,.int .i64 0]:=⟨_,Zv,sizeOf157,zeroValue157,by decide,by decide,by kernel_rfl⟩
variable {E:World}
set_option maxRecDepth 20000
def GE (r:List (Int × Nat)):List AV:=(r.reverse.map fun q=>[AV.int .i64 q.1,AV.int .i64 (q.2:Int)]).flatten
theorem jE (b:Int) (k:Nat) (r:List (Int × Nat)):GE ((b,k)::r)=GE r++[AV.int .i64 b,AV.int .i64 (k:Int)]:=by unfold GE;simp
theorem rK (r:List (Int × Nat)):(GE r).length=r.length*2:=by
 induction r with
 |nil=>rfl
 |cons q r ih=>obtain ⟨b,k⟩:=q;rw[jE,qp,ih];simp only[List.length_cons,List.length_nil];omega
theorem Cw {f:ac} {n k:Nat} (hE:EOk (ah f) n):(dL (ah f) n k).2.1.length+(dL (ah f) n k).2.2.length≤n:=by
 have h:=dW hE k
 have h2:=jM _ (ee n) h.nodup fun x hx=>fL.2 (h.rng x hx)
 rw[gJ,qp,qq] at h2
 exact h2
theorem vk (f:ac) (hE:ef f) (hn:f.blocks.length≤100000) (hrev:∀(l:List Int) (i:Nat) (T:TypeId),l.length≤200000→aU prog E 95 [.own i l.length] [(i,.grow 1 T (cI l))] fun r O=>r=.tup []∧O=[(i,.grow 1 T (cI l.reverse))]) :
  aF prog E 65 [.agg (b9 f)] (.fro 1 ((ap (ah f) f.blocks.length).map eE)):=by
 have hG:=hE.grph
 have hpos:=hG.npos
 refine zk func65 Z (by decide) Z<|ae<|zy (cs:=_) Z Z Z<|z7 (mS Z)<|z6<|ae<|aj jt Z Zj Z Z<|bd Zn Z<|au jw Z<|ai.makeB (m:=f.blocks.length) Zk type4 Z Z Z Z Z (by simp) (by simp) (by show (1:Int)*_≤_;omega) (by omega)<|fun i12=>z7 (sB Z)<|z6<|ae<|z7 (mR Z)<|z7 (yy (j:=0) Zk Zr Z Z Z ⟨_,.head⟩ (by first|rfl|(simp[aV,aX];done)|(simp[aV,aX];omega)) hG.npos)<|ai.storeB (j:=0) Zr Z Z .head (by first|omega|(simp;omega))<|z6<|ae<|z7 (mS Z)<|z6<|ae<|z7 (zt (cps:=[(0,[_]),(1,[_])]) (rs:=[_,_]) E1 Z Z Z)<|ai.buildSliceO (cps:=[(0,[_,_])]) (rs:=[_,_]) wY Z Z Z Z Z<|fun i16=>z7 (sB Z)<|z6<|iP (t:=4) (k:=1) (T:=3) Z<|fun i4=>yh (zb (zd .t1))<|ze<|zj<|ya (γ:=Nat × Nat × Nat) [1,3] (fun g=>[(4,.own g.2.1 (dL (ah f) f.blocks.length g.1).2.1.length),(5,.own g.2.2 (dL (ah f) f.blocks.length g.1).2.2.length)]) (fun g=>[(g.2.2,.grow 2 157 (GE (dL (ah f) f.blocks.length g.1).2.2)),(g.2.1,.grow 1 3 (cI (dL (ah f) f.blocks.length g.1).2.1)),(i12,.grow 1 4 (cB (dL (ah f) f.blocks.length g.1).1))]) (fun g=>g.1≤4*f.blocks.length∧(dL (ah f) f.blocks.length g.1).1.length=f.blocks.length) (fun g=>kM (dL (ah f) f.blocks.length g.1)) (0,i4,i16) cU aJ (⟨qm _,by simp[dL,nj]⟩) ?_
 rintro ⟨k,io,il⟩ ⟨hk,hsl⟩
 try dsimp only at *
 have hI:=dW hG.toEOk k
 have hlen:=Cw (k:=k) hG.toEOk
 have hlt:=nk hG.toEOk k
 have hstep:dL (ah f) f.blocks.length (k+1)=pm (ah f) (dL (ah f) f.blocks.length k):=rfl
 rcases hx:dL (ah f) f.blocks.length k with ⟨seen,out,st⟩
 rw[hx] at hI hlen hlt hstep hsl
 dsimp only at hlen hlt hsl
 cases st with
 |nil=>
 ·refine ze<|ae<|z7 (mR Z)<|z7 (Gv.lenO Zv Z)<|z7 (Gv.gtr Z Z)<|z6<|yn Z (by simp) ?_
  have hfin:=xR (E:=ah f) (n:=f.blocks.length) (k:=k) (by rw[hx]) hk
  refine y8<|ae<|z7 (mR Z)<|zq Z (zn (.r (.l (.r (.rest _))))) (hrev out io 3 (by omega)) ?_
  rintro r82 O82 ⟨rfl,rfl⟩
  refine z6<|yh (aN.knowI (t:=4) Z .head (by simp))<|ae<|bh Z<|z7 (um Z)<|z6<|zh<|zm (x:=.fro _ _) Z ?_
  unfold ap;rw[hfin,hx];rfl
  |cons q r=>
 ·obtain ⟨b,j⟩:=q
  have hbr:=hI.rng b (by simp)
  have hbl:b.toNat<f.blocks.length:=by omega
  have hEb:ah f b=co f.blocks[b.toNat].term:=nA hbr.1 hbl
  have hjl:=(hI.part (b,j) (by simp)).1
  dsimp only at hjl
  have hmn:kM (dL (ah f) f.blocks.length (k+1))<kM (dL (ah f) f.blocks.length k):=by rw[hstep,hx];exact oX.less hG.toEOk hI (by simp)
  have hk2:k+1≤4*f.blocks.length:=by simp at hlt;omega
  have hsn:(dL (ah f) f.blocks.length (k+1)).1.length=f.blocks.length:=(dW hG.toEOk (k+1)).len
  rw[kg] at hstep
  rw[hx] at hmn
  rw[jE]
  simp only[List.length_cons] at hlen ⊢
  refine ze<|ae<|z7 (mR Z)<|z7 (Gv.lenO Zv Z)<|z7 (Gv.gtr Z Z)<|z6<|yq Z (by simp)<|zi<|zj<|ae<|z7 (mR Z)<|z7 (mR Z)<|z7 (Gv.lenO Zv Z)<|z7 (Gv.sub Z Z (by unfold pq;show _∧((r.length+1:Nat):Int) - 1≤_;omega))<|z7 (Gv.idxOL (j:=r.length) Zv sizeOf157 Z Z (by show ((r.length+1:Nat):Int) - 1=_;omega) ⟨_,.head⟩ (by simp) (by show r.length<r.length+1;omega) (show r.length*2=(GE r).length by rw[rK]))<|z7 (f9 Z)<|z6<|ze<|zw (fun j=>false) (by kernel_rfl) Z (zn (.r (.rest _)))<|ao 0 Z (eh jt Z Zj Z Z)<|ao 1 Z (lA Zn Z)<|ao 2 Z (j7 Z)<|ao 3 Z (yj Z)<|ao 4 Z (y0 Zz Z jm (by decide) Z Z)<|ao 5 Z (Gv.loadL (c:=.int _ _) (j:=0) jq Z Z ⟨_,.head⟩ Z)<|ao 6 Z (db b.toNat jw Z2 Z Z (by omega) (qj hbl))<|ao 7 Z (eh jy Z Y7 Z Z)<|ao 8 Z (yl isAgg48 Y7 Z Z)<|aL 9 Z<|zg (pX _) Z<|z6<|ao 10 Z (um Z)<|bO<|ze<|ae<|z7 (j7 Z)<|z7 (yj Z)<|z7 (y0 Zz Z jm (by decide) Z Z)<|z7 (Gv.loadL (c:=.int _ _) (j:=1) jq Z Z ⟨_,.head⟩ Z)<|bh Z<|au jh Z ?_
  refine ak Z Z<|z6<|zz Z (fun ce=>?_) (fun ce=>?_)
  ·have hje:j=(ah f b).length:=by rw[hEb];have h0:(j:Int)=((co f.blocks[b.toNat].term).length:Int):=(by simpa using ce);omega
   rw[if_pos hje] at hstep
   refine ae<|z7 (mR Z)<|z7 (j7 Z)<|z7 (yj Z)<|z7 (y0 Zz Z jm (by decide) Z Z)<|z7 (Gv.loadL (c:=.int _ _) (j:=0) jq Z Z ⟨_,.head⟩ Z)<|zr (rows:=[[_]]) bT Z Z Z Z Z<|yp (k:=1) jh type3 Z Z Z Z Z (fun _=>.t1) (by rw[aV];omega) (by decide) Z (by show (out.length+1)*8≤_;omega) (by show out.length+1≤_;omega)<|fun i48=>z7 (sB Z)<|z6<|ae<|z7 (mR Z)<|z7 (mR Z)<|z7 (Gv.lenO Zv Z)<|z7 (Gv.sub Z Z (by unfold pq;show _∧((r.length+1:Nat):Int) - 1≤_;omega))<|ai.cutLast (j:=r.length) Zv sizeOf157 Z Z (by show ((r.length+1:Nat):Int) - 1=_;omega) .head (by decide) (by rw[rK])<|z7 (sB Z)<|z6<|y8 ?_
   exact ⟨(k+1,i48,il),cU,⟨(by rw[hstep,qp];rfl),(by rw[hstep];rfl),trivial⟩,⟨_,(.refl _),by rw[hstep];dsimp only;rw[←Fq];rfl⟩,⟨hk2,hsn⟩,by exact hmn⟩
  ·have hje:¬j=(ah f b).length:=by rw[hEb];have h0:¬(j:Int)=((co f.blocks[b.toNat].term).length:Int):=(by simpa using ce);omega
   have hj2:j<(co f.blocks[b.toNat].term).length:=by rw[←hEb];omega
   rw[if_neg hje] at hstep
   obtain ⟨c,hc⟩:∃c,ge (ah f b) j=c:=⟨_,rfl⟩
   have hcj:(co f.blocks[b.toNat].term)[j]?=some c:=by rw[←hEb];unfold ge at hc;rw[←hc,hEb,qj hj2];rfl
   have hcr:=hG.rng b hbr.1 hbr.2 c (by rw[hEb];exact qt hcj)
   rw[hc] at hstep
   have hgs:seen[c.toNat]?=some (gb seen c):=by unfold gb;rw[qj (by omega)];rfl
   have hl2:=hG.len b
   rw[hEb] at hl2
   refine zi<|ae<|bh Z<|z7 (j7 Z)<|z7 (yj Z)<|z7 (y0 Zz Z jm (by decide) Z Z)<|z7 (Gv.loadL (c:=.int _ _) (j:=1) jq Z Z ⟨_,.head⟩ Z)<|z7 (db j jh jm Z Z Z hcj)<|aw jq Z<|aq Z<|z6<|ae<|z7 (j7 Z)<|z7 (yj Z)<|z7 (y0 Zz Z jm (by decide) Z Z)<|z7 (Gv.loadL (c:=.int _ _) (j:=1) jq Z Z ⟨_,.head⟩ Z)<|aQ Z Z<|z7 (yj Z)<|z7 (y0 Zz Z jm (by decide) Z Z)<|ai.storeL (j:=1) (l:=[_]) (new:=[_,_]) jm Z Z Z Z Z Z Z .head Z Z Z<|z6<|ae<|z7 (mR Z)<|aa Z<|z7 (yy (j:=c.toNat) Zk Zr Z Z (by omega) ⟨_,.t2⟩ (by first|rfl|(simp[aV,aX];done)|(simp[aV,aX];omega)) (by omega))<|z7 (Gv.loadB (j:=c.toNat) isAgg4 Z ⟨_,.t2⟩ hgs)<|z7 (yo Z)<|z6<|zz Z (fun cs=>?_) (fun cs=>?_)
   ·rw[if_neg (by simpa using cs)] at hstep
    refine ae<|z7 (mR Z)<|aa Z<|z7 (yy (j:=c.toNat) Zk Zr Z Z (by omega) ⟨_,.t2⟩ (by first|rfl|(simp[aV,aX];done)|(simp[aV,aX];omega)) (by omega))<|ai.storeB (j:=c.toNat) Zr Z Z .t2 (by first|omega|(simp;omega))<|z6<|bD<|z7 (mR Z)<|aa Z<|z7 (zt (cps:=[(0,[_]),(1,[_])]) (rs:=[_,_]) E1 Z Z Z)<|zr (rows:=[[_,_]]) wY Z Z Z Z Z<|yp (k:=2) Zv type157 Z Z Z Z Z (fun _=>.head) (by rw[qp,rK];show r.length*2+2=(r.length+1)*2;omega) (by decide) Z (by show (r.length+1+1)*16≤_;omega) (by show r.length+1+1≤_;omega)<|fun i80=>z7 (sB Z)<|z6 ?_
    exact ⟨(k+1,io,i80),cU,⟨(by rw[hstep];rfl),(by rw[hstep];rfl),trivial⟩,⟨_,(.refl _),by rw[hstep,jE,jE];rfl⟩,⟨hk2,hsn⟩,by exact hmn⟩
   ·rw[if_pos (by simpa using cs)] at hstep
    refine zi ?_
    exact ⟨(k+1,io,il),cU,⟨(by rw[hstep];rfl),(by rw[hstep];rfl),trivial⟩,⟨_,(.refl _),by rw[hstep,jE];rfl⟩,⟨hk2,hsn⟩,by exact hmn⟩
end
section
open Go.Proofs.Tryz
section
variable {E:World} {P:Program} {n:Nat} {l:List Oper} {W:Nat→Bool} {Q:aH→OL→Prop} {fuel:Nat} {listed:Array Bool} {env:aH} {O Os Om:OL}
theorem bt.many {is:List Nat} (hr:Region.ready .any l.toArray listed=is) (h0:is≠[])
  (h:∀k∈is,∃o,l[k]?=some o∧ai P E l.toArray (fun env' Om'=>bt P E l W Q fuel (listed.setIfInBounds k true) env' Os Om') [o] env Om):bt P E l W Q (fuel+1) listed env Os Om:=fun I F ρ w Ls h1 hLs h2=>by
 refine ⟨fun h0'=>absurd (hr.symm.trans h0') h0,fun k hk o2 ho2=>?_⟩
 rw[hr] at hk
 rw[List.getElem?_toArray] at ho2
 obtain ⟨o,e,h⟩:=h k hk
 rw[e] at ho2
 cases ho2
 exact yt (fun ρ' w' ⟨J,env',Om',a,b,c,d⟩=>by
   have hst:dX I.k Ls E w':=by
    obtain ⟨J',L',h3,h4,h5⟩:=c.here
    exact ⟨J',L',a.k.trans h3,h4,h5⟩
   refine ⟨⟨hst.less,.inr hst⟩,bE.mono ?_ ?_ (fun _ _=>qe a) _ _ _ _ (d J F ρ' w' Ls b (hLs.mono a) c)⟩
   ·rintro w ⟨J',L',h3,h4⟩;exact ⟨J',L',a.k.trans h3,h4⟩
   ·rintro w ⟨J',L',h3,h4⟩;exact ⟨J',L',a.k.trans h3,h4⟩) _ _ _ (h I (Ls++F) ρ w h1 h2)
theorem bt.four {i j m q:Nat} {o1 o2 o3 o4:Oper} (hi:l[i]?=some o1) (hj:l[j]?=some o2) (hm:l[m]?=some o3) (hq:l[q]?=some o4) (hr:Region.ready .any l.toArray listed=[i,j,m,q])
  (h1:ai P E l.toArray (fun env' Om'=>bt P E l W Q fuel (listed.setIfInBounds i true) env' Os Om') [o1] env Om)
  (h2:ai P E l.toArray (fun env' Om'=>bt P E l W Q fuel (listed.setIfInBounds j true) env' Os Om') [o2] env Om)
  (h3:ai P E l.toArray (fun env' Om'=>bt P E l W Q fuel (listed.setIfInBounds m true) env' Os Om') [o3] env Om)
  (h4:ai P E l.toArray (fun env' Om'=>bt P E l W Q fuel (listed.setIfInBounds q true) env' Os Om') [o4] env Om):bt P E l W Q (fuel+1) listed env Os Om:=
 bt.many hr (by simp) fun k hk=>by
  simp only[List.mem_cons,List.not_mem_nil,or_false] at hk
  rcases hk with rfl|rfl|rfl|rfl
  ·exact ⟨_,hi,h1⟩
  ·exact ⟨_,hj,h2⟩
  ·exact ⟨_,hm,h3⟩
  ·exact ⟨_,hq,h4⟩
end
end
section
open Go.Proofs.Tryz
def zP (b:Nat) (T:TypeId) (vs:List Value):bm:=.heap fun L=>L=[(b,.cells vs.toArray T (0,0))]
def D9 (b off n c:Nat):AV:=.raw (.slice (some ⟨b,off,none⟩) n c)
section
variable {E:World} {P:Program} {ops:Array Oper} {K:aH→OL→Prop} {env:aH} {O O' O'':OL} {rest:List Oper}
variable {d ty:Nat} {pos:String} {af:Array Edge} {x y z:Operand} {t u e T:TypeId}
theorem ai.makeRow {i:TypeInfo} {zv z1:Value} {m:Nat} {k1 k2:IntKind} {l l':Int} (ht:P.underlying t=some (.slice e)) (hi:P.info? e=some i) (hz:i.zero=some zv) (hzc:zv.cells=#[z1]) (hk:i.size=1) (hx:aP env x=.int k1 l) (hy:aP env y=.int k2 l')
  (hl:l=(m:Int)) (hl':l'=(m:Int)) (hb:(i.bytes:Int)*(m:Int)≤281474976710656) (hm:m≤281474976710656) (kk:∀b,ai P E ops K rest (bp env d (D9 b 0 m m)) ((0,zP b e (List.replicate m z1))::O)) :
  ai P E ops K (Oper.mk (some d) (.makeSlice t x y) ty pos af none::rest) env O:=fun I F ρ w h1 h2=>by
 obtain ⟨htop,L,hL,hS⟩:=h2
 refine bx.make1 ht hi hz hzc hk (fz h1 hx) (fz h1 hy) hl hl' hb hm hS fun b w' hS'=>?_
 exact kk b I F _ _ (h1.upd d rfl) ⟨htop,_,⟨[(b,.cells (List.replicate m z1).toArray e (0,0))],L,rfl,rfl,hL⟩,by simpa using hS'⟩
theorem Gv.rowLo {b n c j:Nat} {a:Int} (ht:P.underlying t=some (.slice e)) (hs:∀w,(sizeOf e).run P w=.ok 1 w) (hx:aP env x=D9 b 0 n c) (hy:aP env y=.int .i64 a) (hi:a=(j:Int)) (hj:j≤n) (hc:j<c) (hnc:n≤c) :
  Gv P env O (Oper.mk (some d) (.slice t x (some y) none none) ty pos af none) (D9 b j (n - j) (c - j)):=qb fun I ρ h=>by
 have h1:=fA h hx
 have h2:=fz h hy
 subst hi
 refine ⟨_,Z,fun w=>?_⟩
 have hcj:¬c=j:=by omega
 simp[execOp,Instr.sliceAt,Instr.slice,Instr.sliceBounds,Instr.sliceBound,asIntOf,Sem.run_bind,run_underlying ht,hs,h1,h2,hcj,hj,bo]
theorem Gv.rowHi {b n c j:Nat} {a:Int} (ht:P.underlying t=some (.slice e)) (hs:∀w,(sizeOf e).run P w=.ok 1 w) (hx:aP env x=D9 b 0 n c) (hy:aP env y=.int .i64 a) (hi:a=(j:Int)) (hc:j≤c) :
  Gv P env O (Oper.mk (some d) (.slice t x none (some y) none) ty pos af none) (D9 b 0 j c):=qb fun I ρ h=>by
 have h1:=fA h hx
 have h2:=fz h hy
 subst hi
 refine ⟨_,Z,fun w=>?_⟩
 simp[execOp,Instr.sliceAt,Instr.slice,Instr.sliceBounds,Instr.sliceBound,asIntOf,Sem.run_bind,run_underlying ht,hs,h1,h2,hc,bo]
theorem Gv.lenRow {b off m c:Nat} (ht:P.underlying t=some (.slice T)) (hx:aP env x=D9 b off m c):Gv P env O (Oper.mk (some d) (.call { callee:=.builtin .len,args:=#[x],argTypes:=#[t] }) ty pos af none) (.int .i64 m):=qb fun I ρ h=>by
 have h1:=fA h hx
 exact ⟨_,rfl,fun w=>by simp[execOp,resolve,h1,invoke,builtin,Builtin.len_,run_underlying ht,goInt]⟩
theorem ai.copyRow {b off dl dc sl q:Nat} {vs cs:List Value} {ty2:TypeId} (ht:P.underlying t=some (.slice e)) (hs:(P.info? e).map (·.size)=some 1) (hx:aP env x=D9 b off dl dc)
  (hq:cs.length=q) (hmin:q=Nat.min sl dl) (hO:eR O 0 (zP b T vs) (zP b T (vs.take off++cs++vs.drop (off+q))) O') (hfit:off+q≤vs.length) (h1c:∀v∈cs,v.oneCell'=true)
  (hy:∀I F ρ w,dx I env ρ→fI I O F E w→∃a sc,ev ρ y=.slice (some a) sl sc∧∀j v,cs[j]?=some v→w.cell? (a.add j)=some v)
  (kk:ai P E ops K rest (bp env d (.int .i64 q)) O') :
  ai P E ops K (Oper.mk (some d) (.call { callee:=.builtin .copy,args:=#[x,y],argTypes:=#[t,ty2] }) ty pos af none::rest) env O:=fun I F ρ w h1 h2=>by
 obtain ⟨a,sc,ey,hsrc⟩:=hy I F ρ w h1 h2
 obtain ⟨htop,L,hL,hS⟩:=h2
 have ex:=fA h1 hx
 obtain ⟨A,B,hp,hA,hback⟩:=hO.rep hL
 have hA:A=[(b,.cells vs.toArray T (0,0))]:=hA
 subst hA
 have hS2:SL I.k ((b,.cells vs.toArray T (0,0))::(B++F)) E w:=hS.perm ((hp.append_right F).symm)
 have hrun:=run_copy_row (P:=P) w t ty2 ty e b off dl dc a sl sc vs.toArray T cs ht hs (hS2.own _ (.head _)) (by rw[hq,hmin]) hsrc (by simpa [hq] using hfit) h1c
 rw[hq] at hrun
 obtain ⟨L',h5,h6⟩:=hback (G.le.refl I) (A':=[(b,.cells (vs.take off++cs++vs.drop (off+q)).toArray T (0,0))]) rfl
 refine qi Z ?_
 unfold dQ
 have hex:(execOp (Go.Proofs.YthphijnnbfjikaaGreatDoor.ev ρ) (Oper.mk (some d) (.call { callee:=.builtin .copy,args:=#[x,y],argTypes:=#[t,ty2] }) ty pos af none)).run P w=.ok (.value (goInt q)) (w.setRow b (vs.take off++cs++vs.drop (off+q)).toArray):=by
  simp only[execOp,resolve]
  simp at hrun
  simp[invoke,builtin,ex,ey,hrun]
 rw[hex]
 refine kk I F _ _ (h1.upd d Z) ⟨htop,L',h5,?_⟩
 exact (hS2.turn1).perm (h6.append_right F)
theorem cO.rowOwn {t b m:Nat} {vs:List Value} {O1:OL} {c:Code} {Q:Exit→aH→OL→Prop} {n:Nat} (hv:env t=D9 b 0 m m) (hO:cz O 0 (zP b T vs) O1) (hm:vs.length=m) (hc:∀u∈vs,u.oneCell'=true)
  (h:∀i,cO P E n c Q (bp env t (.own i m)) ((i,.grow 1 T (vs.map lit))::O1)):cO P E n c Q env O:=fun I F ρ w h1 h2=>by
 obtain ⟨i,hi⟩:=h2.name
 obtain ⟨J,e1,hle,e2,htop⟩:=hi (some b,m)
 obtain ⟨_,L,hL,hS⟩:=h2
 obtain ⟨A,B,hp,hA,hB⟩:=hO.rep hL
 have hA:A=[(b,.cells vs.toArray T (0,0))]:=hA
 subst hA
 refine (h i J F ρ w (fun q=>?_) ⟨htop,_,⟨[(b,.cells vs.toArray T (0,0))],B,Z,⟨some b,m,m,vs,e2,dA J vs,hc,dM.made (by rw[hm,Nat.mul_one])⟩,hB.mono hle⟩,by rw[e1];exact hS.perm (hp.symm.append_right F)⟩).mono fun _ _ _=>kQ.up hle
 unfold bp
 cases hb:Nat.beq q t with
 |false=>exact br.mono hle _ _ (h1 q)
 |true=>
  have:q=t:=Nat.eq_of_beq_eq_true hb
  subst this
  have h4:=h1 q
  rw[hv] at h4
  exact ⟨some b,m,e2,h4⟩
end
end
end Go.Proofs.YthphijnnbfjikaaGreatDoor
