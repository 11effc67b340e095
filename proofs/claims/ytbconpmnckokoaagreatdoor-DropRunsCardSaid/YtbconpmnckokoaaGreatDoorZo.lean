/- What an operation comes to that writes: all of them but calls; an operation of any kind. No conditions. -/
import Derived.Test.YtbconpmnckokoaaGreatDoorZn
import Derived.WideKeyRuns
import Derived.Laws.BytesString
import Derived.Test.YtbconpmnckokoaaGreatDoorZe
set_option linter.unusedVariables false
set_option linter.unusedSimpArgs false
set_option linter.unusedSectionVars false
namespace Go.Proofs.YtbconpmnckokoaaGreatDoor
section
open Go.Proofs
def fk:TypeDesc→EV→Bool
 |.bool,.b _=>true
 |.int k,.i k' _=>decide (k'=k)
 |.string,.s _=>true
 |_,_=>false
def fO:EV→EV→Bool
 |.b a,.b b=>a == b
 |.i k n,.i k' m=>decide (k=k')&&decide (n=m)
 |.s a,.s b=>mh a b
 |_,_=>false
def iY (k:EV):List (EV × EV)→Nat→Option (Nat × EV)
 |[],_=>none
 |x::l,i=>bif fO k x.1 then some (i,x.2) else iY k l (i+1)
theorem gx {φ:bV} {d:TypeDesc} {x:EV} {v:Value} (h:fk d x=true) (hr:aQ φ x v):MapKept.IsKey d v:=by
 cases d<;>cases x<;>simp only[fk] at h<;>first|(cases h;done)|skip
 ·have hr:v=.bool _:=hr
  subst hr;trivial
 ·have hr:v=.int _ _:=hr
  subst hr;have h2:=of_decide_eq_true h;exact h2
 ·have hr:v=.string _:=hr
  subst hr;trivial
theorem vH {φ:bV} {d:TypeDesc} {x y:EV} {v u:Value} (h:fk d x=true) (k:fk d y=true) (hr:aQ φ x v) (kr:aQ φ y u):fO x y=true↔v=u:=by
 cases d<;>cases x<;>simp only[fk] at h<;>first|(cases h;done)|skip
 all_goals (cases y<;>simp only[fk] at k<;>first|(cases k;done)|skip)
 ·have hr:v=.bool _:=hr
  have kr:u=.bool _:=kr
  subst hr kr;simp[fO]
 ·have hr:v=.int _ _:=hr
  have kr:u=.int _ _:=kr
  subst hr kr;simp[fO]
 ·have hr:v=.string _:=hr
  have kr:u=.string _:=kr
  subst hr kr;simp[fO,fD]
theorem oK {φ:bV} {d:TypeDesc} {k:EV} {kv:Value} (hk:fk d k=true) (hr:aQ φ k kv):∀(es:List (EV × EV)) (ms:List MapEntry) (i:Nat),b7 φ es ms→es.all (fun x=>fk d x.1)=true →
  (iY k es i=none∧Instr.findNow d kv ms i=some none∧∀x∈ms,x.key≠kv)∨∃j x e,iY k es i=some (i+j,x)∧Instr.findNow d kv ms i=some (some (i+j,e.val))∧aQ φ x e.val∧ms[j]?=some e∧e.key=kv
 |[],ms,i,h,_=>by
  have h:ms=[]:=h
  subst h
  exact .inl ⟨rfl,rfl,by simp⟩
 |x::es,ms,i,h,ha=>by
  obtain ⟨e,r,rfl,h1,h2,h3⟩:=h
  simp only[List.all_cons,qz] at ha
  obtain ⟨s,hs,hiff⟩:=MapKept.sameNow_of_keys (gx hk hr) (gx ha.1 h1)
  have hke:=vH hk ha.1 hr h1
  unfold iY
  cases s with
  |true=>
   have he:=hiff.1 rfl
   have:fO k x.1=true:=hke.2 he
   rw[this]
   exact .inr ⟨0,x.2,e,rfl,by simp[Instr.findNow,hs],h2,rfl,he.symm⟩
  |false=>
   have hne:kv≠e.key:=fun q=>by have:=hiff.2 q;cases this
   have:fO k x.1=false:=by cases q:fO k x.1 with
    |false=>rfl
    |true=>exact absurd (hke.1 q) hne
   rw[this]
   rcases oK hk hr es r (i+1) h3 ha.2 with ⟨g1,g2,g3⟩|⟨j,y,e',g1,g2,g3,g4,g5⟩
   ·refine .inl ⟨g1,by simp[Instr.findNow,hs,g2],fun z hz=>?_⟩
    rcases List.mem_cons.1 hz with rfl|hz
    ·exact fun q=>hne q.symm
    ·exact g3 z hz
   ·refine .inr ⟨j+1,y,e',?_,?_,g3,by simpa using g4,g5⟩
    ·show iY k es (i+1)=_
     rw[g1];congr 2;omega
    ·simp[Instr.findNow,hs,g2];omega
def rB:EV→Bool
 |.b _=>true
 |.i _ _=>true
 |.s _=>true
 |_=>false
def pU:List EV→List EV→Bool
 |[],[]=>true
 |x::l,y::m=>fO x y&&pU l m
 |_,_=>false
def nC:EV→EV→Bool
 |.ag l,.ag m=>pU l m
 |_,_=>false
noncomputable def pV (T:TT) (i:TI):EV→Bool
 |.ag l=>match i.d with
  |.struct fs=>l.all rB&&i.q&&fs.toList.all fun f=>match T f.type,da T f.type l f.offset with
   |some j,some x=>fk j.d x
   |_,_=>false
  |_=>false
 |_=>false
noncomputable def rC (T:TT) (kt:Nat) (k:EV):List (EV × EV)→Nat→Option (Option (Nat × EV))
 |[],_=>some none
 |x::l,i=>match iL T 5 kt k x.1 with
  |some true=>bif nC k x.1 then some (some (i,x.2)) else none
  |some false=>rC T kt k l (i+1)
  |none=>none
noncomputable def iZ (T:TT) (kt:Nat) (i:TI) (k:EV) (es:List (EV × EV)):Option (Option (Nat × EV)):=
 bif fk i.d k then (bif es.all (fun x=>fk i.d x.1) then some (iY k es 0) else none)
 else bif pV T i k then rC T kt k es 0 else none
theorem xk {φ:bV} {x y:EV} {v u:Value} (h:fO x y=true) (hr:aQ φ x v) (kr:aQ φ y u):v=u:=by
 cases x<;>cases y<;>simp only[fO] at h<;>first|(cases h;done)|skip
 ·have hr:v=.bool _:=hr
  have kr:u=.bool _:=kr
  subst hr kr
  rw[eq_of_beq h]
 ·have hr:v=.int _ _:=hr
  have kr:u=.int _ _:=kr
  simp only[qz,decide_eq_true_eq] at h
  subst hr kr
  rw[h.1,h.2]
 ·have hr:v=.string _:=hr
  have kr:u=.string _:=kr
  subst hr kr
  rw[fD] at h
  rw[of_decide_eq_true h]
theorem mP {φ:bV}:∀{x y:List EV} {v u:List Value},pU x y=true→RelVs φ x v→RelVs φ y u→v=u
 |[],[],v,u,_,hr,kr=>by
  have hr:v=[]:=hr
  have kr:u=[]:=kr
  rw[hr,kr]
 |[],_::_,_,_,h,_,_=>by cases h
 |_::_,[],_,_,h,_,_=>by cases h
 |x::l,y::m,_,_,h,⟨v,vs,e1,a1,a2⟩,⟨u,us,e2,b1,b2⟩=>by
  have h:=(qz _ _).mp h
  rw[e1,e2,xk h.1 a1 b1,mP h.2 a2 b2]
theorem vI {φ:bV} {x y:EV} {v u:Value} (h:nC x y=true) (hr:aQ φ x v) (kr:aQ φ y u):v=u:=by
 cases x<;>cases y<;>simp only[nC] at h<;>first|(cases h;done)|skip
 obtain ⟨vs,rfl,h1⟩:=hr
 obtain ⟨us,rfl,h2⟩:=kr
 rw[mP h h1 h2]
theorem vJ {φ:bV} {x:EV} {v:Value} (n:Nat) (h:rB x=true) (hr:aQ φ x v):Instr.sameBits (n+1) v v=true:=by
 cases x<;>simp only[rB] at h<;>first|(cases h;done)|skip
 ·have hr:v=.bool _:=hr
  subst hr;simp[Instr.sameBits]
 ·have hr:v=.int _ _:=hr
  subst hr;simp[Instr.sameBits]
 ·have hr:v=.string _:=hr
  subst hr;simp[Instr.sameBits,MapKept.bytes_beq]
theorem lK {φ:bV} (n:Nat):∀{x:List EV} {v:List Value},x.all rB=true→RelVs φ x v→((v.zip v).all fun q=>Instr.sameBits (n+1) q.1 q.2)=true
 |[],v,_,hr=>by
  have hr:v=[]:=hr
  subst hr;rfl
 |x::l,_,h,⟨v,vs,e,a1,a2⟩=>by
  simp only[List.all_cons,qz] at h
  subst e
  simp only[List.zip_cons_cons,List.all_cons,vJ n h.1 a1,Bool.true_and]
  exact lK n h.2 a2
theorem oL {P:Program} {α:Type} {body:α→PUnit→Sem (ForInStep PUnit)} {w:World}:∀(l:List α),(∀f∈l,(body f ⟨⟩).run P w=.ok (.yield ⟨⟩) w)→(forIn l PUnit.unit body).run P w=.ok ⟨⟩ w
 |[],_=>rfl
 |f::l,h=>by
  rw[List.forIn_cons,Sem.run_bind,h f (.head _)]
  exact oL l fun g hg=>h g (.tail _ hg)
theorem oM {P:Program} {φ:bV} {T:TT} (hT:b8 P T) {kt:Nat} {k:EV} {kv:Value} (hr:aQ φ k kv):∀(es:List (EV × EV)) (ms:List MapEntry) (i:Nat) (r:Option (Nat × EV)),b7 φ es ms→rC T kt k es i=some r →
  (r=none∧∀w,(Instr.findAsking kt kv ms i).run P w=.ok none w)∨∃j x e,r=some (i+j,x)∧(∀w,(Instr.findAsking kt kv ms i).run P w=.ok (some (i+j,e.val)) w)∧aQ φ x e.val∧ms[j]?=some e∧e.key=kv
 |[],ms,i,r,h,hf=>by
  have h:ms=[]:=h
  subst h
  cases hf
  exact .inl ⟨rfl,fun _=>rfl⟩
 |x::es,ms,i,r,h,hf=>by
  obtain ⟨e,q,rfl,h1,h2,h3⟩:=h
  unfold rC at hf
  split at hf
  ·rename_i hq
   have he:∀w,(Op.equal kt kv e.key).run P w=.ok true w:=fun w=>gv hT 5 kt k x.1 kv e.key true hq hr h1 _ (by decide)
   cases hk:nC k x.1 with
   |false=>rw[hk] at hf;cases hf
   |true=>
    rw[hk] at hf
    cases hf
    refine .inr ⟨0,x.2,e,Z,fun w=>?_,h2,Z,(vI hk hr h1).symm⟩
    simp[Instr.findAsking,he w]
  ·rename_i hq
   have he:∀w,(Op.equal kt kv e.key).run P w=.ok false w:=fun w=>gv hT 5 kt k x.1 kv e.key false hq hr h1 _ (by decide)
   rcases oM hT hr es q (i+1) r h3 hf with ⟨g1,g2⟩|⟨j,y,e',g1,g2,g3,g4,g5⟩
   ·exact .inl ⟨g1,fun w=>by simp[Instr.findAsking,he w,g2 w]⟩
   ·have e1:i+1+j=i+(j+1):=by omega
    refine .inr ⟨j+1,y,e',by rw[g1,e1],fun w=>?_,g3,by simpa using g4,g5⟩
    simp[Instr.findAsking,he w,g2 w,e1]
  ·cases hf
theorem fm {P:Program} {φ:bV} {T:TT} (hT:b8 P T) {kt:Nat} {i:TI} (hi:T kt=some i) {k:EV} {kv:Value} (hr:aQ φ k kv) {es:List (EV × EV)} {ms:List MapEntry} {r:Option (Nat × EV)} (h:b7 φ es ms) (hf:iZ T kt i k es=some r) :
  (∀w b,(Instr.checkKey b 10000 kt kv).run P w=.ok () w)∧(∀w,(Instr.keyThatStays kv kv).run P w=.ok kv w) ∧
  ((r=none∧∀w,(Instr.findKey kt kv ms).run P w=.ok none w)∨∃j x e,r=some (j,x)∧(∀w,(Instr.findKey kt kv ms).run P w=.ok (some (j,e.val)) w)∧aQ φ x e.val∧ms[j]?=some e∧e.key=kv):=by
 have hku:=(hT kt i hi).und
 unfold iZ at hf
 cases hk:fk i.d k with
 |true=>
  rw[hk] at hf
  cases hb:es.all (fun x=>fk i.d x.1) with
  |false=>rw[hb] at hf;cases hf
  |true=>
   rw[hb] at hf
   simp only[cond_true,Option.some.injEq] at hf
   have hkk:=gx hk hr
   refine ⟨fun w b=>MapKept.run_checkKey hku hkk b 9999,fun w=>MapKept.run_keyThatStays hkk,?_⟩
   rcases oK hk hr es ms 0 h hb with ⟨g1,g2,_⟩|⟨j,y,e,g1,g2,g3,g4,g5⟩
   ·exact .inl ⟨by rw[←hf,g1],fun w=>MapKept.run_findKey hku g2⟩
   ·rw[Nat.zero_add] at g1 g2
    exact .inr ⟨j,y,e,by rw[←hf,g1],fun w=>MapKept.run_findKey hku g2,g3,g4,g5⟩
 |false=>
  rw[hk] at hf
  cases hw:pV T i k with
  |false=>rw[hw] at hf;cases hf
  |true=>
   rw[hw] at hf
   simp only[cond_false,cond_true] at hf
   unfold pV at hw
   split at hw
   ·rename_i l
    obtain ⟨vs,rfl,hvs⟩:=hr
    split at hw
    ·rename_i fs hfs
     simp only[qz] at hw
     obtain ⟨⟨hl,hq⟩,hall⟩:=hw
     rw[hfs] at hku
     have hnm:=((hT kt i hi).qd hq).2 fs hfs
     refine ⟨fun w b=>?_,fun w=>?_,?_⟩
     ·rw[show (10000:Nat)=9999+1 from rfl]
      rw[Instr.checkKey]
      simp only[Sem.run_bind,run_underlying hku,Result.andThen_ok]
      rw[←Array.forIn_toList]
      refine (congrArg (fun r=>Result.andThen r _) (oL fs.toList fun f hf=>?_)).trans Z
      have hn:=hnm f hf
      have hz:=List.all_eq_true.1 hall f hf
      split at hz
      ·rename_i j x hj hx
       obtain ⟨v,hv,hvr⟩:=dR (w:=w) hT hx hvs
       have hkc:=MapKept.run_checkKey (P:=P) (w:=w) ((hT f.type j hj).und) (gx hz hvr) b 9998
       simp[hn,hv,hkc]
      ·cases hz
     ·have hb:∀n,Instr.sameBits (n+2) (.agg vs.toArray) (.agg vs.toArray)=true:=fun n=>by
       simp only[Instr.sameBits,beq_self_eq_true,Bool.true_and]
       exact lK n hl hvs
      unfold Instr.keyThatStays
      rw[if_pos (hb 9998)];rfl
     ·have hw:(match P.underlying kt with|some (.array _ _)|some (.struct _)=>true|_=>false)=true:=by rw[hku]
      rcases oM hT (show aQ φ (.ag l) (.agg vs.toArray) from ⟨vs,rfl,hvs⟩) es ms 0 r h hf with ⟨g1,g2⟩|⟨j,y,e,g1,g2,g3,g4,g5⟩
      ·exact .inl ⟨g1,fun w=>by rw[run_findKey_eq w hw];exact g2 w⟩
      ·rw[Nat.zero_add] at g1 g2
       exact .inr ⟨j,y,e,g1,fun w=>by rw[run_findKey_eq w hw];exact g2 w,g3,g4,g5⟩
    ·cases hw
   ·cases hw
def vK (n:Nat):List (EV × EV)→Bool
 |[]=>true
 |x::l=>(match x.1 with
  |.s y=>Nat.blt y.data.toList.length n
  |_=>false)&&vK n l
noncomputable def fE (T:TT) (t:Nat) (es:List (EV × EV)) (k:EV) (ok:Bool):Option EV:=
 match T t with
 |some i=>match i.d with
  |.map kt et=>match T kt,T et with
   |some ik,some ie=>match iZ T kt ik k es with
     |some (some (_,v))=>some (bif ok then .tu [v,.b true] else v)
     |some none=>some (bif ok then .tu [ie.v,.b false] else ie.v)
     |none=>none
   |_,_=>none
  |_=>none
 |none=>none
noncomputable def iN (T:TT) (t:Nat) (es:List (EV × EV)) (k:EV) (ok:Bool):Option EV:=
 match k with
 |.us lo _=>bif vK lo es then fE T t es (.s ⟨(List.replicate lo 0).toArray⟩) ok else none
 |k=>fE T t es k ok
noncomputable def cellsOf (H:Hp) (b off n:Nat):Option (List EV):=
 match (H.get b).bind VO.cs? with
 |some cs=>bif Nat.ble (off+n) cs.length then some ((cs.drop off).take n) else none
 |none=>none
def AG:List EV→Option (List UInt8)
 |[]=>some []
 |.i .i32 (.ofNat n)::l=>match AG l with
  |some m=>bif Nat.blt n 128 then some (n.toUInt8::m) else none
  |none=>none
 |_=>none
def AH:List EV→Option (List UInt8)
 |[]=>some []
 |.i .u8 (.ofNat n)::l=>match AH l with
  |some m=>some (n.toUInt8::m)
  |none=>none
 |_=>none
noncomputable def kC (T:TT) (H:Hp) (s d:Nat) (x:EV):Option EV:=
 match T s,T d with
 |some is_,some id_=>match is_.d,id_.d with
  |.slice e,.string=>match T e with
   |some ie=>match ie.d,x with
    |.int .i32,.sl b off n k _=>bif Nat.beq k 1 then match cellsOf H b off n with
     |some l=>(AG l).map fun m=>.s ⟨m.toArray⟩
     |none=>none
     else none
    |.int .u8,.sl b off n k _=>bif Nat.beq k 1 then match cellsOf H b off n with
     |some l=>(AH l).map fun m=>.s ⟨m.toArray⟩
     |none=>none
     else none
    |_,_=>none
   |none=>none
  |_,_=>none
 |_,_=>none
noncomputable def CT (T:TT) (g:Nat→EV) (H:Hp) (op:Op):Option EV:=
 match op with
 |.load t x=>match bN g x with
  |some (.p b off)=>lG T H t b off
  |_=>none
 |.lookup t x y ok=>match bN g x,bN g y with
  |some (.m b),some k=>match H.get b with
   |some (.mp es)=>iN T t es k ok
   |_=>none
  |some .nm,some k=>iN T t [] k ok
  |_,_=>none
 |.convert s d x=>match bN g x with
  |some a=>kC T H s d a
  |none=>none
 |.call ⟨.builtin .len,ar,ts⟩=>match ar.toList,ts.toList with
  |[x],[t]=>match bN g x,T t with
   |some (.m b),some i=>match i.d,H.get b with
    |.map _ _,some (.mp es)=>some (.i .i64 es.length)
    |_,_=>none
   |some .nm,some i=>match i.d with
    |.map _ _=>some (.i .i64 0)
    |_=>none
   |_,_=>none
  |_,_=>none
 |_=>none
noncomputable def DR (T:TT) (g:Nat→EV) (H:Hp) (t:TypeId) (x:Operand):Option EV:=match bN g x with
 |some (.p b off)=>lG T H t b off
 |_=>none
noncomputable def DS (T:TT) (g:Nat→EV) (H:Hp) (t:TypeId) (x y:Operand) (ok:Bool):Option EV:=match bN g x,bN g y with
 |some (.m b),some k=>match H.get b with
  |some (.mp es)=>iN T t es k ok
  |_=>none
 |some .nm,some k=>iN T t [] k ok
 |_,_=>none
noncomputable def DT (T:TT) (g:Nat→EV) (H:Hp) (s d:TypeId) (x:Operand):Option EV:=match bN g x with
 |some a=>kC T H s d a
 |none=>none
noncomputable def DU (T:TT) (g:Nat→EV) (H:Hp) (ar:Array Operand) (ts:Array TypeId):Option EV:=match ar.toList,ts.toList with
 |[x],[t]=>match bN g x,T t with
  |some (.m b),some i=>match i.d,H.get b with
   |.map _ _,some (.mp es)=>some (.i .i64 es.length)
   |_,_=>none
  |some .nm,some i=>match i.d with
   |.map _ _=>some (.i .i64 0)
   |_=>none
  |_,_=>none
 |_,_=>none
noncomputable def DV (T:TT) (g:Nat→EV) (H:Hp) (c:Call):Option EV:=match c with
 |⟨.builtin .len,ar,ts⟩=>DU T g H ar ts
 |_=>none
noncomputable def DW (T:TT) (g:Nat→EV) (H:Hp) (op:Op):Option EV:=
 match op with
 |.load t x=>DR T g H t x
 |.lookup t x y ok=>DS T g H t x y ok
 |.convert s d x=>DT T g H s d x
 |.call c=>DV T g H c
 |_=>none
theorem CU (T:TT) (g:Nat→EV) (H:Hp) (op:Op):DW T g H op=CT T g H op:=by
 cases op<;>try rfl
 case call c=>
  obtain ⟨cl,ar,ts⟩:=c
  cases cl<;>try rfl
  rename_i b
  cases b<;>rfl
section
variable {P:Program} {φ:bV} {g:Nat→EV} {ρ:bF} {w:World} {T:TT} {I:aJ} {H:Hp} {nx:Nat} {F:List (Nat × Obj)} {E:World}
theorem eL (hR:cy I φ H nx F E w) {b off n:Nat} {l:List EV} (h:cellsOf H b off n=some l) {q:rp} (hq:φ b=some q) :
  ∃vs,RelVs φ l vs∧vs.length=n∧(∀u∈vs,u.oneCell'=true)∧∀(j:Nat) v,vs[j]?=some v→w.cell? ⟨q.r,q.sh+off+j,none⟩=some v:=by
 unfold cellsOf at h
 split at h
 ·rename_i cs hc
  obtain ⟨o,ho,hoc⟩:=Option.bind_eq_some_iff.1 hc
  obtain ⟨vs,h1,h2,h3⟩:=hR.read ho hoc hq
  cases hb:Nat.ble (off+n) cs.length with
  |false=>rw[hb] at h;cases h
  |true=>
   rw[hb] at h;cases h
   have hb:=Nat.le_of_ble_eq_true hb
   have hl:((vs.drop off).take n).length=n:=by rw[qw,List.length_drop,h1.length];omega
   refine ⟨(vs.drop off).take n,(h1.drop off).take n,hl,fun u hu=>h2 u (List.mem_of_mem_drop (List.mem_of_mem_take hu)),fun j v hj=>?_⟩
   have hjl:=(List.getElem?_eq_some_iff.1 hj).1
   rw[hl] at hjl
   rw[List.getElem?_take_of_lt hjl,List.getElem?_drop] at hj
   rw[Nat.add_assoc];exact h3 _ _ hj
 ·cases h
theorem pW {n:Nat} (h:n<128):Utf8.encode (n:Int)=⟨#[n.toUInt8]⟩:=
 (show ∀n:Fin 128,Utf8.encode ((n:Nat):Int)=⟨#[(n:Nat).toUInt8]⟩ by decide +kernel) ⟨n,h⟩
theorem jA:∀(ns:List Nat) (r:List UInt8),(∀n∈ns,n<128)→(ns.map Int.ofNat).foldl (fun r n=>r++Utf8.encode n) (⟨r.toArray⟩:ByteArray)=⟨(r++ns.map Nat.toUInt8).toArray⟩
 |[],r,_=>by simp
 |n::ns,r,h=>by
  rw[List.map_cons,List.foldl_cons,show Utf8.encode (Int.ofNat n)=⟨#[n.toUInt8]⟩ from pW (h n (.head _))]
  have e:(⟨r.toArray⟩:ByteArray)++⟨#[n.toUInt8]⟩=⟨(r++[n.toUInt8]).toArray⟩:=by
   apply ByteArray.ext
   simp[ByteArray.data_append]
  rw[e,jA ns _ fun m hm=>h m (.tail _ hm)]
  simp
theorem rD {φ:bV}:∀(l:List EV) (m:List UInt8) (vs:List Value),AG l=some m→RelVs φ l vs→∃ns:List Nat,vs=(ns.map Int.ofNat).map (Value.int .i32)∧m=ns.map Nat.toUInt8∧∀n∈ns,n<128
 |[],m,vs,h,hr=>by cases h;have hr:vs=[]:=hr;subst hr;exact ⟨[],rfl,rfl,by simp⟩
 |x::l,m,vs,h,⟨v,us,e,h1,h2⟩=>by
  subst e
  unfold AG at h
  split at h
  ·cases ‹_::_=[]›
  ·rename_i n l' e
   cases e
   split at h
   ·rename_i m' hm
    cases hb:Nat.blt n 128 with
    |false=>rw[hb] at h;cases h
    |true=>
     rw[hb] at h;cases h
     have hb:n<128:=Nat.le_of_ble_eq_true hb
     obtain ⟨ns,e1,e2,e3⟩:=rD l m' us hm h2
     have h1:v=.int .i32 (.ofNat n):=h1
     subst h1 e1 e2
     exact ⟨n::ns,rfl,rfl,fun k hk=>(List.mem_cons.1 hk).elim (fun e=>e▸hb) (e3 k)⟩
   ·cases h
  ·cases h
theorem rE {φ:bV}:∀(l:List EV) (m:List UInt8) (vs:List Value),AH l=some m→RelVs φ l vs→∃ns:List Nat,vs=(ns.map Int.ofNat).map (Value.int .u8)∧m=ns.map Nat.toUInt8
 |[],m,vs,h,hr=>by
  cases h
  have hr:vs=[]:=hr
  exact ⟨[],hr,rfl⟩
 |x::l,m,vs,h,hr=>by
  obtain ⟨v,us,rfl,h1,h2⟩:=hr
  unfold AH at h
  split at h
  ·rename_i e;cases e
  ·rename_i n l' e
   cases e
   split at h
   ·rename_i m' hm
    cases h
    obtain ⟨ns,rfl,rfl⟩:=rE l m' us hm h2
    have h1:v=.int .u8 (Int.ofNat n):=h1
    subst h1
    exact ⟨n::ns,rfl,rfl⟩
   ·cases h
  ·cases h
theorem jB:∀(ns:List Nat) (r:List UInt8),(ns.map Int.ofNat).foldl (fun r n=>r.push (UInt8.ofNat n.toNat)) (⟨r.toArray⟩:ByteArray)=⟨(r++ns.map Nat.toUInt8).toArray⟩
 |[],r=>by simp
 |n::ns,r=>by
  have e:(⟨r.toArray⟩:ByteArray).push (UInt8.ofNat (Int.ofNat n).toNat)=⟨(r++[n.toUInt8]).toArray⟩:=by
   show (⟨r.toArray.push _⟩:ByteArray)=_
   rw[List.push_toArray];rfl
  rw[List.map_cons,List.foldl_cons,e,jB ns,qq];rfl
theorem pX (hT:b8 P T) (hR:cy I φ H nx F E w) {s d:Nat} {x y:EV} {a:Value} (h:kC T H s d x=some y) (hx:aQ φ x a):∃v,(convert s d a).run P w=.ok v w∧aQ φ y v:=by
 unfold kC at h
 split at h
 ·rename_i i1 i2 h1 h2
  split at h
  ·rename_i e e1 e2
   split at h
   ·rename_i ie h3
    split at h
    ·rename_i b off n k c e3
     have u1:=e1▸(hT s i1 h1).und
     have u2:=e2▸(hT d i2 h2).und
     have u3:=e3▸(hT e ie h3).und
     cases hk:Nat.beq k 1 with
     |false=>rw[hk] at h;cases h
     |true=>
      rw[hk] at h
      simp only[cond_true] at h
      split at h
      ·rename_i l hl
       obtain ⟨m,hm,rfl⟩:=Option.map_eq_some_iff.1 h
       obtain ⟨q,o,cap,hq,rfl,x1,x2,_⟩:=hx
       obtain ⟨vs,g1,g2,g3,g4⟩:=eL hR hl hq
       obtain ⟨ns,rfl,rfl,hns⟩:=rD l m vs hm g1
       have hload:(loadCells (⟨q.r,o,none⟩:Addr) n).run P w=.ok ((ns.map Int.ofNat).map (Value.int .i32)).toArray w:=by
        have:=run_loadCells_list (P:=P) w (⟨q.r,o,none⟩:Addr) ((ns.map Int.ofNat).map (Value.int .i32)) (fun j v hj=>by
         have hjl:=(List.getElem?_eq_some_iff.1 hj).1
         rw[g2] at hjl
         rw[bv,x2 (by omega)];exact g4 j v hj)
        rw[g2] at this
        exact this
       refine ⟨.string (runesBytes (ns.map Int.ofNat)),?_,?_⟩
       ·rw[run_convert_runes_string (P:=P) w s d e _ _ _ u1 u3 u2,run_runesToString w _ n cap _ hload]
       ·show Value.string _=Value.string _
        have:=jA ns [] hns
        unfold runesBytes
        rw[show (ByteArray.empty:ByteArray)=⟨([]:List UInt8).toArray⟩ from rfl,this]
        simp
      ·cases h
    ·rename_i b off n k c e3
     have u1:=e1▸(hT s i1 h1).und
     have u2:=e2▸(hT d i2 h2).und
     have u3:=e3▸(hT e ie h3).und
     cases hk:Nat.beq k 1 with
     |false=>rw[hk] at h;cases h
     |true=>
      rw[hk] at h
      simp only[cond_true] at h
      split at h
      ·rename_i l hl
       obtain ⟨m,hm,rfl⟩:=Option.map_eq_some_iff.1 h
       obtain ⟨q,o,cap,hq,rfl,x1,x2,_⟩:=hx
       obtain ⟨vs,g1,g2,g3,g4⟩:=eL hR hl hq
       obtain ⟨ns,rfl,rfl⟩:=rE l m vs hm g1
       have hload:(loadCells (⟨q.r,o,none⟩:Addr) n).run P w=.ok ((ns.map Int.ofNat).map (Value.int .u8)).toArray w:=by
        have:=run_loadCells_list (P:=P) w (⟨q.r,o,none⟩:Addr) ((ns.map Int.ofNat).map (Value.int .u8)) (fun j v hj=>by
         have hjl:=(List.getElem?_eq_some_iff.1 hj).1
         rw[g2] at hjl
         rw[bv,x2 (by omega)];exact g4 j v hj)
        rw[g2] at this
        exact this
       refine ⟨.string ((ns.map Int.ofNat).foldl (fun r n=>r.push (UInt8.ofNat n.toNat)) ByteArray.empty),?_,?_⟩
       ·rw[run_convert_bytes_string (P:=P) w s d e _ _ _ u1 u3 u2,run_bytesToString w _ n cap _ hload]
       ·show Value.string _=Value.string _
        have:=jB ns []
        rw[show (ByteArray.empty:ByteArray)=⟨([]:List UInt8).toArray⟩ from rfl,this]
        simp
      ·cases h
    ·cases h
   ·cases h
  ·cases h
 ·cases h
theorem mQ (hT:b8 P T) {t:Nat} {es:List (EV × EV)} {ms:List MapEntry} {k:EV} {kv:Value} {ok:Bool} {x:EV} (h:fE T t es k ok=some x) (hr:aQ φ k kv) (he:b7 φ es ms) :
  ∃kt et v u ok',P.underlying t=some (.map kt et)∧aQ φ x v∧v=(if ok then .tuple #[u,.bool ok'] else u) ∧
   (∀w b,(Instr.checkKey b 10000 kt kv).run P w=.ok () w)∧((∃j,ok'=true∧∀w,(Instr.findKey kt kv ms).run P w=.ok (some (j,u)) w)∨(ok'=false∧(∀w,(Instr.findKey kt kv ms).run P w=.ok none w)∧∀w,(zeroValue et).run P w=.ok u w)):=by
 unfold fE at h
 split at h
 ·rename_i i hi
  split at h
  ·rename_i kt et hd
   split at h
   ·rename_i ik ie hik hie
    have hu:=hd▸(hT t i hi).und
    split at h
    ·rename_i j v hf
     obtain ⟨hc,_,⟨e,_⟩|⟨j,y,e,g1,g2,g3,_⟩⟩:=fm hT hik hr he hf
     ·cases e
     ·cases g1
      cases h
      refine ⟨kt,et,_,e.val,true,hu,?_,Z,hc,.inl ⟨_,Z,g2⟩⟩
      cases ok
      ·exact g3
      ·exact ⟨[e.val,.bool true],rfl,_,_,rfl,g3,_,_,rfl,rfl,rfl⟩
    ·rename_i hf
     obtain ⟨hc,_,⟨_,g2⟩|⟨j,y,e,g1,_⟩⟩:=fm hT hik hr he hf
     ·obtain ⟨zv,hz,hzr⟩:=(hT et ie hie).zeroV
      cases h
      refine ⟨kt,et,_,zv,false,hu,?_,Z,hc,.inr ⟨Z,g2,hz⟩⟩
      cases ok
      ·exact hzr φ
      ·exact ⟨[zv,.bool false],rfl,_,_,rfl,hzr φ,_,_,rfl,rfl,rfl⟩
     ·cases g1
    ·cases h
   ·cases h
  ·cases h
 ·cases h
theorem iO {n:Nat} {s:ByteArray} (h:n≤s.data.toList.length):∀(es:List (EV × EV)) (i:Nat),vK n es=true→iY (.s s) es i=none
 |[],_,_=>rfl
 |x::es,i,hk=>by
  unfold vK at hk
  simp only[qz] at hk
  unfold iY
  have:fO (.s s) x.1=false:=by
   obtain ⟨k1,_⟩:=hk
   split at k1
   ·rename_i y e
    rw[e]
    show mh s y=false
    rw[fD]
    refine qy fun q=>?_
    have:=Nat.le_of_ble_eq_true k1
    rw[q] at h
    omega
   ·cases k1
  rw[this]
  exact iO h es (i+1) hk.2
theorem xl {T:TT} {t:Nat} {es:List (EV × EV)} {n:Nat} {s s':ByteArray} {ok:Bool} (h:n≤s.data.toList.length) (h':n≤s'.data.toList.length) (hk:vK n es=true):fE T t es (.s s) ok=fE T t es (.s s') ok:=by
 have e:∀(kt:Nat) (i:TI),iZ T kt i (.s s) es=iZ T kt i (.s s') es:=fun kt i=>by
  unfold iZ
  rw[iO h es 0 hk,iO h' es 0 hk]
  cases i.d<;>rfl
 unfold fE
 simp only[e]
theorem oN (hT:b8 P T) {t:Nat} {es:List (EV × EV)} {ms:List MapEntry} {k:EV} {kv:Value} {ok:Bool} {x:EV} (h:iN T t es k ok=some x) (hr:aQ φ k kv) (he:b7 φ es ms) :
  ∃kt et v u ok',P.underlying t=some (.map kt et)∧aQ φ x v∧v=(if ok then .tuple #[u,.bool ok'] else u) ∧
   (∀w b,(Instr.checkKey b 10000 kt kv).run P w=.ok () w)∧((∃j,ok'=true∧∀w,(Instr.findKey kt kv ms).run P w=.ok (some (j,u)) w)∨(ok'=false∧(∀w,(Instr.findKey kt kv ms).run P w=.ok none w)∧∀w,(zeroValue et).run P w=.ok u w)):=by
 unfold iN at h
 split at h
 ·rename_i lo hi
  cases hk:vK lo es with
  |false=>rw[hk] at h;cases h
  |true=>
   rw[hk] at h
   obtain ⟨s,rfl,h1,_⟩:=hr
   rw[cond_true,xl (s':=s) (by simp) h1 hk] at h
   exact mQ hT h (show aQ φ (.s s) _ from rfl) he
 ·exact mQ hT h hr he
theorem cy.readM (h:cy I φ H nx F E w) {k:Nat} {es:List (EV × EV)} (hk:H.get k=some (.mp es)) {q:rp} (hq:φ k=some q):∃(ms:List MapEntry) (c:Nat),b7 φ es ms∧w.heap[q.r]?=some (.map ms.toArray c):=by
 obtain ⟨A,L,⟨q',ms,h1,h2,rfl⟩,_,hS⟩:=h.pick hk
 rw[hq] at h1;cases h1
 exact ⟨ms,_,h2.1,hS.own _ (.head _)⟩
theorem AJ (hT:b8 P T) (hg:dz φ g ρ) (hR:cy I φ H nx F E w) {o:Oper} {x:EV} (h:CT T g H o.op=some x):∃v,(execOp (ev ρ) o).run P w=.ok (.value v) w∧aQ φ x v:=by
 obtain ⟨dst,op,ty,pos,af,gu⟩:=o
 dsimp only at h
 unfold CT at h
 split at h
 ·split at h
  ·rename_i hx
   obtain ⟨v,h1,h2⟩:=mM hT hR h (aL hg hx)
   exact ⟨v,eK h1,h2⟩
  ·cases h
 ·rename_i t x' y ok
  split at h
  ·rename_i b k hx hy
   obtain ⟨q,hq,hxv⟩:=aL hg hx
   have hyv:=aL hg hy
   split at h
   ·rename_i es hes
    obtain ⟨ms,c,hm,hb⟩:=hR.readM hes hq
    obtain ⟨kt,et,v,u,ok',hu,hv,he,hc,hf⟩:=oN hT h hyv hm
    refine ⟨v,?_,hv⟩
    have hc:=hc w ms.isEmpty
    rcases hf with ⟨j,rfl,hf⟩|⟨rfl,hf,hz⟩
    ·have hf:=hf w
     simp[execOp,Instr.lookup,run_underlying hu,hxv,MapKept.run_getObj_map hb,hc,hf,Result.andThen,he]
    ·have hf:=hf w
     simp[execOp,Instr.lookup,run_underlying hu,hxv,MapKept.run_getObj_map hb,hc,hf,hz,Result.andThen,he]
   ·cases h
  ·rename_i k hx hy
   have hxv:ev ρ x'=.map none:=aL hg hx
   have hyv:=aL hg hy
   obtain ⟨kt,et,v,u,ok',hu,hv,he,hc,hf⟩:=oN (ms:=[]) hT h hyv rfl
   refine ⟨v,?_,hv⟩
   have hc:=hc w true
   rcases hf with ⟨j,rfl,hf⟩|⟨rfl,hf,hz⟩
   ·have hf:=hf w
    simp[execOp,Instr.lookup,run_underlying hu,hxv,hc,hf,Result.andThen,he]
   ·have hf:=hf w
    simp[execOp,Instr.lookup,run_underlying hu,hxv,hc,hf,hz,Result.andThen,he]
  ·cases h
 ·split at h
  ·rename_i hx
   obtain ⟨v,h1,h2⟩:=pX hT hR h (aL hg hx)
   exact ⟨v,eK h1,h2⟩
  ·cases h
 ·split at h
  ·rename_i ar ts _ _ x' t h1 h2
   have h1:=vF h1
   have h2:=vF h2
   subst h1 h2
   split at h
   ·rename_i b i hx hi
    obtain ⟨q,hq,hxv⟩:=aL hg hx
    have hu:=(hT t i hi).und
    split at h
    ·rename_i es hd hes
     rw[hd] at hu
     cases h
     obtain ⟨ms,c,hm,hb⟩:=hR.readM hes hq
     have hl:ms.length=es.length:=by
      clear hb hes
      induction es generalizing ms with
      |nil=>have hm:ms=[]:=hm;rw[hm];rfl
      |cons e es ih=>obtain ⟨e',r,rfl,_,_,h3⟩:=hm;simp[ih r h3]
     refine ⟨.int .i64 es.length,?_,Z⟩
     simp[execOp,resolve,hxv,invoke,builtin,Builtin.len_,run_underlying hu,goInt,MapKept.run_getObj_map hb,hl]
    ·cases h
   ·rename_i i hx hi
    have hxv:ev ρ x'=.map none:=aL hg hx
    have hu:=(hT t i hi).und
    split at h
    ·rename_i hd
     rw[hd] at hu
     cases h
     refine ⟨.int .i64 0,?_,Z⟩
     simp[execOp,resolve,hxv,invoke,builtin,Builtin.len_,run_underlying hu,goInt]
    ·cases h
   ·cases h
  ·cases h
 ·cases h
theorem xm (hT:b8 P T) (hg:dz φ g ρ) (hR:cy I φ H nx F E w) {o:Oper} {x:EV} (h:DW T g H o.op=some x):∃v,(execOp (ev ρ) o).run P w=.ok (.value v) w∧aQ φ x v:=AJ hT hg hR (CU T g H o.op▸h)
end
end
section
open Go.Proofs
def oO (n:Nat) (z:List EV):List EV:=(List.replicate n z).flatten
noncomputable def CV (T:TT) (g:Nat→EV) (k:Nat) (op:Op):Option (EV × VO):=
 match op with
 |.alloc t=>match T t with
  |some i=>some (.p k 0,.cells true i.z)
  |none=>none
 |.box _ x=>match bN g x with
  |some a=>bif a.sto&&a.cs.all EV.cell then some (.p k 0,.cells true a.cs) else none
  |none=>none
 |.buildSlice t n ps=>match T t with
  |some i=>match i.d with
   |.slice e=>match T e,lX (fun p:Nat × Operand=>bN g p.2) ps.toList with
    |some ie,some vs=>bif Nat.blt 0 (n*ie.size)&&Nat.ble (n*ie.size) 16777216 then
      match lI (fun j=>some (j*ie.size,ie.size)) (oO n ie.z) ((ps.toList.map (·.1)).zip vs) with
      |some rs=>bif rs.all EV.cell&&Nat.beq rs.length (n*ie.size) then some (.sl k 0 n ie.size (.ex n),.cells true rs) else none
      |none=>none
     else bif Nat.beq n 0&&ps.toList.isEmpty then some (.sl k 0 0 ie.size (.ex 0),.cells true []) else none
    |_,_=>none
   |_=>none
  |none=>none
 |.makeSlice t x y=>match T t,bN g x,bN g y with
  |some i,some (.i _ l),some (.i _ c)=>match i.d,gi l,gi c with
   |.slice e,some l,some c=>match T e with
    |some ie=>bif Nat.blt 0 ie.size&&Nat.ble l c&&Nat.ble (ie.bytes*c) 281474976710656&&Nat.ble c 281474976710656 then some (.sl k 0 l ie.size (.ex c),.cells true (oO c ie.z)) else none
    |none=>none
   |_,_,_=>none
  |_,_,_=>none
 |.makeMap _ none=>some (.m k,.mp [])
 |.range t x=>match T t,bN g x with
  |some i,some (.s s)=>match i.d with
   |.string=>some (.p k 0,.it s 0)
   |_=>none
  |_,_=>none
 |_=>none
noncomputable def DX (T:TT) (k:Nat) (t:TypeId):Option (EV × VO):=match T t with
 |some i=>some (.p k 0,.cells true i.z)
 |none=>none
noncomputable def DY (g:Nat→EV) (k:Nat) (x:Operand):Option (EV × VO):=match bN g x with
 |some a=>bif a.sto&&a.cs.all EV.cell then some (.p k 0,.cells true a.cs) else none
 |none=>none
noncomputable def DZ (T:TT) (g:Nat→EV) (k:Nat) (t:TypeId) (n:Nat) (ps:Array (Nat × Operand)):Option (EV × VO):=match T t with
 |some i=>match i.d with
  |.slice e=>match T e,lX (fun p:Nat × Operand=>bN g p.2) ps.toList with
   |some ie,some vs=>bif Nat.blt 0 (n*ie.size)&&Nat.ble (n*ie.size) 16777216 then
     match lI (fun j=>some (j*ie.size,ie.size)) (oO n ie.z) ((ps.toList.map (·.1)).zip vs) with
     |some rs=>bif rs.all EV.cell&&Nat.beq rs.length (n*ie.size) then some (.sl k 0 n ie.size (.ex n),.cells true rs) else none
     |none=>none
    else bif Nat.beq n 0&&ps.toList.isEmpty then some (.sl k 0 0 ie.size (.ex 0),.cells true []) else none
   |_,_=>none
  |_=>none
 |none=>none
noncomputable def D0 (T:TT) (g:Nat→EV) (k:Nat) (t:TypeId) (x y:Operand):Option (EV × VO):=match T t,bN g x,bN g y with
 |some i,some (.i _ l),some (.i _ c)=>match i.d,gi l,gi c with
  |.slice e,some l,some c=>match T e with
   |some ie=>bif Nat.blt 0 ie.size&&Nat.ble l c&&Nat.ble (ie.bytes*c) 281474976710656&&Nat.ble c 281474976710656 then some (.sl k 0 l ie.size (.ex c),.cells true (oO c ie.z)) else none
   |none=>none
  |_,_,_=>none
 |_,_,_=>none
noncomputable def D1 (k:Nat) (r:Option Operand):Option (EV × VO):=match r with
 |none=>some (.m k,.mp [])
 |_=>none
noncomputable def D2 (T:TT) (g:Nat→EV) (k:Nat) (t:TypeId) (x:Operand):Option (EV × VO):=match T t,bN g x with
 |some i,some (.s s)=>match i.d with
  |.string=>some (.p k 0,.it s 0)
  |_=>none
 |_,_=>none
noncomputable def Dj (T:TT) (g:Nat→EV) (k:Nat) (op:Op):Option (EV × VO):=
 match op with
 |.alloc t=>DX T k t
 |.box _ x=>DY g k x
 |.buildSlice t n ps=>DZ T g k t n ps
 |.makeSlice t x y=>D0 T g k t x y
 |.makeMap _ r=>D1 k r
 |.range t x=>D2 T g k t x
 |_=>none
theorem CW (T:TT) (g:Nat→EV) (k:Nat) (op:Op):Dj T g k op=CV T g k op:=by
 cases op<;>try rfl
 case makeMap t r=>cases r<;>rfl
section
variable {P:Program} {φ:bV} {g:Nat→EV} {ρ:bF} {w:World} {T:TT} {I:aJ} {H:Hp} {k nx:Nat} {F L:List (Nat × Obj)} {E:World}
theorem ir {r:Nat} {vs:List Value} {cs:List EV} {t:TypeId} (h:RelVs φ cs vs) (h1:∀u∈vs,u.oneCell'=true) (hk:φ k=none):eG I (φ.put k ⟨r,0,vs.length⟩) k (.cells true cs) [(r,.cells vs.toArray t (0,0))]:=
 ⟨⟨r,0,vs.length⟩,t,vs,[],yy _ _ _,rfl,h.mono (qf hk _),by simpa using h1,by simp,fun _=>rfl,by simp⟩
theorem RelVs.flatR {z:List EV} {vs:List Value} (h:RelVs φ z vs):∀n,RelVs φ (oO n z) (List.replicate n vs).flatten
 |0=>rfl
 |n+1=>by
  unfold oO
  rw[List.replicate_succ,List.replicate_succ,List.flatten_cons,List.flatten_cons]
  exact h.append (RelVs.flatR h n)
theorem nu.cell1 {t:TypeId} {i:TI} (h:nu P t i) {zv:Value} (hz:∀φ,RelVs φ i.z zv.cells.toList):∀u∈zv.cells.toList,u.oneCell'=true:=EV.cells_rel (hz fun _=>none) h.z1
theorem pY {t e:TypeId} {ty:TypeId} {pos:String} {af:Array Edge} {gu:Option (Nat × Bool)} {d:Option Nat} {n:Nat} (hu:P.underlying t=some (.slice e)) (hs:∀w,(sizeOf e).run P w=.ok n w) :
  (execOp (ev ρ) (Oper.mk d (.buildSlice t 0 #[]) ty pos af gu)).run P w=.ok (.value (.slice (some ⟨w.heap.size,0,none⟩) 0 0)) (w.alloc (.cells #[] e)):=by
 simp[execOp,Instr.buildSlice,run_underlying hu,hs,Instr.fill,newRow]
 congr 2
 exact Array.eq_empty_of_size_eq_zero (by simp)
theorem AK (hT:b8 P T) (hg:dz φ g ρ) {o:Oper} {x:EV} {vo:VO} (h:CV T g k o.op=some (x,vo)) (hk:φ k=none) (hS:SL I L E w) :
  ∃v w' q A,(execOp (ev ρ) o).run P w=.ok (.value v) w'∧aQ (φ.put k q) x v∧eG I (φ.put k q) k vo A∧SL I (A++L) E w':=by
 obtain ⟨dst,op,ty,pos,af,gu⟩:=o
 dsimp only at h
 unfold CV at h
 split at h
 ·rename_i t
  split at h
  ·rename_i i hi
   simp only[Option.some.injEq,Prod.mk.injEq] at h
   obtain ⟨rfl,rfl⟩:=h
   obtain ⟨zv,hz,hzr,_⟩:=(hT t i hi).zero
   have hz1:=(hT t i hi).cell1 hzr
   refine ⟨.pointer (some ⟨w.heap.size,0,none⟩),w.alloc (.cells zv.cells t),⟨w.heap.size,0,zv.cells.toList.length⟩,[(w.heap.size,.cells zv.cells.toList.toArray t (0,0))],?_,⟨_,yy _ _ _,Z⟩,ir (hzr φ) hz1 hk,?_⟩
   ·simp[execOp,Instr.alloc,hz,el]
   ·rw[Array.toArray_toList];exact hS.alloc _
  ·cases h
 ·rename_i t x'
  split at h
  ·rename_i a hx
   cases hb:(a.sto&&a.cs.all EV.cell) with
   |false=>rw[hb] at h;cases h
   |true=>
    rw[hb] at h
    simp only[cond_true,Option.some.injEq,Prod.mk.injEq] at h
    obtain ⟨rfl,rfl⟩:=h
    simp only[qz] at hb
    have hr:=EV.cs_rel (aL hg hx) hb.1
    have h1:=EV.cells_rel hr hb.2
    refine ⟨.pointer (some ⟨w.heap.size,0,none⟩),w.alloc (.cells (ev ρ x').cells t),⟨w.heap.size,0,(ev ρ x').cells.toList.length⟩,[(w.heap.size,.cells (ev ρ x').cells.toList.toArray t (0,0))],?_,⟨_,yy _ _ _,Z⟩,ir hr h1 hk,?_⟩
    ·simp[execOp,Instr.box,el]
    ·rw[Array.toArray_toList];exact hS.alloc _
  ·cases h
 ·rename_i t n ps
  split at h
  ·rename_i i hi
   split at h
   ·rename_i e hd
    have hu:=hd▸(hT t i hi).und
    split at h
    ·rename_i ie vs hie hvs
     have hTe:=hT e ie hie
     obtain ⟨zv,hz,hzr,hzs⟩:=hTe.zero
     have hz1:=hTe.cell1 hzr
     have hpr:=gr (φ:=φ) (g:=fun p:Nat × Operand=>ev ρ p.2) (fun p a hp=>aL hg hp) ps.toList vs hvs
     have epar:(ps.map fun p=>(p.1,ev ρ p.2)).toList=ps.toList.map fun p=>(p.1,ev ρ p.2):=by simp
     cases hb:(Nat.blt 0 (n*ie.size)&&Nat.ble (n*ie.size) 16777216) with
     |true=>
      rw[hb] at h
      simp only[cond_true] at h
      simp only[qz] at hb
      have b1:0<n*ie.size:=Nat.le_of_ble_eq_true hb.1
      have b2:=Nat.le_of_ble_eq_true hb.2
      split at h
      ·rename_i rs hrs
       cases hb3:(rs.all EV.cell&&Nat.beq rs.length (n*ie.size)) with
       |false=>rw[hb3] at h;cases h
       |true=>
        rw[hb3] at h
        simp only[cond_true,Option.some.injEq,Prod.mk.injEq] at h
        obtain ⟨rfl,rfl⟩:=h
        simp only[qz] at hb3
        have b4:=Nat.eq_of_beq_eq_true hb3.2
        have hzl:zv.cells.toList.length=ie.size:=by rw[Array.length_toList];exact hzs
        have hmc:madeCells zv.cells (n*ie.size)=(List.replicate n zv.cells.toList).flatten.toArray:=by
         have:=gj zv.cells.toList n (by rw[hzl];exact Nat.pos_of_ne_zero fun e=>by rw[e,Nat.mul_zero] at b1;omega) hz1
         rw[hzl,Array.toArray_toList] at this
         exact this
        have hl:(ps.toList.map (·.1)).length=vs.length:=by have:=hpr.length;simp at this ⊢;exact this
        obtain ⟨vc,f1,f2⟩:=iq (place:=fun j=>some (j*ie.size,ie.size)) (ps.toList.map fun p=>(p.1,ev ρ p.2)) _ (oO n ie.z) (madeCells zv.cells (n*ie.size)) rs (by rw[kw _ _ hl,List.map_map];rfl) (by rw[kx _ _ hl,List.map_map];exact hpr) (by rw[hmc];exact (hzr φ).flatR n) hrs
        have h1:=EV.cells_rel f2 hb3.1
        have hvl:vc.toList.length=n*ie.size:=by rw[f2.length,b4]
        have hrun:(Instr.buildSlice t n (ps.map fun p=>(p.1,ev ρ p.2))).run P w=.ok (.slice (some ⟨w.heap.size,0,none⟩) n n) (w.alloc (.cells vc e)):=by
         unfold Instr.buildSlice
         simp only[Sem.run_bind,Result.andThen_ok,run_underlying hu,hTe.sz]
         rw[if_neg (by omega)]
         have f1':Instr.fill (fun i=>some (i*ie.size,ie.size)) ((Array.range (n*ie.size)).map (zv.cells[·% zv.cells.size]!)) (ps.map fun p=>(p.1,ev ρ p.2)).toList=some vc:=by rw[epar];exact f1
         simp only[Sem.run_pure,Result.andThen_ok,if_neg (by omega:¬n*ie.size=0),Sem.run_bind,hz,f1',newRow]
         simp
        refine ⟨.slice (some ⟨w.heap.size,0,none⟩) n n,w.alloc (.cells vc e),⟨w.heap.size,0,vc.toList.length⟩,[(w.heap.size,.cells vc.toList.toArray e (0,0))],eK hrun,⟨_,0,n,yy _ _ _,Z,Nat.le_refl _,fun _=>Z,Z⟩,ir f2 h1 hk,?_⟩
        rw[Array.toArray_toList];exact hS.alloc _
      ·cases h
     |false=>
      rw[hb] at h
      simp only[cond_false] at h
      cases hb3:(Nat.beq n 0&&ps.toList.isEmpty) with
      |false=>rw[hb3] at h;cases h
      |true=>
       rw[hb3] at h
       simp only[cond_true,Option.some.injEq,Prod.mk.injEq] at h
       obtain ⟨rfl,rfl⟩:=h
       simp only[qz] at hb3
       have b4:=Nat.eq_of_beq_eq_true hb3.1
       subst b4
       have hps:ps=#[]:=Array.toList_inj.1 (List.isEmpty_iff.1 hb3.2)
       subst hps
       refine ⟨.slice (some ⟨w.heap.size,0,none⟩) 0 0,w.alloc (.cells #[] e),⟨w.heap.size,0,0⟩,[(w.heap.size,.cells ([]:List Value).toArray e (0,0))],pY hu hTe.sz,⟨_,0,0,yy _ _ _,Z,Nat.le_refl _,fun _=>Z,Z⟩,ir (vs:=[]) Z (by simp) hk,hS.alloc _⟩
    ·cases h
   ·cases h
  ·cases h
 ·rename_i t x' y'
  split at h
  ·rename_i i k1 l k2 c hi hx hy
   have hx:ev ρ x'=.int k1 l:=aL hg hx
   have hy:ev ρ y'=.int k2 c:=aL hg hy
   split at h
   ·rename_i e l' c' hd hl hc
    have hl:=eJ hl
    have hc:=eJ hc
    subst hl hc
    have hu:=hd▸(hT t i hi).und
    split at h
    ·rename_i ie hie
     have hTe:=hT e ie hie
     cases hb:(Nat.blt 0 ie.size&&Nat.ble l' c'&&Nat.ble (ie.bytes*c') 281474976710656&&Nat.ble c' 281474976710656) with
     |false=>rw[hb] at h;cases h
     |true=>
      rw[hb] at h
      simp only[cond_true,Option.some.injEq,Prod.mk.injEq] at h
      obtain ⟨rfl,rfl⟩:=h
      simp only[qz] at hb
      have b1:0<ie.size:=Nat.le_of_ble_eq_true hb.1.1.1
      have b2:=Nat.le_of_ble_eq_true hb.1.1.2
      have b3:=Nat.le_of_ble_eq_true hb.1.2
      have b4:=Nat.le_of_ble_eq_true hb.2
      obtain ⟨f,zv,f1,f2,f3,f4,f5,_⟩:=hTe.inf
      have hz1:=hTe.cell1 f5
      have hzl:zv.cells.toList.length=ie.size:=by rw[(f5 φ).length,hTe.zl]
      have hrun:=run_make (P:=P) w t e f zv hu f1 f4 k1 k2 l' c' (by omega) (by omega) (by rw[f3,←Int.natCast_mul];omega) (by omega)
      have hmc:madeCells zv.cells (c'*ie.size)=(List.replicate c' zv.cells.toList).flatten.toArray:=by
       have:=gj zv.cells.toList c' (by omega) hz1
       rw[hzl,Array.toArray_toList] at this
       exact this
      rw[Int.toNat_natCast,Int.toNat_natCast,f2,hmc] at hrun
      have hr:=(f5 φ).flatR c'
      have hlen:(List.replicate c' zv.cells.toList).flatten.length=c'*ie.size:=by simp[hzl]
      refine ⟨.slice (some ⟨w.heap.size,0,none⟩) l' c',_,⟨w.heap.size,0,(List.replicate c' zv.cells.toList).flatten.length⟩,[(w.heap.size,.cells (List.replicate c' zv.cells.toList).flatten.toArray e (0,0))],?_,⟨_,0,c',yy _ _ _,Z,b2,fun _=>Z,Z⟩,ir hr (fun u hu=>?_) hk,hS.alloc _⟩
      ·refine eK ?_
       rw[hx,hy];exact hrun
      ·obtain ⟨r,hr,hu⟩:=List.mem_flatten.1 hu
       rw[List.eq_of_mem_replicate hr] at hu
       exact hz1 u hu
    ·cases h
   ·cases h
  ·cases h
 ·simp only[Option.some.injEq,Prod.mk.injEq] at h
  obtain ⟨rfl,rfl⟩:=h
  refine ⟨.map (some w.heap.size),w.alloc (.map #[] 0),⟨w.heap.size,0,0⟩,[(w.heap.size,.map #[] 0)],?_,⟨_,yy _ _ _,Z⟩,⟨_,[],yy _ _ _,⟨Z,fun _ _ h=>by cases h⟩,Z⟩,hS.alloc _⟩
  simp only[execOp,Option.map_none]
  rw[Sem.run_bind,run_makeMap_plain];rfl
 ·rename_i t x'
  split at h
  ·rename_i i s hi hx
   have hx:ev ρ x'=.string s:=aL hg hx
   split at h
   ·rename_i hd
    have hu:=hd▸(hT t i hi).und
    simp only[Option.some.injEq,Prod.mk.injEq] at h
    obtain ⟨rfl,rfl⟩:=h
    refine ⟨.pointer (some ⟨w.heap.size,0,none⟩),w.alloc (.stringIter s 0),⟨w.heap.size,0,0⟩,[(w.heap.size,.stringIter s 0)],?_,⟨_,yy _ _ _,Z⟩,⟨_,yy _ _ _,Z,Z⟩,hS.alloc _⟩
    simp[execOp,Instr.range,hx,run_underlying hu]
   ·cases h
  ·cases h
 ·cases h
theorem xn (hT:b8 P T) (hg:dz φ g ρ) {o:Oper} {x:EV} {vo:VO} (h:Dj T g k o.op=some (x,vo)) (hk:φ k=none) (hS:SL I L E w) :
  ∃v w' q A,(execOp (ev ρ) o).run P w=.ok (.value v) w'∧aQ (φ.put k q) x v∧eG I (φ.put k q) k vo A∧SL I (A++L) E w':=AK hT hg (CW T g k o.op▸h) hk hS
end
end
section
open Go.Proofs
def di (φ:bV) (I:aJ) (F:List (Nat × Obj)) (E:World) (k nx:Nat) (x:EV) (H:Hp) (nx':Nat) (v:Value) (w:World):Prop:=
 ∃J ψ,I.le J∧φ.le ψ∧(∀j,j<nx→j≠k→ψ j=φ j)∧nx≤nx'∧aQ ψ x v∧cy J ψ H nx' F E w
section
variable {φ:bV} {I:aJ} {H:Hp} {k nx:Nat} {F L A:List (Nat × Obj)} {E w w':World} {o:VO} {q:rp}
theorem cy.freshN (h:cy I φ H nx F E w) (hk:φ k=none):∃L,mf I φ H k L∧SL I (L++F) E w:=by
 obtain ⟨M,L,hn,hm,hr,hS⟩:=h.ex
 refine ⟨L,⟨M,hn,fun j o'=>?_,hr⟩,hS⟩
 rw[←hm j o']
 refine ⟨fun hj=>⟨fun e=>?_,hj⟩,fun hj=>hj.2⟩
 obtain ⟨q,hq⟩:=hr.phi _ hj
 subst e
 rw[hk] at hq;cases hq
theorem gP (φ:bV) (q:rp) {j:Nat} (h:j≠k):φ.put k q j=φ j:=if_neg h
theorem iv (h:∀j,nx≤j→φ j=none) (hk:k<nx) (q:rp):∀j,nx≤j→φ.put k q j=none:=fun j hj=>by rw[gP φ q (by omega)];exact h j hj
theorem cy.addB (h:cy I φ H nx F E w) (hk:φ k=none) (hx:k<nx) {x:EV} {v:Value} (hv:aQ (φ.put k q) x v) (hb:eG I (φ.put k q) k o A) (hS:∀L,SL I (L++F) E w→SL I (A++(L++F)) E w'):di φ I F E k nx x (H.set k (some o)) nx v w':=by
 obtain ⟨L,hr,hS0⟩:=h.freshN hk
 exact ⟨I,φ.put k q,.refl _,qf hk q,fun j _ hj=>gP φ q hj,Nat.le_refl _,hv,qe (hr.mono (.refl _) (qf hk q)) hb (hS L hS0) (iv h.top hx q)⟩
theorem cy.stay (h:cy I φ H nx F E w) {x:EV} {v:Value} (hv:aQ φ x v):di φ I F E k nx x H nx v w:=⟨I,φ,.refl _,.refl _,fun _ _ _=>rfl,Nat.le_refl _,hv,h⟩
end
section
variable {φ:bV} {I:aJ} {H:Hp} {k b:Nat} {L:List (Nat × Obj)}
theorem mf.moved (h:mf I φ H b L) (hk:φ k=none):mf I φ (H.set b none) k L:=by
 obtain ⟨M,hn,hm,hr⟩:=h
 refine ⟨M,hn,fun j o=>?_,hr⟩
 rw[hm j o,Tr.get_set]
 constructor
 ·rintro ⟨h1,h2⟩
  refine ⟨fun e=>?_,by rw[if_neg h1];exact h2⟩
  obtain ⟨q,hq⟩:=hr.phi _ ((hm j o).2 ⟨h1,h2⟩)
  subst e
  rw[hk] at hq;cases hq
 ·rintro ⟨_,h2⟩
  by_cases e:j=b
  ·rw[if_pos e] at h2;cases h2
  ·rw[if_neg e] at h2;exact ⟨e,h2⟩
end
def iy:Nat:=140737488355328
noncomputable def rF (H:Hp) (y:EV) (size:Nat):Option (Nat × List EV):=
 match y with
 |.ns=>some (0,[])
 |.sl b off m k _=>bif Nat.beq k size then (cellsOf H b off (m*size)).map fun l=>(m,l) else none
 |_=>none
def B4 (n:Nat):Cp→Bool
 |.ex cap=>Nat.ble n cap
 |.en=>true
 |.un=>false
noncomputable def rH (T:TT) (H:Hp) (k t:Nat) (x y:EV):Option (EV × Hp):=
 match T t with
 |some i=>match i.d with
  |.slice e=>match T e with
   |some ie=>match rF H y ie.size with
    |some (m,news)=>match x with
     |.ns=>bif Nat.beq m 0 then some (.ns,H) else bif Nat.ble (m*ie.bytes) iy&&Nat.ble m iy then some (.sl k 0 m ie.size .en,H.set k (some (.cells false news))) else none
     |.sl b off n k' c=>bif Nat.beq m 0 then some (.sl b off n k' c,H) else
      bif Nat.beq k' ie.size&&Nat.blt 0 ie.size&&Nat.ble ((n+m)*ie.bytes) iy&&Nat.ble (n+m) iy then
       match H.get b with
       |some (.cells ex cs)=>bif B4 (n+m) c&&Nat.ble (off+(n+m)*ie.size) cs.length then
         some (.sl b off (n+m) k' c,H.set b (some (.cells ex (cs.take (off+n*ie.size)++news++cs.drop (off+(n+m)*ie.size)))))
        else match c with
         |.ex cap=>bif Nat.blt cap (n+m)&&Nat.ble (off+n*ie.size) cs.length then some (.sl k 0 (n+m) ie.size .en,H.set k (some (.cells false ((cs.drop off).take (n*ie.size)++news)))) else none
         |.en=>bif Nat.beq off 0&&Nat.beq (n*ie.size) cs.length then some (.sl k 0 (n+m) ie.size .en,(H.set b none).set k (some (.cells false (cs++news)))) else none
         |.un=>none
       |some (.kn cs)=>match c with
        |.ex cap=>bif Nat.blt cap (n+m)&&Nat.ble (off+n*ie.size) cs.length then some (.sl k 0 (n+m) ie.size .en,H.set k (some (.cells false ((cs.drop off).take (n*ie.size)++news)))) else none
        |_=>none
       |_=>none
      else none
     |_=>none
    |none=>none
   |none=>none
  |_=>none
 |none=>none
section
variable {P:Program} {φ:bV} {w:World} {T:TT} {I:aJ} {H:Hp} {k nx:Nat} {F:List (Nat × Obj)} {E:World} {t e ty:TypeId}
theorem lL (hR:cy I φ H nx F E w) {y:EV} {size m:Nat} {news:List EV} (h:rF H y size=some (m,news)) {c:Value} (hy:aQ φ y c) :
  ∃sa c2 nv,c=.slice sa m c2∧RelVs φ news nv∧nv.length=m*size∧(∀u∈nv,u.oneCell'=true)∧((sa=none∧m=0)∨∃sp,sa=some sp∧∀(j:Nat) u,nv[j]?=some u→w.cell? (sp.add j)=some u):=by
 unfold rF at h
 split at h
 ·cases h
  exact ⟨none,0,[],hy,rfl,by simp,by simp,.inl ⟨rfl,rfl⟩⟩
 ·rename_i b off m' k' cp
  cases hb:Nat.beq k' size with
  |false=>rw[hb] at h;cases h
  |true=>
   rw[hb] at h
   obtain ⟨l,hl,he⟩:=Option.map_eq_some_iff.1 h
   cases he
   obtain ⟨q,o,cap,hq,rfl,h1,h2,_⟩:=hy
   obtain ⟨vs,g1,g2,g3,g4⟩:=eL hR hl hq
   refine ⟨_,cap,vs,Z,g1,g2,g3,.inr ⟨_,Z,fun j u hj=>?_⟩⟩
   have hjl:=(List.getElem?_eq_some_iff.1 hj).1
   have hm0:cap≠0:=fun e=>by
    have:m=0:=by omega
    rw[g2,this,Nat.zero_mul] at hjl;omega
   rw[bv,h2 hm0]
   exact g4 j u hj
 ·cases h
theorem fP {i:TypeInfo} (ht:P.underlying t=some (.slice e)) (hi:P.info? e=some i) {a sa:Option Addr} {n cap c:Nat} (h:n≤cap) (h0:a=none→n=0∧cap=0) :
  (Builtin.append_ #[t,t] ty #[.slice a n cap,.slice sa 0 c]).run P w=.ok (.slice a n cap) w:=by
 cases a with
 |none=>
  obtain ⟨rfl,rfl⟩:=h0 rfl
  cases sa<;>simp[Builtin.append_,run_underlying ht,sizeOf,typeInfo,hi,Builtin.lenOf,Builtin.firstCells,loadCells,loadCellsFrom,storeCells]
 |some p=>cases sa<;>simp[Builtin.append_,run_underlying ht,sizeOf,typeInfo,hi,Builtin.lenOf,Builtin.firstCells,h,loadCells,loadCellsFrom,storeCells]
theorem fp {i:TypeInfo} (ht:P.underlying t=some (.slice e)) (hi:P.info? e=some i) {g off n cap m c:Nat} {S:TypeId} {cur:Array Value} (hg:w.heap[g]?=some (.cells cur S (0,0))) {a:Addr} {news:List Value}
  (hl:news.length=m*i.size) (hn:∀(j:Nat) u,news[j]?=some u→w.cell? (a.add j)=some u) (h1:∀u∈news,u.oneCell'=true) (hroom:n+m≤cap) (hfit:off+n*i.size+news.length≤cur.size) :
  (Builtin.append_ #[t,t] ty #[.slice (some ⟨g,off,none⟩) n cap,.slice (some a) m c]).run P w=.ok (.slice (some ⟨g,off,none⟩) (n+m) cap) (w.setRow g (cur.toList.take (off+n*i.size)++news++cur.toList.drop (off+n*i.size+news.length)).toArray):=by
 have hf:=run_firstCells_some (P:=P) w i.size m a m c news hl hn
 have hst:=run_storeCells_at P g (off+n*i.size) S news 0 cur w hg (by simpa using hfit) h1
 simp only[Nat.add_zero] at hst
 simp[Builtin.append_,run_underlying ht,sizeOf,typeInfo,hi,Builtin.lenOf,hroom,hf,bv,hst]
theorem vL {z:Array Value} {n:Nat}:(Builtin.zeroCells z n).size=n*z.size:=size_zeroCells z n
theorem rI {i:TypeInfo} {zv:Value} {ie:TI} (hTe:nu P e ie) (hi:P.info? e=some i) (hsz:i.size=ie.size) (hzr:∀φ,RelVs φ ie.z zv.cells.toList) (hR:cy I φ H nx F E w) (hk:φ k=none) (hkx:k<nx) {cs:List EV} {vs:List Value} {cap m:Nat}
  (hr:RelVs φ cs vs) (h1:∀u∈vs,u.oneCell'=true) (hl:vs.length=m*ie.size) (hc:m≤cap):di φ I F E k nx (.sl k 0 m ie.size .en) (H.set k (some (.cells false cs))) nx (.slice (some ⟨w.heap.size,0,none⟩) m cap) (w.drew.alloc (.cells (vs.toArray++Builtin.zeroCells zv.cells (cap - m)) e)):=by
 have hz1:=hTe.cell1 hzr
 have hzl:zv.cells.size=ie.size:=by have:=(hzr φ).length;rw[hTe.zl] at this;simpa using this
 have htot:(vs++(Builtin.zeroCells zv.cells (cap - m)).toList).length=cap*ie.size:=by
  rw[qu,hl,Array.length_toList,vL,hzl,←Nat.add_mul];congr 1;omega
 refine hR.addB (q:=⟨w.heap.size,0,cap*ie.size⟩) (A:=[(w.heap.size,.cells (vs++(Builtin.zeroCells zv.cells (cap - m)).toList).toArray e (0,0))]) hk hkx ⟨_,0,cap,yy _ _ _,rfl,hc,fun _=>rfl,by show 0+0+cap*ie.size=cap*ie.size;omega⟩
  ⟨_,e,vs,(Builtin.zeroCells zv.cells (cap - m)).toList,yy _ _ _,rfl,hr.mono (qf hk _),fun u hu=>?_,htot,(fun h=>by cases h),rfl⟩ fun L hS=>?_
 ·rcases List.mem_append.1 hu with hu|hu
  ·exact h1 u hu
  ·simp only[Builtin.zeroCells] at hu
   simp at hu
   obtain ⟨a,ha,rfl⟩:=hu
   have hp:a % zv.cells.size<zv.cells.size:=Nat.mod_lt _ (Nat.pos_of_ne_zero fun e=>by rw[e,Nat.mul_zero] at ha;omega)
   rw[getElem!_pos zv.cells (a % zv.cells.size) hp]
   exact hz1 _ (by simp)
 ·have h2:=hS.drew.alloc (.cells (vs.toArray++Builtin.zeroCells zv.cells (cap - m)) e)
  have he:(vs++(Builtin.zeroCells zv.cells (cap - m)).toList).toArray=vs.toArray++Builtin.zeroCells zv.cells (cap - m):=by apply Array.toList_inj.1;simp
  rw[he]
  exact h2
theorem xo (hT:b8 P T) (hR:cy I φ H nx F E w) (hk:φ k=none) (hkx:k<nx) {x y z:EV} {H':Hp} (h:rH T H k t x y=some (z,H')) {a c:Value} (hx:aQ φ x a) (hy:aQ φ y c) :
  ∃v w',(Builtin.append_ #[t,t] ty #[a,c]).run P w=.ok v w'∧di φ I F E k nx z H' nx v w':=by
 have hB:iy=140737488355328:=rfl
 unfold rH at h
 split at h
 ·rename_i i hi
  split at h
  ·rename_i e hd
   have ht:=hd▸(hT t i hi).und
   split at h
   ·rename_i ie hie
    have hTe:=hT e ie hie
    obtain ⟨f,zv,f1,f2,f3,f4,f5,_⟩:=hTe.inf
    split at h
    ·rename_i m news hnews
     obtain ⟨sa,c2,nv,rfl,n1,n2,n3,n4⟩:=lL hR hnews hy
     split at h
     ·have hx:a=.slice none 0 0:=hx
      subst hx
      cases hm:Nat.beq m 0 with
      |true=>
       rw[hm] at h
       simp only[cond_true,Option.some.injEq,Prod.mk.injEq] at h
       obtain ⟨rfl,rfl⟩:=h
       have hm:=Nat.eq_of_beq_eq_true hm
       subst hm
       exact ⟨_,w,fP ht f1 (Nat.le_refl _) (fun _=>⟨rfl,rfl⟩),hR.stay rfl⟩
      |false=>
       rw[hm] at h
       simp only[cond_false] at h
       have hm0:m≠0:=fun e=>by rw[e] at hm;cases hm
       cases hb:(Nat.ble (m*ie.bytes) iy&&Nat.ble m iy) with
       |false=>rw[hb] at h;cases h
       |true=>
        rw[hb] at h
        simp only[cond_true,Option.some.injEq,Prod.mk.injEq] at h
        obtain ⟨rfl,rfl⟩:=h
        simp only[qz] at hb
        have b1:=Nat.le_of_ble_eq_true hb.1
        have b2:=Nat.le_of_ble_eq_true hb.2
        rcases n4 with ⟨_,h0⟩|⟨sp,rfl,hat⟩
        ·exact absurd h0 hm0
        ·have hrun:=run_append_nil (P:=P) w t ty e f zv ht f1 f4 sp m c2 nv (by rw[n2,f2]) hat (by omega) (by omega) (by rw[f3];omega)
         exact ⟨_,_,hrun,rI hTe f1 f2 f5 hR hk hkx n1 n3 n2 (grownCap_ge _ _ _ _)⟩
     ·rename_i b off n k' cp
      obtain ⟨q,o,cap,hq,rfl,x1,x2,x3⟩:=hx
      cases hm:Nat.beq m 0 with
      |true=>
       rw[hm] at h
       simp only[cond_true,Option.some.injEq,Prod.mk.injEq] at h
       obtain ⟨rfl,rfl⟩:=h
       have hm:=Nat.eq_of_beq_eq_true hm
       subst hm
       exact ⟨_,w,fP ht f1 x1 (fun e=>by cases e),hR.stay ⟨q,o,cap,hq,rfl,x1,x2,x3⟩⟩
      |false=>
       rw[hm] at h
       simp only[cond_false] at h
       have hm0:m≠0:=fun e=>by rw[e] at hm;cases hm
       obtain ⟨sp,rfl,hat⟩:∃sp,sa=some sp∧∀(j:Nat) u,nv[j]?=some u→w.cell? (sp.add j)=some u:=by
        rcases n4 with ⟨_,h0⟩|h0
        ·exact absurd h0 hm0
        ·exact h0
       cases hb:(Nat.beq k' ie.size&&Nat.blt 0 ie.size&&Nat.ble ((n+m)*ie.bytes) iy&&Nat.ble (n+m) iy) with
       |false=>rw[hb] at h;cases h
       |true=>
        rw[hb] at h
        simp only[cond_true] at h
        simp only[qz] at hb
        have b0:=Nat.eq_of_beq_eq_true hb.1.1.1
        have b1:0<ie.size:=Nat.le_of_ble_eq_true hb.1.1.2
        have b2:=Nat.le_of_ble_eq_true hb.1.2
        have b3:=Nat.le_of_ble_eq_true hb.2
        subst b0
        have move:∀{cs:List EV},((H.get b).bind VO.cs?)=some cs→cap<n+m→Nat.ble (off+n*ie.size) cs.length=true →
          ∃v w',(Builtin.append_ #[t,t] ty #[.slice (some ⟨q.r,o,none⟩) n cap,.slice (some sp) m c2]).run P w=.ok v w'∧di φ I F E k nx (.sl k 0 (n+m) ie.size .en) (H.set k (some (.cells false ((cs.drop off).take (n*ie.size)++news)))) nx v w':=fun {cs} hcs hlt hle=>by
         obtain ⟨vs,g1,g2,g3,g4⟩:=eL (n:=n*ie.size) (off:=off) (l:=(cs.drop off).take (n*ie.size)) hR (by unfold cellsOf;rw[hcs];dsimp only;rw[hle];rfl) hq
         have hrun:=run_append_grow (P:=P) w t ty e f zv ht f1 f4 ⟨q.r,o,none⟩ n cap vs (by rw[g2,f2]) (fun j v hj=>by
          have hjl:=(List.getElem?_eq_some_iff.1 hj).1
          have hn0:n≠0:=fun e=>by rw[g2,e,Nat.zero_mul] at hjl;omega
          rw[bv,x2 (by omega)]
          exact g4 j v hj) sp m c2 nv (by rw[n2,f2]) hat hlt (by omega) (growslice_fits hlt (by rw[f3];omega))
         refine ⟨_,_,hrun,?_⟩
         have he:(vs.toArray++nv.toArray:Array Value)=(vs++nv).toArray:=by simp
         rw[he]
         exact rI hTe f1 f2 f5 hR hk hkx (g1.append n1) (fun u hu=>(List.mem_append.1 hu).elim (g3 u) (n3 u)) (by rw[qu,g2,n2,Nat.add_mul]) (grownCap_ge _ _ _ _)
        split at h
        ·rename_i ex cs hcs
         have hcs2:(H.get b).bind VO.cs?=some cs:=by rw[hcs];rfl
         cases hin:(B4 (n+m) cp&&Nat.ble (off+(n+m)*ie.size) cs.length) with
         |true=>
          rw[hin] at h
          simp only[cond_true,Option.some.injEq,Prod.mk.injEq] at h
          obtain ⟨rfl,rfl⟩:=h
          simp only[qz] at hin
          have i2:=Nat.le_of_ble_eq_true hin.2
          obtain ⟨A,L,hBb,hr,hS⟩:=hR.pick hcs
          obtain ⟨q',S,vs,junk,y1,y2,y3,y4,y5,y6,rfl⟩:=hBb
          rw[hq] at y1;cases y1
          have hown:=hS.own _ (.head _)
          simp only at hown
          have hmul:(n+m)*ie.size=n*ie.size+m*ie.size:=Nat.add_mul _ _ _
          have hvl:=y3.length
          have hcap:n+m≤cap:=by
           cases cp with
           |ex c3=>
            have x3:cap=c3:=x3
            have:=Nat.le_of_ble_eq_true hin.1
            omega
           |en=>
            have x3:q.sh+off+cap*ie.size=q.κ:=x3
            rw[qu] at y5
            have:(n+m)*ie.size≤cap*ie.size:=by omega
            exact Nat.le_of_mul_le_mul_right this b1
           |un=>cases hin.1
          have ho:o=off:=by rw[x2 (by omega),y2,Nat.zero_add]
          subst ho
          have hrun:=fp (P:=P) (ty:=ty) ht f1 (off:=o) (n:=n) (cap:=cap) (m:=m) (c:=c2) hown (by rw[n2,f2]) hat n3 hcap (by rw[f2,n2];simp;omega)
          rw[f2,n2] at hrun
          have hcells:(vs++junk).toArray.toList.take (o+n*ie.size)++nv++(vs++junk).toArray.toList.drop (o+n*ie.size+m*ie.size)=(vs.take (o+n*ie.size)++nv++vs.drop (o+(n+m)*ie.size))++junk:=by
           simp only
           rw[List.take_append_of_le_length (by omega),List.drop_append_of_le_length (by omega),hmul,Nat.add_assoc]
           simp
          rw[hcells] at hrun
          refine ⟨_,_,hrun,?_⟩
          refine ⟨I,φ,.refl _,.refl _,fun _ _ _=>Z,Nat.le_refl _,⟨q,o,cap,hq,Z,hcap,x2,x3⟩,qe hr ⟨q,S,vs.take (o+n*ie.size)++nv++vs.drop (o+(n+m)*ie.size),junk,hq,y2,((y3.take _).append n1).append (y3.drop _),fun u hu=>?_,?_,y6,Z⟩ hS.turn1 hR.top⟩
          ·rcases List.mem_append.1 hu with hu|hu
           ·rcases List.mem_append.1 hu with hu|hu
            ·rcases List.mem_append.1 hu with hu|hu
             ·exact y4 u (List.mem_append_left _ (List.mem_of_mem_take hu))
             ·exact n3 u hu
            ·exact y4 u (List.mem_append_left _ (List.mem_of_mem_drop hu))
           ·exact y4 u (List.mem_append_right _ hu)
          ·rw[←y5]
           simp only[qu,qw,List.length_drop,n2]
           omega
         |false=>
          rw[hin] at h
          simp only[cond_false] at h
          split at h
          ·rename_i c3
           have x3:cap=c3:=x3
           subst x3
           cases hb5:(Nat.blt cap (n+m)&&Nat.ble (off+n*ie.size) cs.length) with
           |false=>rw[hb5] at h;cases h
           |true=>
            rw[hb5] at h
            simp only[cond_true,Option.some.injEq,Prod.mk.injEq] at h
            obtain ⟨rfl,rfl⟩:=h
            simp only[qz] at hb5
            exact move hcs2 (Nat.le_of_ble_eq_true hb5.1) hb5.2
          ·cases hb5:(Nat.beq off 0&&Nat.beq (n*ie.size) cs.length) with
           |false=>rw[hb5] at h;cases h
           |true=>
            rw[hb5] at h
            simp only[cond_true,Option.some.injEq,Prod.mk.injEq] at h
            obtain ⟨rfl,rfl⟩:=h
            simp only[qz] at hb5
            have c1:=Nat.eq_of_beq_eq_true hb5.1
            have c4:=Nat.eq_of_beq_eq_true hb5.2
            subst c1
            obtain ⟨A,L,hBb,hr,hS⟩:=hR.pick hcs
            obtain ⟨q',S,vs,junk,y1,y2,y3,y4,y5,y6,rfl⟩:=hBb
            rw[hq] at y1;cases y1
            have hown:=hS.own _ (.head _)
            simp only at hown
            have hvl:=y3.length
            have x3:q.sh+0+cap*ie.size=q.κ:=x3
            by_cases hcap:n+m≤cap
            ·have ho:o=0:=by rw[x2 (by omega),y2]
             subst ho
             have hmul:(n+m)*ie.size=n*ie.size+m*ie.size:=Nat.add_mul _ _ _
             have hle:(n+m)*ie.size≤cap*ie.size:=Nat.mul_le_mul_right _ hcap
             have hjl:vs.length+junk.length=cap*ie.size:=by rw[←qu,y5];omega
             have hrun:=fp (P:=P) (ty:=ty) ht f1 (off:=0) (n:=n) (cap:=cap) (m:=m) (c:=c2) hown (by rw[n2,f2]) hat n3 hcap (by rw[f2,n2];simp;omega)
             rw[f2,n2] at hrun
             have hcells:(vs++junk).toArray.toList.take (0+n*ie.size)++nv++(vs++junk).toArray.toList.drop (0+n*ie.size+m*ie.size)=(vs++nv)++junk.drop (m*ie.size):=by
              have e1:0+n*ie.size=vs.length:=by omega
              simp only[e1]
              rw[List.take_left,List.drop_append,List.drop_eq_nil_of_le (by omega:vs.length≤vs.length+m*ie.size)]
              simp
             rw[hcells] at hrun
             refine ⟨_,_,hrun,I,φ.put k ⟨q.r,0,q.κ⟩,.refl _,qf hk _,fun j _ hj=>gP φ _ hj,Nat.le_refl _,⟨_,0,cap,yy _ _ _,rfl,hcap,fun _=>rfl,by show 0+0+cap*ie.size=q.κ;omega⟩,
              qe ((hr.moved hk).mono (.refl _) (qf hk _)) ⟨_,S,vs++nv,junk.drop (m*ie.size),yy _ _ _,rfl,(y3.append n1).mono (qf hk _),fun u hu=>?_,?_,(fun h=>by cases h),rfl⟩ hS.turn1 (iv hR.top hkx _)⟩
             ·rcases List.mem_append.1 hu with hu|hu
              ·rcases List.mem_append.1 hu with hu|hu
               ·exact y4 u (List.mem_append_left _ hu)
               ·exact n3 u hu
              ·exact y4 u (List.mem_append_right _ (List.mem_of_mem_drop hu))
             ·show _=q.κ
              rw[←y5]
              simp only[qu,List.length_drop,n2]
              omega
            ·have hlt:cap<n+m:=by omega
             obtain ⟨us,g1,g2,g3,g4⟩:=eL (n:=n*ie.size) (off:=0) (l:=(cs.drop 0).take (n*ie.size)) hR (by unfold cellsOf;rw[hcs2];dsimp only;rw[show Nat.ble (0+n*ie.size) cs.length=true from Nat.ble_eq_true_of_le (by omega)];rfl) hq
             have e0:(cs.drop 0).take (n*ie.size)=cs:=by rw[List.drop_zero,List.take_of_length_le (by omega)]
             rw[e0] at g1
             have hrun:=run_append_grow (P:=P) w t ty e f zv ht f1 f4 ⟨q.r,o,none⟩ n cap us (by rw[g2,f2]) (fun j v hj=>by
              have hjl:=(List.getElem?_eq_some_iff.1 hj).1
              have hn0:n≠0:=fun e=>by rw[g2,e,Nat.zero_mul] at hjl;omega
              rw[bv,x2 (by omega)]
              exact g4 j v hj) sp m c2 nv (by rw[n2,f2]) hat hlt (by omega) (growslice_fits hlt (by rw[f3];omega))
             refine ⟨_,_,hrun,?_⟩
             have he:(us.toArray++nv.toArray:Array Value)=(us++nv).toArray:=by simp
             rw[he]
             have hR2:cy I φ (H.set b none) nx F E w:=cy.gone hr hS.dropAll hR.top
             exact rI hTe f1 f2 f5 hR2 hk hkx (g1.append n1) (fun u hu=>(List.mem_append.1 hu).elim (g3 u) (n3 u)) (by rw[qu,g2,n2,Nat.add_mul]) (grownCap_ge _ _ _ _)
          ·cases h
        ·rename_i cs hcs
         have hcs2:(H.get b).bind VO.cs?=some cs:=by rw[hcs];rfl
         split at h
         ·rename_i c3
          have x3:cap=c3:=x3
          subst x3
          cases hb5:(Nat.blt cap (n+m)&&Nat.ble (off+n*ie.size) cs.length) with
          |false=>rw[hb5] at h;cases h
          |true=>
           rw[hb5] at h
           simp only[cond_true,Option.some.injEq,Prod.mk.injEq] at h
           obtain ⟨rfl,rfl⟩:=h
           simp only[qz] at hb5
           exact move hcs2 (Nat.le_of_ble_eq_true hb5.1) hb5.2
         ·cases h
        ·cases h
     ·cases h
    ·cases h
   ·cases h
  ·cases h
 ·cases h
end
end
section
open Go.Proofs
section
variable {φ:bV}
theorem b7.push:∀{es:List (EV × EV)} {ms:List MapEntry},b7 φ es ms→∀{k v:EV} {e:MapEntry},aQ φ k e.key→aQ φ v e.val→b7 φ (es++[(k,v)]) (ms++[e])
 |[],_,h,k,v,e,h1,h2=>by have h:_=[]:=h;subst h;exact ⟨e,[],rfl,h1,h2,rfl⟩
 |_::_,_,⟨e',r,a,b,c,d⟩,k,v,e,h1,h2=>by subst a;exact ⟨e',_,rfl,b,c,b7.push d h1 h2⟩
theorem b7.set:∀{es:List (EV × EV)} {ms:List MapEntry} (j:Nat),b7 φ es ms→∀{k v:EV} {e:MapEntry},aQ φ k e.key→aQ φ v e.val→b7 φ (es.set j (k,v)) (ms.set j e)
 |[],_,_,h,k,v,e,h1,h2=>by have h:_=[]:=h;subst h;exact rfl
 |_::_,_,0,⟨e',r,a,b,c,d⟩,k,v,e,h1,h2=>by subst a;exact ⟨e,_,rfl,h1,h2,d⟩
 |_::_,_,j+1,⟨e',r,a,b,c,d⟩,k,v,e,h1,h2=>by subst a;exact ⟨e',_,rfl,b,c,b7.set j d h1 h2⟩
end
noncomputable def rJ (T:TT) (H:Hp) (k t u:Nat) (x y:EV):Option (EV × Hp):=
 match T t,T u with
 |some i,some iu=>match i.d,iu.d,x,y with
  |.slice e,.int _,.ns,.i _ n=>match T e,gi n with
   |some ie,some m=>bif Nat.blt 0 m&&Nat.blt 0 ie.size&&Nat.ble (m*ie.bytes) iy&&Nat.ble m iy then some (.sl k 0 m ie.size .en,H.set k (some (.cells false (oO m ie.z)))) else none
   |_,_=>none
  |_,_,_,_=>none
 |_,_=>none
noncomputable def nD (T:TT) (H:Hp) (t:Nat) (x y:EV):Option (EV × Hp):=
 match T t with
 |some i=>match i.d,x with
  |.slice e,.sl b off n k' _=>match T e with
   |some ie=>match rF H y ie.size,H.get b with
    |some (m,news),some (.cells ex cs)=>bif Nat.beq (Nat.min m n) 0 then some (.i .i64 0,H) else bif Nat.beq k' ie.size&&Nat.blt 0 ie.size&&Nat.blt 0 (Nat.min m n)&&Nat.ble (off+Nat.min m n*ie.size) cs.length then
      some (.i .i64 (Nat.min m n),H.set b (some (.cells ex (cs.take off++news.take (Nat.min m n*ie.size)++cs.drop (off+Nat.min m n*ie.size))))) else none
    |_,_=>none
   |none=>none
  |_,_=>none
 |none=>none
noncomputable def xp (T:TT) (g:Nat→EV) (H:Hp) (t:TypeId) (m y z:Operand):Option (EV × Hp):=match T t,bN g m,bN g y,bN g z with
 |some i,some (.m b),some key,some v=>match i.d,H.get b with
  |.map kt _,some (.mp es)=>match T kt with
   |some ik=>match iZ T kt ik key es with
    |some (some (j,_))=>some (.u,H.set b (some (.mp (es.set j (key,v)))))
    |some none=>some (.u,H.set b (some (.mp (es++[(key,v)]))))
    |none=>none
   |none=>none
  |_,_=>none
 |_,_,_,_=>none
noncomputable def xq (T:TT) (g:Nat→EV) (H:Hp) (t:TypeId) (m y:Operand):Option (EV × Hp):=match T t,bN g m,bN g y with
 |some i,some (.m b),some key=>match i.d,H.get b with
  |.map kt et,some (.mp es)=>match T kt,T et with
   |some ik,some ie=>match iZ T kt ik key es with
    |some (some (j,v))=>some (.tu [v,.i .i64 j],H.set b (some (.mp (es.set j (key,v)))))
    |some none=>some (.tu [ie.v,.i .i64 es.length],H.set b (some (.mp (es++[(key,ie.v)]))))
    |none=>none
   |_,_=>none
  |_,_=>none
 |_,_,_=>none
noncomputable def xr (g:Nat→EV) (H:Hp) (m s z:Operand):Option (EV × Hp):=match bN g m,bN g s,bN g z with
 |some (.m b),some (.i .i64 n),some v=>match H.get b,gi n with
  |some (.mp es),some j=>match es[j]? with
   |some e=>some (.u,H.set b (some (.mp (es.set j (e.1,v)))))
   |none=>none
  |_,_=>none
 |_,_,_=>none
theorem jT.push {ms:List MapEntry} {e:MapEntry} (h:jT ms) (he:e.born=ms.length):jT (ms++[e]):=fun j x hx=>by
 rcases Nat.lt_trichotomy j ms.length with q|q|q
 ·rw[List.getElem?_append_left q] at hx;exact h j x hx
 ·subst q
  rw[List.getElem?_append_right (Nat.le_refl _)] at hx
  simp at hx
  subst hx;exact he
 ·rw[List.getElem?_eq_none (by simp;omega)] at hx;cases hx
theorem jT.set {ms:List MapEntry} {e e0:MapEntry} {i:Nat} (h:jT ms) (h0:ms[i]?=some e0) (he:e.born=e0.born):jT (ms.set i e):=fun j x hx=>by
 by_cases q:i=j
 ·subst q
  rw[List.getElem?_set_self (List.getElem?_eq_some_iff.1 h0).1] at hx
  cases hx
  rw[he];exact h _ _ h0
 ·rw[List.getElem?_set_ne q] at hx;exact h j x hx
theorem b7.len {φ:bV}:∀{es:List (EV × EV)} {ms:List MapEntry},b7 φ es ms→es.length=ms.length
 |[],ms,h=>by
  have h:ms=[]:=h
  subst h;rfl
 |_::_,_,⟨e,r,a,_,_,d⟩=>by subst a;simp[b7.len d]
theorem b7.at {φ:bV}:∀{es:List (EV × EV)} {ms:List MapEntry} (j:Nat) {e:EV × EV},b7 φ es ms→es[j]?=some e→∃x,ms[j]?=some x∧aQ φ e.1 x.key∧aQ φ e.2 x.val
 |[],_,_,_,_,h=>by cases h
 |_::_,_,0,_,⟨e,r,a,b,c,_⟩,h=>by subst a;cases h;exact ⟨e,rfl,b,c⟩
 |_::_,_,j+1,_,⟨e,r,a,_,_,d⟩,h=>by subst a;exact b7.at j d h
theorem nE {ms:List MapEntry} {j:Nat} {e:MapEntry} {f:MapEntry→MapEntry} (h:ms[j]?=some e):ms.toArray.modify j f=(ms.set j (f e)).toArray:=by
 have hjl:=(List.getElem?_eq_some_iff.1 h).1
 apply Array.ext_getElem?
 intro p
 rw[Array.getElem?_modify,List.getElem?_toArray,List.getElem?_toArray]
 by_cases hp:j=p
 ·subst hp
  rw[if_pos rfl,h,List.getElem?_set_self hjl];rfl
 ·rw[if_neg hp,List.getElem?_set_ne hp]
theorem jT.find {ms:List MapEntry} (h:jT ms) {j:Nat} (hj:j<ms.length):ms.toArray.findIdx? (fun e=>(e.born:Int) == (j:Int))=some j:=by
 rw[List.findIdx?_toArray,List.findIdx?_eq_some_iff_getElem]
 refine ⟨hj,?_,fun i hi=>?_⟩
 ·have:=h j _ (qo hj);simp[this]
 ·have:=h i _ (qo (Nat.lt_trans hi hj));simp[this];omega
noncomputable def CX (T:TT) (g:Nat→EV) (H:Hp) (k:Nat) (op:Op):Option (EV × Hp):=
 match op with
 |.store t x y=>match T t,bN g x,bN g y with
  |some i,some (.p b off),some a=>match H.get b with
   |some (.cells ex cs)=>bif a.sto&&a.cs.all EV.cell&&Nat.beq a.cs.length i.size&&Nat.ble (off+i.size) cs.length then some (.u,H.set b (some (.cells ex (cs.take off++a.cs++cs.drop (off+i.size))))) else none
   |_=>none
  |_,_,_=>none
 |.next x true=>match bN g x with
  |some (.p b off)=>match H.get b with
   |some (.it s p)=>bif Nat.beq off 0 then
     match s.data.toList[p]? with
     |some c=>bif Nat.blt c.toNat 128 then some (.tu [.b true,.i .i64 p,.i .i32 c.toNat],H.set b (some (.it s (p+1)))) else none
     |none=>some (.tu [.b false],H)
    else none
   |_=>none
  |_=>none
 |.mapUpdate t m y z=>xp T g H t m y z
 |.mapEntry t m y=>xq T g H t m y
 |.entryStore _ m s z=>xr g H m s z
 |.call ⟨.builtin .append,ar,ts⟩=>match ar.toList,ts.toList with
  |[x,y],[t,u]=>match bN g x,bN g y with
   |some a,some c=>bif Nat.beq t u then rH T H k t a c else rJ T H k t u a c
   |_,_=>none
  |_,_=>none
 |.call ⟨.builtin .copy,ar,ts⟩=>match ar.toList,ts.toList with
  |[x,y],[t,_]=>match bN g x,bN g y with
   |some a,some c=>nD T H t a c
   |_,_=>none
  |_,_=>none
 |_=>none
noncomputable def D3 (T:TT) (g:Nat→EV) (H:Hp) (t:TypeId) (x y:Operand):Option (EV × Hp):=match T t,bN g x,bN g y with
 |some i,some (.p b off),some a=>match H.get b with
  |some (.cells ex cs)=>bif a.sto&&a.cs.all EV.cell&&Nat.beq a.cs.length i.size&&Nat.ble (off+i.size) cs.length then some (.u,H.set b (some (.cells ex (cs.take off++a.cs++cs.drop (off+i.size))))) else none
  |_=>none
 |_,_,_=>none
noncomputable def D4 (g:Nat→EV) (H:Hp) (x:Operand) (s:Bool):Option (EV × Hp):=match s with
 |true=>match bN g x with
  |some (.p b off)=>match H.get b with
   |some (.it s p)=>bif Nat.beq off 0 then
     match s.data.toList[p]? with
     |some c=>bif Nat.blt c.toNat 128 then some (.tu [.b true,.i .i64 p,.i .i32 c.toNat],H.set b (some (.it s (p+1)))) else none
     |none=>some (.tu [.b false],H)
    else none
   |_=>none
  |_=>none
 |false=>none
noncomputable def D5 (T:TT) (g:Nat→EV) (H:Hp) (k:Nat) (ar:Array Operand) (ts:Array TypeId):Option (EV × Hp):=match ar.toList,ts.toList with
 |[x,y],[t,u]=>match bN g x,bN g y with
  |some a,some c=>bif Nat.beq t u then rH T H k t a c else rJ T H k t u a c
  |_,_=>none
 |_,_=>none
noncomputable def D6 (T:TT) (g:Nat→EV) (H:Hp) (ar:Array Operand) (ts:Array TypeId):Option (EV × Hp):=match ar.toList,ts.toList with
 |[x,y],[t,_]=>match bN g x,bN g y with
  |some a,some c=>nD T H t a c
  |_,_=>none
 |_,_=>none
noncomputable def D7 (T:TT) (g:Nat→EV) (H:Hp) (k:Nat) (b:Builtin) (ar:Array Operand) (ts:Array TypeId):Option (EV × Hp):=match b with
 |.append=>D5 T g H k ar ts
 |.copy=>D6 T g H ar ts
 |_=>none
noncomputable def D8 (T:TT) (g:Nat→EV) (H:Hp) (k:Nat) (c:Call):Option (EV × Hp):=match c with
 |⟨.builtin b,ar,ts⟩=>D7 T g H k b ar ts
 |_=>none
noncomputable def D9 (T:TT) (g:Nat→EV) (H:Hp) (k:Nat) (op:Op):Option (EV × Hp):=
 match op with
 |.store t x y=>D3 T g H t x y
 |.next x s=>D4 g H x s
 |.mapUpdate t m y z=>xp T g H t m y z
 |.mapEntry t m y=>xq T g H t m y
 |.entryStore _ m s z=>xr g H m s z
 |.call c=>D8 T g H k c
 |_=>none
theorem CY (T:TT) (g:Nat→EV) (H:Hp) (k:Nat) (op:Op):D9 T g H k op=CX T g H k op:=by
 cases op<;>try rfl
 case next x s=>cases s<;>rfl
 case call c=>
  obtain ⟨cl,ar,ts⟩:=c
  cases cl<;>try rfl
  rename_i b
  cases b<;>rfl
section
variable {P:Program} {φ:bV} {g:Nat→EV} {ρ:bF} {w:World} {T:TT} {I:aJ} {H:Hp} {k nx:Nat} {F:List (Nat × Obj)} {E:World}
theorem xt {t u:Nat} {ty:TypeId} (hT:b8 P T) (hR:cy I φ H nx F E w) (hk:φ k=none) (hkx:k<nx) {x y z:EV} {H':Hp} (h:rJ T H k t u x y=some (z,H')) {a c:Value} (hx:aQ φ x a) (hy:aQ φ y c) :
  ∃v w',(Builtin.append_ #[t,u] ty #[a,c]).run P w=.ok v w'∧di φ I F E k nx z H' nx v w':=by
 have hB:iy=140737488355328:=rfl
 unfold rJ at h
 split at h
 ·rename_i i iu hi hiu
  split at h
  ·rename_i e ku k2 n hd hdu
   have ht:=hd▸(hT t i hi).und
   have hu:=hdu▸(hT u iu hiu).und
   have hx:a=.slice none 0 0:=hx
   have hy:c=.int k2 n:=hy
   subst hx hy
   split at h
   ·rename_i ie m hie hm
    have hm:=eJ hm
    subst hm
    have hTe:=hT e ie hie
    obtain ⟨f,zv,f1,f2,f3,f4,f5,_⟩:=hTe.inf
    cases hb:(Nat.blt 0 m&&Nat.blt 0 ie.size&&Nat.ble (m*ie.bytes) iy&&Nat.ble m iy) with
    |false=>rw[hb] at h;cases h
    |true=>
     rw[hb] at h
     simp only[cond_true,Option.some.injEq,Prod.mk.injEq] at h
     obtain ⟨rfl,rfl⟩:=h
     simp only[qz] at hb
     have b0:0<m:=Nat.le_of_ble_eq_true hb.1.1.1
     have b1:0<ie.size:=Nat.le_of_ble_eq_true hb.1.1.2
     have b2:=Nat.le_of_ble_eq_true hb.1.2
     have b3:=Nat.le_of_ble_eq_true hb.2
     have hz1:=hTe.cell1 f5
     have hzl:zv.cells.toList.length=ie.size:=by rw[(f5 φ).length,hTe.zl]
     have hrun:=Go.Lib.run_append_nil_zeros (P:=P) w t u ty e f zv k2 ku ht hu f1 f4 m b0 (by rw[f2];exact b1) (by omega) (by rw[f3];omega)
     have hzc:Builtin.zeroCells zv.cells m=(List.replicate m zv.cells.toList).flatten.toArray:=by
      have:=gj zv.cells.toList m (by omega) hz1
      rw[Array.toArray_toList] at this
      rw[←this,Array.length_toList];rfl
     rw[hzc] at hrun
     exact ⟨_,_,hrun,rI hTe f1 f2 f5 hR hk hkx ((f5 φ).flatR m) (fun u hu=>by
      obtain ⟨r,hr,hu⟩:=List.mem_flatten.1 hu
      rw[List.eq_of_mem_replicate hr] at hu
      exact hz1 u hu) (by simp[hzl]) (grownCap_ge _ _ _ _)⟩
   ·cases h
  ·cases h
 ·cases h
theorem vM {t u:Nat} {ty:TypeId} (hT:b8 P T) (hR:cy I φ H nx F E w) {x y z:EV} {H':Hp} (h:nD T H t x y=some (z,H')) {a c:Value} (hx:aQ φ x a) (hy:aQ φ y c) :
  ∃v w',(Builtin.copy_ #[t,u] ty #[a,c]).run P w=.ok v w'∧di φ I F E k nx z H' nx v w':=by
 unfold nD at h
 split at h
 ·rename_i i hi
  split at h
  ·rename_i e b off n k' cp hd
   have ht:=hd▸(hT t i hi).und
   split at h
   ·rename_i ie hie
    have hTe:=hT e ie hie
    split at h
    ·rename_i m news ex cs hnews hcs
     obtain ⟨q,hqe⟩:∃q,Nat.min m n=q:=⟨_,rfl⟩
     rw[hqe] at h
     have hq1:q≤m:=hqe▸Nat.min_le_left m n
     have hq2:q≤n:=hqe▸Nat.min_le_right m n
     cases hq0:Nat.beq q 0 with
     |true=>
      rw[hq0] at h
      simp only[cond_true,Option.some.injEq,Prod.mk.injEq] at h
      obtain ⟨rfl,rfl⟩:=h
      have hq0:=Nat.eq_of_beq_eq_true hq0
      subst hq0
      obtain ⟨pb,o,cap,hq,rfl,x1,x2,x3⟩:=hx
      obtain ⟨sa,c2,nv,rfl,n1,n2,n3,n4⟩:=lL hR hnews hy
      refine ⟨.int .i64 0,w,?_,hR.stay Z⟩
      cases sa<;>simp[Builtin.copy_,run_underlying ht,hTe.sz,Builtin.lenOf,hqe,Builtin.firstCells,loadCells,loadCellsFrom,storeCells,goInt,Result.andThen]
     |false=>
     rw[hq0] at h
     simp only[cond_false] at h
     cases hb:(Nat.beq k' ie.size&&Nat.blt 0 ie.size&&Nat.blt 0 q&&Nat.ble (off+q*ie.size) cs.length) with
     |false=>rw[hb] at h;cases h
     |true=>
      rw[hb] at h
      simp only[cond_true,Option.some.injEq,Prod.mk.injEq] at h
      obtain ⟨rfl,rfl⟩:=h
      simp only[qz] at hb
      have b0:=Nat.eq_of_beq_eq_true hb.1.1.1
      have b1:0<ie.size:=Nat.le_of_ble_eq_true hb.1.1.2
      have b2:0<q:=Nat.le_of_ble_eq_true hb.1.2
      have b3:=Nat.le_of_ble_eq_true hb.2
      subst b0
      obtain ⟨pb,o,cap,hq,rfl,x1,x2,_⟩:=hx
      obtain ⟨sa,c2,nv,rfl,n1,n2,n3,n4⟩:=lL hR hnews hy
      obtain ⟨sp,rfl,hat⟩:∃sp,sa=some sp∧∀(j:Nat) u,nv[j]?=some u→w.cell? (sp.add j)=some u:=by
       rcases n4 with ⟨_,h0⟩|h0
       ·omega
       ·exact h0
      have hmul:q*ie.size≤m*ie.size:=Nat.mul_le_mul_right _ hq1
      have hnl:(nv.take (q*ie.size)).length=q*ie.size:=by rw[qw,n2];omega
      have hf:=run_firstCells_some (P:=P) w ie.size q sp m c2 (nv.take (q*ie.size)) hnl (fun j v hj=>hat j v (by
       have:=(List.getElem?_eq_some_iff.1 hj).1
       rw[hnl] at this
       rwa [List.getElem?_take_of_lt this] at hj))
      obtain ⟨A,L,hBb,hr,hS⟩:=hR.pick hcs
      obtain ⟨q',S,vs,junk,y1,y2,y3,y4,y5,y6,rfl⟩:=hBb
      rw[hq] at y1;cases y1
      have hvl:=y3.length
      have ho:o=off:=by rw[x2 (by omega),y2,Nat.zero_add]
      subst ho
      have hst:=mZ (P:=P) (w:=w) (b:=pb.r) (off:=o) (n:=q*ie.size) (T:=S) (old:=vs++junk) (vs:=nv.take (q*ie.size)) hnl (fun u hu=>n3 u (List.mem_of_mem_take hu)) (by rw[qu];omega) (hS.own _ (.head _))
      have hcells:(vs++junk).take o++nv.take (q*ie.size)++(vs++junk).drop (o+q*ie.size)=(vs.take o++nv.take (q*ie.size)++vs.drop (o+q*ie.size))++junk:=by
       rw[List.take_append_of_le_length (by omega),List.drop_append_of_le_length (by omega)]
       simp
      rw[hcells] at hst
      refine ⟨.int .i64 q,_,?_,I,φ,.refl _,.refl _,fun _ _ _=>Z,Nat.le_refl _,Z,qe hr ⟨pb,S,vs.take o++nv.take (q*ie.size)++vs.drop (o+q*ie.size),junk,hq,y2,((y3.take _).append (n1.take _)).append (y3.drop _),fun u hu=>?_,?_,y6,Z⟩ hS.turn1 hR.top⟩
      ·simp[Builtin.copy_,run_underlying ht,hTe.sz,Builtin.lenOf,hqe,hf,hst,goInt,Result.andThen]
      ·rcases List.mem_append.1 hu with hu|hu
       ·rcases List.mem_append.1 hu with hu|hu
        ·rcases List.mem_append.1 hu with hu|hu
         ·exact y4 u (List.mem_append_left _ (List.mem_of_mem_take hu))
         ·exact n3 u (List.mem_of_mem_take hu)
        ·exact y4 u (List.mem_append_left _ (List.mem_of_mem_drop hu))
       ·exact y4 u (List.mem_append_right _ hu)
      ·rw[←y5]
       simp only[qu,List.length_drop,hnl,qw,n2] at *
       omega
    ·cases h
   ·cases h
  ·cases h
 ·cases h
theorem dy.val {o:Oper} {K:Value→World→Prop} {v:Value} {w':World} (h:(execOp (ev ρ) o).run P w=.ok (.value v) w') (hk:K v w'):dy P o ρ w K:=by
 unfold dy;rw[h];exact hk
theorem dy.skp {o:Oper} {K:Value→World→Prop} {w':World} (h:(execOp (ev ρ) o).run P w=.ok .skip w') (hk:K undef w'):dy P o ρ w K:=by
 unfold dy;rw[h];exact hk
theorem AL (hT:b8 P T) (hg:dz φ g ρ) (hR:cy I φ H nx F E w) (hk:φ k=none) (hkx:k<nx) {o:Oper} {x:EV} {H':Hp} (h:CX T g H k o.op=some (x,H')):dy P o ρ w (di φ I F E k nx x H' nx):=by
 obtain ⟨dst,op,ty,pos,af,gu⟩:=o
 dsimp only at h
 unfold CX at h
 split at h
 ·rename_i t x' y'
  split at h
  ·rename_i i b off a hi hx hy
   have hTi:=hT t i hi
   obtain ⟨q,hq,hxv⟩:=aL hg hx
   have hyv:=aL hg hy
   split at h
   ·rename_i ex cs hcs
    cases hb:(a.sto&&a.cs.all EV.cell&&Nat.beq a.cs.length i.size&&Nat.ble (off+i.size) cs.length) with
    |false=>rw[hb] at h;cases h
    |true=>
     rw[hb] at h
     simp only[cond_true,Option.some.injEq,Prod.mk.injEq] at h
     obtain ⟨rfl,rfl⟩:=h
     simp only[qz] at hb
     have b1:=hb.1.1.1
     have b2:=hb.1.1.2
     have b3:=Nat.eq_of_beq_eq_true hb.1.2
     have b4:=Nat.le_of_ble_eq_true hb.2
     have hr:=EV.cs_rel hyv b1
     have h1:=EV.cells_rel hr b2
     obtain ⟨A,L,hBb,hrest,hS⟩:=hR.pick hcs
     obtain ⟨q',S,vs,junk,y1,y2,y3,y4,y5,y6,rfl⟩:=hBb
     rw[hq] at y1;cases y1
     have hvl:=y3.length
     have hrun:=fX (P:=P) (t:=t) (b:=q.r) (off:=off) (v:=ev ρ y') (vs:=(ev ρ y').cells.toList) (old:=vs++junk) (w:=w) hTi.sz (by simp) (by rw[hr.length,b3]) h1 (by rw[qu];omega) (hS.own _ (.head _))
     have hcells:(vs++junk).take off++(ev ρ y').cells.toList++(vs++junk).drop (off+i.size)=(vs.take off++(ev ρ y').cells.toList++vs.drop (off+i.size))++junk:=by
      rw[List.take_append_of_le_length (by omega),List.drop_append_of_le_length (by omega)]
      simp
     rw[hcells] at hrun
     refine dy.skp (w':=w.setRow q.r ((vs.take off++(ev ρ y').cells.toList++vs.drop (off+i.size))++junk).toArray) ?_ ⟨I,φ,.refl _,.refl _,fun _ _ _=>Z,Nat.le_refl _,trivial,qe hrest ⟨q,S,_,junk,hq,y2,((y3.take off).append hr).append (y3.drop _),fun u hu=>?_,?_,y6,Z⟩ hS.turn1 hR.top⟩
     ·simp only[execOp,hxv]
      rw[y2,Nat.zero_add,Sem.run_bind,hrun];rfl
     ·rcases List.mem_append.1 hu with hu|hu
      ·rcases List.mem_append.1 hu with hu|hu
       ·rcases List.mem_append.1 hu with hu|hu
        ·exact y4 u (List.mem_append_left _ (List.mem_of_mem_take hu))
        ·exact h1 u hu
       ·exact y4 u (List.mem_append_left _ (List.mem_of_mem_drop hu))
      ·exact y4 u (List.mem_append_right _ hu)
     ·have hl2:=hr.length
      rw[←y5]
      simp only[qu,qw,List.length_drop,hl2]
      omega
   ·cases h
  ·cases h
 ·rename_i x'
  split at h
  ·rename_i b off hx
   obtain ⟨q,hq,hxv⟩:=aL hg hx
   split at h
   ·rename_i s p hsp
    obtain ⟨A,L,hBb,hrest,hS⟩:=hR.pick hsp
    obtain ⟨q',y1,y2,rfl⟩:=hBb
    rw[hq] at y1;cases y1
    have hb:=hS.own _ (.head _)
    simp only at hb
    cases ho:Nat.beq off 0 with
    |false=>rw[ho] at h;cases h
    |true=>
     rw[ho] at h
     have ho:=Nat.eq_of_beq_eq_true ho
     subst ho
     have hxv:ev ρ x'=.pointer (some ⟨q.r,0,none⟩):=by rw[hxv,y2]
     simp only[cond_true] at h
     have hsz:s.size=s.data.toList.length:=by rw[Array.length_toList];rfl
     split at h
     ·rename_i c hc
      cases hc2:Nat.blt c.toNat 128 with
      |false=>rw[hc2] at h;cases h
      |true=>
       rw[hc2] at h
       simp only[cond_true,Option.some.injEq,Prod.mk.injEq] at h
       obtain ⟨rfl,rfl⟩:=h
       have hc2:c.toNat<128:=Nat.le_of_ble_eq_true hc2
       have hd:=gT (s:=s) (p:=p) (b:=c) (by rw[←Array.getElem?_toList];exact hc) hc2
       have hp:p<s.size:=by rw[hsz];exact (List.getElem?_eq_some_iff.1 hc).1
       refine dy.val (v:=.tuple #[.bool true,.int .i64 p,.int .i32 c.toNat]) (w':={ w with heap:=w.heap.setIfInBounds q.r (.stringIter s (p+1)) }) ?_ ⟨I,φ,.refl _,.refl _,fun _ _ _=>Z,Nat.le_refl _,⟨[_,_,_],Z,_,_,Z,Z,_,_,Z,Z,_,_,Z,Z,Z⟩,qe hrest ⟨q,hq,y2,Z⟩ (hS.turn Z Z Z ?_ ?_) hR.top⟩
       ·simp[execOp,Instr.next,hxv,dB hb,fV hb,Result.andThen,hp,goInt,hd]
       ·simp[dp hb]
       ·intro j hj;simp[Array.getElem?_setIfInBounds,Ne.symm hj]
     ·rename_i hc
      simp only[Option.some.injEq,Prod.mk.injEq] at h
      obtain ⟨rfl,rfl⟩:=h
      have hp:¬p<s.size:=by rw[hsz];exact fun hlt=>by rw[qo hlt] at hc;cases hc
      refine dy.val (v:=.tuple #[.bool false]) (w':=w) ?_ (hR.stay ⟨[_],Z,_,_,Z,Z,Z⟩)
      simp[execOp,Instr.next,hxv,dB hb,Result.andThen,hp]
   ·cases h
  ·cases h
 ·rename_i t m' y' z'
  unfold xp at h
  split at h
  ·rename_i i b key v hi hx hy hz
   obtain ⟨q,hq,hxv⟩:=aL hg hx
   have hyv:=aL hg hy
   have hzv:=aL hg hz
   split at h
   ·rename_i kt et es hd hes
    have hu:=hd▸(hT t i hi).und
    split at h
    ·rename_i ik hik
     obtain ⟨A,L,hBb,hrest,hS⟩:=hR.pick hes
     obtain ⟨q',ms,y1,y2,rfl⟩:=hBb
     rw[hq] at y1;cases y1
     have hb2:=hS.own _ (.head _)
     simp only at hb2
     have fin:∀(es':List (EV × EV)) (ms':List MapEntry) (clock':Nat),b7 φ es' ms'→jT ms'→clock'=ms'.length→(execOp (ev ρ) (Oper.mk dst (.mapUpdate t m' y' z') ty pos af gu)).run P w=.ok .skip { w with heap:=w.heap.setIfInBounds q.r (.map ms'.toArray clock') }→dy P (Oper.mk dst (.mapUpdate t m' y' z') ty pos af gu) ρ w (di φ I F E k nx .u (H.set b (some (.mp es'))) nx):=fun es' ms' clock' hr hbn hcl hrun=>by
      subst hcl
      have hh:=MapKept.heap_set (o':=.map ms'.toArray ms'.length) hb2
      exact dy.skp hrun ⟨I,φ,.refl _,.refl _,fun _ _ _=>rfl,Nat.le_refl _,trivial,qe hrest ⟨q,ms',hq,⟨hr,hbn⟩,rfl⟩ (hS.turn rfl rfl rfl hh.1 hh.2) hR.top⟩
     split at h
     ·rename_i j v0 hf
      obtain ⟨hc,hkeep,⟨e,_⟩|⟨j',y,e,g1,g2,g3,g4,g5⟩⟩:=fm hT hik hyv y2.1 hf
      ·cases e
      ·cases g1
       cases h
       have hc:=hc w false
       have hf:=g2 w
       have hkeep:=hkeep w
       refine fin _ (ms.set j { e with key:=ev ρ y',val:=ev ρ z' }) ms.length (y2.1.set j hyv hzv) (y2.2.set g4 Z) (by simp) ?_
       rw[←nE (f:=fun e=>{ e with key:=ev ρ y',val:=ev ρ z' }) g4]
       simp[execOp,hxv,Instr.mapUpdate,run_underlying hu,MapKept.run_getObj_map hb2,hc,hf,MapKept.run_setObj_map _ hb2,Result.andThen,g4,g5,hkeep]
     ·rename_i hf
      obtain ⟨hc,hkeep,⟨_,g2⟩|⟨j,y,e,g1,_⟩⟩:=fm hT hik hyv y2.1 hf
      ·cases h
       have hc:=hc w false
       have hf:=g2 w
       refine fin _ (ms++[{ key:=ev ρ y',val:=ev ρ z',born:=ms.length }]) (ms.length+1) (y2.1.push hyv hzv) (y2.2.push Z) (by simp) ?_
       simp[execOp,hxv,Instr.mapUpdate,run_underlying hu,MapKept.run_getObj_map hb2,hc,hf,MapKept.run_setObj_map _ hb2,Result.andThen]
      ·cases g1
     ·cases h
    ·cases h
   ·cases h
  ·cases h
 ·rename_i t m' y'
  unfold xq at h
  split at h
  ·rename_i i b key hi hx hy
   obtain ⟨q,hq,hxv⟩:=aL hg hx
   have hyv:=aL hg hy
   split at h
   ·rename_i kt et es hd hes
    have hu:=hd▸(hT t i hi).und
    split at h
    ·rename_i ik ie hik hie
     obtain ⟨A,L,hBb,hrest,hS⟩:=hR.pick hes
     obtain ⟨q',ms,y1,y2,rfl⟩:=hBb
     rw[hq] at y1;cases y1
     have hb2:=hS.own _ (.head _)
     simp only at hb2
     have fin:∀(es':List (EV × EV)) (ms':List MapEntry) (clock':Nat) (x:EV) (v:Value),b7 φ es' ms'→jT ms'→clock'=ms'.length→aQ φ x v→(execOp (ev ρ) (Oper.mk dst (.mapEntry t m' y') ty pos af gu)).run P w=.ok (.value v) { w with heap:=w.heap.setIfInBounds q.r (.map ms'.toArray clock') }→dy P (Oper.mk dst (.mapEntry t m' y') ty pos af gu) ρ w (di φ I F E k nx x (H.set b (some (.mp es'))) nx):=fun es' ms' clock' x v hr hbn hcl hxr hrun=>by
      subst hcl
      have hh:=MapKept.heap_set (o':=.map ms'.toArray ms'.length) hb2
      exact dy.val hrun ⟨I,φ,.refl _,.refl _,fun _ _ _=>rfl,Nat.le_refl _,hxr,qe hrest ⟨q,ms',hq,⟨hr,hbn⟩,rfl⟩ (hS.turn rfl rfl rfl hh.1 hh.2) hR.top⟩
     split at h
     ·rename_i j v0 hf
      obtain ⟨hc,hkeep,⟨e,_⟩|⟨j',y,e,g1,g2,g3,g4,g5⟩⟩:=fm hT hik hyv y2.1 hf
      ·cases e
      ·cases g1
       cases h
       have hc:=hc w false
       have hf:=g2 w
       have hkeep:=hkeep w
       have hbj:=y2.2 j e g4
       refine fin _ (ms.set j { e with key:=ev ρ y' }) ms.length _ (.tuple #[e.val,.int .i64 j]) (y2.1.set j hyv g3) (y2.2.set g4 Z) (by simp) ⟨[e.val,.int .i64 j],Z,_,_,Z,g3,_,_,Z,Z,Z⟩ ?_
       rw[←nE (f:=fun e=>{ e with key:=ev ρ y' }) g4]
       simp[execOp,hxv,Instr.mapEntry,run_underlying hu,MapKept.run_getObj_map hb2,hc,hf,MapKept.run_setObj_map _ hb2,Result.andThen,g4,g5,hkeep,goInt,hbj]
     ·rename_i hf
      obtain ⟨hc,hkeep,⟨_,g2⟩|⟨j,y,e,g1,_⟩⟩:=fm hT hik hyv y2.1 hf
      ·obtain ⟨zv,hz,hzr⟩:=(hT et ie hie).zeroV
       cases h
       have hc:=hc w false
       have hf:=g2 w
       have hz:=hz w
       refine fin _ (ms++[{ key:=ev ρ y',val:=zv,born:=ms.length }]) (ms.length+1) _ (.tuple #[zv,.int .i64 ms.length]) (y2.1.push hyv (hzr φ)) (y2.2.push Z) (by simp) ⟨[zv,.int .i64 ms.length],Z,_,_,Z,hzr φ,_,_,Z,by rw[y2.1.len];rfl,rfl⟩ ?_
       simp[execOp,hxv,Instr.mapEntry,run_underlying hu,MapKept.run_getObj_map hb2,hc,hf,hz,MapKept.run_setObj_map _ hb2,Result.andThen,goInt]
      ·cases g1
     ·cases h
    ·cases h
   ·cases h
  ·cases h
 ·rename_i t m' s' z'
  unfold xr at h
  split at h
  ·rename_i b n v hx hy hz
   obtain ⟨q,hq,hxv⟩:=aL hg hx
   have hyv:ev ρ s'=.int .i64 n:=aL hg hy
   have hzv:=aL hg hz
   split at h
   ·rename_i es j hes hj
    split at h
    ·rename_i e0 he0
     cases h
     obtain ⟨A,L,hBb,hrest,hS⟩:=hR.pick hes
     obtain ⟨q',ms,y1,y2,rfl⟩:=hBb
     rw[hq] at y1;cases y1
     have hb2:=hS.own _ (.head _)
     simp only at hb2
     obtain ⟨e,g4,h1,h2⟩:=y2.1.at j he0
     have hn:n=(j:Int):=eJ hj
     subst hn
     have hfi:=y2.2.find (List.getElem?_eq_some_iff.1 g4).1
     have hrun:(execOp (ev ρ) (Oper.mk dst (.entryStore t m' s' z') ty pos af gu)).run P w=.ok .skip { w with heap:=w.heap.setIfInBounds q.r (.map (ms.set j { e with val:=ev ρ z' }).toArray ms.length) }:=by
      rw[←nE (f:=fun e=>{ e with val:=ev ρ z' }) g4]
      simp only[execOp,hxv,hyv,Instr.entryStore]
      simp[MapKept.run_getObj_map hb2,MapKept.run_setObj_map _ hb2,Result.andThen,asInt,asIntOf,hfi]
     have fin:∀(ms':List MapEntry) (clock':Nat),b7 φ (es.set j (e0.1,v)) ms'→jT ms'→clock'=ms'.length→(execOp (ev ρ) (Oper.mk dst (.entryStore t m' s' z') ty pos af gu)).run P w=.ok .skip { w with heap:=w.heap.setIfInBounds q.r (.map ms'.toArray clock') }→dy P (Oper.mk dst (.entryStore t m' s' z') ty pos af gu) ρ w (di φ I F E k nx .u (H.set b (some (.mp (es.set j (e0.1,v))))) nx):=fun ms' clock' hr hbn hcl hrun=>by
      subst hcl
      have hh:=MapKept.heap_set (o':=.map ms'.toArray ms'.length) hb2
      exact dy.skp hrun ⟨I,φ,.refl _,.refl _,fun _ _ _=>rfl,Nat.le_refl _,trivial,qe hrest ⟨q,ms',hq,⟨hr,hbn⟩,rfl⟩ (hS.turn rfl rfl rfl hh.1 hh.2) hR.top⟩
     exact fin (ms.set j { e with val:=ev ρ z' }) ms.length (y2.1.set (e:={ e with val:=ev ρ z' }) j h1 hzv) (y2.2.set g4 rfl) (by simp) hrun
    ·cases h
   ·cases h
  ·cases h
 ·split at h
  ·rename_i ar ts _ _ x' y' t u h1 h2
   have h1:=vG h1
   have h2:=vG h2
   subst h1 h2
   split at h
   ·rename_i a c hx hy
    cases htu:Nat.beq t u with
    |false=>
     rw[htu] at h
     obtain ⟨v,w',h3,h4⟩:=xt (ty:=ty) hT hR hk hkx h (aL hg hx) (aL hg hy)
     exact dy.val (by simp[execOp,resolve,invoke,builtin,h3]) h4
    |true=>
     rw[htu] at h
     have htu:=Nat.eq_of_beq_eq_true htu
     subst htu
     obtain ⟨v,w',h3,h4⟩:=xo (ty:=ty) hT hR hk hkx h (aL hg hx) (aL hg hy)
     exact dy.val (by simp[execOp,resolve,invoke,builtin,h3]) h4
   ·cases h
  ·cases h
 ·split at h
  ·rename_i ar ts _ _ x' y' t u h1 h2
   have h1:=vG h1
   have h2:=vG h2
   subst h1 h2
   split at h
   ·rename_i a c hx hy
    obtain ⟨v,w',h3,h4⟩:=vM (k:=k) (u:=u) (ty:=ty) hT hR h (aL hg hx) (aL hg hy)
    exact dy.val (by simp[execOp,resolve,invoke,builtin,h3]) h4
   ·cases h
  ·cases h
 ·cases h
theorem xu (hT:b8 P T) (hg:dz φ g ρ) (hR:cy I φ H nx F E w) (hk:φ k=none) (hkx:k<nx) {o:Oper} {x:EV} {H':Hp} (h:D9 T g H k o.op=some (x,H')):dy P o ρ w (di φ I F E k nx x H' nx):=AL hT hg hR hk hkx (CY T g H k o.op▸h)
end
end
end Go.Proofs.YtbconpmnckokoaaGreatDoor
