/- What an operation comes to that writes, over a heap told exactly. No conditions. -/
import Derived.Test.YtjpnhkmfhlnpcaaGreatDoorJm
import Derived.Test.YtjpnhkmfhlnpcaaGreatDoorJc
import Derived.WideKeyRuns
import Derived.Laws.BytesString
set_option linter.unusedVariables false
set_option linter.unusedSimpArgs false
set_option linter.unusedSectionVars false
namespace Go.Proofs.YtjpnhkmfhlnpcaaGreatDoor
section
def mL {α β:Type} (f:α→Option β):List α→Option (List β)
 |[]=>some []
 |x::l=>match f x,mL f l with
  |some y,some m=>some (y::m)
  |_,_=>none
theorem gT {φ:bY} {α:Type} {f:α→Option EV} {g:α→Value} (h:∀x a,f x=some a→aQ φ a (g x)):∀(l:List α) (m:List EV),mL f l=some m→RelVs φ m (l.map g)
 |[],m,e=>by cases e;rfl
 |x::l,m,e=>by
  unfold mL at e
  split at e
  ·rename_i y m' h1 h2
   cases e
   exact ⟨_,_,rfl,h x y h1,gT h l m' h2⟩
  ·cases e
def wK:Nat→Value→Option EV
 |0,_=>none
 |n+1,v=>match v with
  |.bool b=>some (.b b)
  |.int k i=>some (.i k i)
  |.string s=>some (.s s)
  |.pointer none=>some .np
  |.slice none 0 0=>some .ns
  |.map none=>some .nm
  |.nilFunc=>some .nf
  |.nilIface=>some .ni
  |.agg cs=>(mL (wK n) cs.toList).map EV.ag
  |_=>none
theorem lj {φ:bY}:∀(n:Nat) (v:Value) (a:EV),wK n v=some a→aQ φ a v
 |0,_,_,h=>by cases h
 |n+1,v,a,h=>by
  unfold wK at h
  split at h
  case h_9 cs=>
   obtain ⟨m,hm,rfl⟩:=Option.map_eq_some_iff.1 h
   have:=gT (φ:=φ) (g:=id) (lj n) cs.toList m hm
   exact ⟨cs.toList,by simp,by simpa using this⟩
  all_goals first|(cases h;rfl)|cases h
noncomputable def bL (g:Nat→EV):Operand→Option EV
 |.tmp t=>some (g t)
 |.const v=>wK 5 v
 |.func f=>some (.fn f [] [])
 |.global _=>none
section
variable {φ:bY} {g:Nat→EV} {ρ:bD}
theorem aJ (hg:dI φ g ρ) {x:Operand} {a:EV} (h:bL g x=some a):aQ φ a (ev ρ x):=by
 cases x<;>simp only[bL] at h
 ·cases h;exact hg _
 ·exact lj _ _ _ h
 ·cases h
 ·cases h;exact ⟨[],[],rfl,rfl,rfl⟩
theorem ll (hg:dI φ g ρ) {l:List Operand} {m:List EV} (h:mL (bL g) l=some m):RelVs φ m (l.map (ev ρ)):=gT (fun _ _=>aJ hg) l m h
end
noncomputable def pP (g:Nat→EV):Option Operand→Option (Option Nat)
 |none=>some none
 |some x=>match bL g x with
  |some (.i _ n)=>(gH n).map some
  |_=>none
theorem od {φ:bY} {g:Nat→EV} {ρ:bD} (hg:dI φ g ρ) {x:Option Operand} {n:Option Nat} (h:pP g x=some n):rt (x.map (ev ρ)) n:=by
 cases x with
 |none=>cases h;trivial
 |some x=>
  unfold pP at h
  dsimp only at h
  split at h
  ·rename_i k i hx
   obtain ⟨j,hj,rfl⟩:=Option.map_eq_some_iff.1 h
   have:=aJ hg hx
   exact ⟨k,by rw[show ev ρ x=.int k i from this,eZ hj]⟩
  ·cases h
noncomputable def ke (T:TT):Nat→TypeId→EV→EV→Option Bool
 |0,_,_,_=>none
 |n+1,t,x,y=>match T t with
  |some i=>match i.d,x,y with
   |.bool,.b a,.b c=>some (a == c)
   |.int _,.i k a,.i k' c=>if k=k' then some (a == c) else none
   |.string,.s a,.s c=>some (m2 a c)
   |.array len e,.ag xs,.ag ys=>match T e with
    |some ie=>(mL (fun j=>match df T e xs (j*ie.size),df T e ys (j*ie.size) with
     |some a,some c=>ke T n e a c
     |_,_=>none) (List.range len)).map fun l=>l.all id
    |none=>none
   |.struct fs,.ag xs,.ag ys=>bif i.q then (mL (fun f:Field=>match df T f.type xs f.offset,df T f.type ys f.offset with
     |some a,some c=>ke T n f.type a c
     |_,_=>none) fs.toList).map fun l=>l.all id
    else none
   |_,_,_=>none
  |none=>none
theorem kg {P:Program} {α:Type} {body:α→Option Bool × Unit→Sem (ForInStep (Option Bool × Unit))} {w:World}:∀(l:List α) (bs:List Bool),bs.length=l.length →
  (∀(j:Nat) (i:α) b,l[j]?=some i→bs[j]?=some b→(body i (none,())).run P w=.ok (if b=true then .yield (none,()) else .done (some false,())) w) →
  (forIn l ((none,()):Option Bool × Unit) body).run P w=.ok (if bs.all id=true then (none,()) else (some false,())) w
 |[],bs,hl,_=>by
  have:bs=[]:=List.eq_nil_of_length_eq_zero hl
  subst this
  rfl
 |i::l,[],hl,_=>by cases hl
 |i::l,b::bs,hl,h=>by
  rw[List.forIn_cons,Sem.run_bind,h 0 i b rfl rfl]
  cases b with
  |true=>
   simp only[if_pos,Result.andThen_ok]
   rw[kg l bs (by simpa using hl) fun j i' b' h1 h2=>h (j+1) i' b' h1 h2]
   simp
  |false=>simp
theorem gU {P:Program} {φ:bY} {T:TT} (hT:cu P T) {w:World}:∀(n:Nat) (t:TypeId) (x y:EV) (a c:Value) (b:Bool),ke T n t x y=some b→aQ φ x a→aQ φ y c→∀d,n≤d→(Op.equalIn d t a c).run P w=.ok b w
 |0,_,_,_,_,_,_,h,_,_,_,_=>by cases h
 |n+1,t,x,y,a,c,b,h,hx,hy,d,hd=>by
  obtain ⟨d,rfl⟩:∃d',d=d'+1:=⟨d - 1,by omega⟩
  unfold ke at h
  split at h
  ·rename_i i hi
   have hu:=(hT t i hi).und
   split at h
   ·rename_i a' c' hdd
    rw[hdd] at hu
    have hx:a=.bool a':=hx
    have hy:c=.bool c':=hy
    cases h;subst hx hy
    simp[Op.equalIn,run_underlying hu]
   ·rename_i k0 k a' k' c' hdd
    rw[hdd] at hu
    have hx:a=.int k a':=hx
    have hy:c=.int k' c':=hy
    subst hx hy
    split at h
    ·rename_i e
     subst e
     cases h
     simp[Op.equalIn,run_underlying hu]
    ·cases h
   ·rename_i a' c' hdd
    rw[hdd] at hu
    have hx:a=.string a':=hx
    have hy:c=.string c':=hy
    cases h;subst hx hy
    have e:(a' == c')=decide (a'=c'):=by
     cases hb:(a' == c') with
     |true=>rw[qe ((MapKept.bytes_beq a' c').1 hb)]
     |false=>rw[qf fun q=>by rw[(MapKept.bytes_beq a' c').2 q] at hb;cases hb]
    rw[fT,←e]
    simp[Op.equalIn,run_underlying hu]
   ·rename_i len e xs ys hdd
    rw[hdd] at hu
    obtain ⟨vs,rfl,hv⟩:=hx
    obtain ⟨us,rfl,hu2⟩:=hy
    split at h
    ·rename_i ie hie
     have hTe:=hT e ie hie
     obtain ⟨bs,hbs,rfl⟩:=Option.map_eq_some_iff.1 h
     have hget:∀(l:List Nat) (bs:List Bool),mL (fun j=>match df T e xs (j*ie.size),df T e ys (j*ie.size) with
       |some a,some c=>ke T n e a c
       |_,_=>none) l=some bs→bs.length=l.length∧∀(j i:Nat) b,l[j]?=some i→bs[j]?=some b→∃p q,df T e xs (i*ie.size)=some p∧df T e ys (i*ie.size)=some q∧ke T n e p q=some b:=by
      intro l
      induction l with
      |nil=>intro bs hb;cases hb;exact ⟨rfl,fun j i b h=>by simp at h⟩
      |cons i0 l ih=>
       intro bs hb
       unfold mL at hb
       split at hb
       ·rename_i y m h1 h2
        cases hb
        obtain ⟨g1,g2⟩:=ih m h2
        refine ⟨by simp[g1],fun j i b h3 h4=>?_⟩
        cases j with
        |zero=>
         simp only[List.getElem?_cons_zero,Option.some.injEq] at h3 h4
         subst h3 h4
         split at h1
         ·rename_i p q e1 e2;exact ⟨p,q,e1,e2,h1⟩
         ·cases h1
        |succ j=>simp only[List.getElem?_cons_succ] at h3 h4;exact g2 j i b h3 h4
       ·cases hb
     obtain ⟨g1,g2⟩:=hget _ _ hbs
     rw[Op.equalIn]
     simp only[Sem.run_bind,run_underlying hu,Result.andThen_ok,hTe.sz]
     rw[Std.Legacy.Range.forIn_eq_forIn_range']
     have hr:List.range' 0 (Std.Legacy.Range.size [:len]) 1=List.range len:=by
      simp[Std.Legacy.Range.size,List.range_eq_range']
     rw[show List.range' ([:len]:Std.Legacy.Range).start ([:len]:Std.Legacy.Range).size ([:len]:Std.Legacy.Range).step=List.range len from hr]
     rw[kg (List.range len) bs g1 fun j i b h1 h2=>by
      obtain ⟨p,q,e1,e2,e3⟩:=g2 j i b h1 h2
      obtain ⟨v1,k1,k2⟩:=dY (w:=w) hT e1 hv
      obtain ⟨v2,k3,k4⟩:=dY (w:=w) hT e2 hu2
      have k5:=gU (w:=w) hT n e p q v1 v2 b e3 k2 k4 d (by omega)
      simp only[Sem.run_bind,k1,k3,k5,Result.andThen_ok]
      cases b<;>rfl]
     cases hall:bs.all id<;>simp
    ·cases h
   ·rename_i fs xs ys hdd
    have hq:=(hT t i hi).qd
    rw[hdd] at hu
    obtain ⟨vs,rfl,hv⟩:=hx
    obtain ⟨us,rfl,hu2⟩:=hy
    cases hqq:i.q with
    |false=>rw[hqq] at h;cases h
    |true=>
     rw[hqq] at h
     simp only[cond_true] at h
     obtain ⟨hs1,hs2⟩:=hq hqq
     have hs2:=hs2 fs hdd
     obtain ⟨bs,hbs,rfl⟩:=Option.map_eq_some_iff.1 h
     have hget:∀(l:List Field) (bs:List Bool),mL (fun f:Field=>match df T f.type xs f.offset,df T f.type ys f.offset with
       |some a,some c=>ke T n f.type a c
       |_,_=>none) l=some bs→bs.length=l.length∧∀(j:Nat) (f:Field) b,l[j]?=some f→bs[j]?=some b→∃p q,df T f.type xs f.offset=some p∧df T f.type ys f.offset=some q∧ke T n f.type p q=some b:=by
      intro l
      induction l with
      |nil=>intro bs hb;cases hb;exact ⟨rfl,fun j i b h=>by simp at h⟩
      |cons i0 l ih=>
       intro bs hb
       unfold mL at hb
       split at hb
       ·rename_i y m h1 h2
        cases hb
        obtain ⟨g1,g2⟩:=ih m h2
        refine ⟨by simp[g1],fun j i b h3 h4=>?_⟩
        cases j with
        |zero=>
         simp only[List.getElem?_cons_zero,Option.some.injEq] at h3 h4
         subst h3 h4
         split at h1
         ·rename_i p q e1 e2;exact ⟨p,q,e1,e2,h1⟩
         ·cases h1
        |succ j=>simp only[List.getElem?_cons_succ] at h3 h4;exact g2 j i b h3 h4
       ·cases hb
     obtain ⟨g1,g2⟩:=hget _ _ hbs
     rw[Op.equalIn]
     have hpr:(program:Sem Program).run P w=.ok P w:=rfl
     simp only[Sem.run_bind,run_underlying hu,Result.andThen_ok,hpr,hs1]
     rw[if_neg (by decide)]
     simp only[Sem.run_bind,Sem.run_pure,Result.andThen_ok]
     rw[←Array.forIn_toList]
     rw[kg fs.toList bs g1 fun j f b h1 h2=>by
      obtain ⟨p,q,e1,e2,e3⟩:=g2 j f b h1 h2
      obtain ⟨v1,k1,k2⟩:=dY (w:=w) hT e1 hv
      obtain ⟨v2,k3,k4⟩:=dY (w:=w) hT e2 hu2
      have k5:=gU (w:=w) hT n f.type p q v1 v2 b e3 k2 k4 d (by omega)
      rw[if_pos (hs2 f (qb h1))]
      simp only[Sem.run_bind,k1,k3,k5,Result.andThen_ok]
      cases b<;>rfl]
     cases hall:bs.all id<;>simp
   ·cases h
  ·cases h
noncomputable def yK (T:TT) (i:TI) (t:Nat) (v:EV) (ok:Bool):Option EV:=match i.d,T t with
 |.interface want,some it=>bif it.mi want then some (bif ok then .tu [.ifc t v,.b true] else .ifc t v) else bif ok then some (.tu [i.v,.b false]) else none
 |_,_=>none
noncomputable def Dl (T:TT) (g:Nat→EV) (op:Op):Option EV:=
 match op with
 |.move x | .assign x=>bL g x
 |.pick c a b=>match bL g c with
  |some (.b t)=>bif t then bL g a else bL g b
  |_=>none
 |.binOp op t x y _=>match bL g x,bL g y with
  |some a,some b=>match sw T op t y a b with
   |some z=>some z
   |none=>match op,a,b,T t with
    |.eql,.ag l,.ag m,some i=>bif i.g then (ke T 9 t (.ag l) (.ag m)).map EV.b else none
    |.neq,.ag l,.ag m,some i=>bif i.g then (ke T 9 t (.ag l) (.ag m)).map fun z=>.b (!z) else none
    |_,_,_,_=>none
  |_,_=>none
 |.unOp op _ x=>match bL g x with
  |some a=>Bp op a
  |none=>none
 |.extract x i=>match bL g x with
  |some (.tu l)=>l[i]?
  |_=>none
 |.nilCheck x=>match bL g x with
  |some (.p b off)=>some (.p b off)
  |_=>none
 |.fieldAddr t x f=>match bL g x with
  |some (.p b off)=>la T t f b off
  |_=>none
 |.field t x f=>match bL g x with
  |some (.ag cs)=>lb T t f cs
  |_=>none
 |.indexAddr t x y=>match bL g x,bL g y with
  |some a,some (.i _ n)=>oa T t a n
  |_,_=>none
 |.index t x y=>match bL g x,bL g y with
  |some a,some (.i _ n)=>sy T t a n
  |_,_=>none
 |.build t ps=>match mL (fun p:Nat × Operand=>bL g p.2) ps.toList with
  |some vs=>ld T t (ps.toList.map (·.1)) vs
  |none=>none
 |.slice t x lo hi mx=>match bL g x,pP g lo,pP g hi,pP g mx with
  |some a,some lo',some hi',some mx'=>Br T t a lo' hi' mx'
  |_,_,_,_=>none
 |.convert s d x=>match bL g x with
  |some a=>oc T s d a
  |none=>none
 |.makeInterface t x=>match bL g x with
  |some a=>sA T t a
  |none=>none
 |.makeFunc (.func f) a c=>match mL (bL g) a.toList,mL (bL g) c.toList with
  |some l,some m=>some (.fn f l m)
  |_,_=>none
 |.typeAssert x _ A ok=>match bL g x,T A with
  |some (.ifc t v),some i=>bif pO i.d then (bif Nat.beq t A then some (bif ok then .tu [v,.b true] else v) else bif ok then some (.tu [i.v,.b false]) else none) else yK T i t v ok
  |some .ni,some i=>bif pO i.d&&ok then some (.tu [i.v,.b false]) else none
  |_,_=>none
 |.call ⟨.builtin .len,ar,ts⟩=>match ar.toList,ts.toList with
  |[x],[t]=>match bL g x with
   |some a=>sB T t a
   |none=>none
  |_,_=>none
 |.call ⟨.builtin .cap,ar,ts⟩=>match ar.toList,ts.toList with
  |[x],[t]=>match bL g x with
   |some a=>sC T t a
   |none=>none
  |_,_=>none
 |.call ⟨.builtin .min,ar,_⟩=>match ar.toList with
  |[x,y]=>match bL g x,bL g y with
   |some (.i k a),some (.i k' b)=>if k=k' then some (.i k (if b<a then b else a)) else none
   |_,_=>none
  |_=>none
 |.call ⟨.builtin .max,ar,_⟩=>match ar.toList with
  |[x,y]=>match bL g x,bL g y with
   |some (.i k a),some (.i k' b)=>if k=k' then some (.i k (if a<b then b else a)) else none
   |_,_=>none
  |_=>none
 |_=>none
noncomputable def Bt (g:Nat→EV) (c a b:Operand):Option EV:=match bL g c with
 |some (.b t)=>bif t then bL g a else bL g b
 |_=>none
noncomputable def Bu (T:TT) (op:BinOp) (t:TypeId) (a b:EV):Option EV:=match op,a,b,T t with
 |.eql,.ag l,.ag m,some i=>bif i.g then (ke T 9 t (.ag l) (.ag m)).map EV.b else none
 |.neq,.ag l,.ag m,some i=>bif i.g then (ke T 9 t (.ag l) (.ag m)).map fun z=>.b (!z) else none
 |_,_,_,_=>none
noncomputable def Dm (T:TT) (g:Nat→EV) (op:BinOp) (t:TypeId) (x y:Operand):Option EV:=match bL g x,bL g y with
 |some a,some b=>match sw T op t y a b with
  |some z=>some z
  |none=>Bu T op t a b
 |_,_=>none
noncomputable def Eg (g:Nat→EV) (op:UnOp) (x:Operand):Option EV:=match bL g x with
 |some a=>Bp op a
 |none=>none
noncomputable def Dn (g:Nat→EV) (x:Operand) (i:Nat):Option EV:=match bL g x with
 |some (.tu l)=>l[i]?
 |_=>none
noncomputable def Do (g:Nat→EV) (x:Operand):Option EV:=match bL g x with
 |some (.p b off)=>some (.p b off)
 |_=>none
noncomputable def Eh (T:TT) (g:Nat→EV) (t:Nat) (x:Operand) (f:Nat):Option EV:=match bL g x with
 |some (.p b off)=>la T t f b off
 |_=>none
noncomputable def Ei (T:TT) (g:Nat→EV) (t:Nat) (x:Operand) (f:Nat):Option EV:=match bL g x with
 |some (.ag cs)=>lb T t f cs
 |_=>none
noncomputable def Ej (T:TT) (g:Nat→EV) (t:Nat) (x y:Operand):Option EV:=match bL g x,bL g y with
 |some a,some (.i _ n)=>oa T t a n
 |_,_=>none
noncomputable def Ek (T:TT) (g:Nat→EV) (t:Nat) (x y:Operand):Option EV:=match bL g x,bL g y with
 |some a,some (.i _ n)=>sy T t a n
 |_,_=>none
noncomputable def Dp (T:TT) (g:Nat→EV) (t:Nat) (ps:Array (Nat × Operand)):Option EV:=match mL (fun p:Nat × Operand=>bL g p.2) ps.toList with
 |some vs=>ld T t (ps.toList.map (·.1)) vs
 |none=>none
noncomputable def El (T:TT) (g:Nat→EV) (t:Nat) (x:Operand) (lo hi mx:Option Operand):Option EV:=match bL g x,pP g lo,pP g hi,pP g mx with
 |some a,some lo',some hi',some mx'=>Br T t a lo' hi' mx'
 |_,_,_,_=>none
noncomputable def Em (T:TT) (g:Nat→EV) (s d:Nat) (x:Operand):Option EV:=match bL g x with
 |some a=>oc T s d a
 |none=>none
noncomputable def En (T:TT) (g:Nat→EV) (t:Nat) (x:Operand):Option EV:=match bL g x with
 |some a=>sA T t a
 |none=>none
noncomputable def Eo (g:Nat→EV) (fn:Go.Fn) (a c:Array Operand):Option EV:=match fn with
 |.func f=>match mL (bL g) a.toList,mL (bL g) c.toList with
  |some l,some m=>some (.fn f l m)
  |_,_=>none
 |_=>none
noncomputable def Ep (T:TT) (g:Nat→EV) (x:Operand) (A:TypeId) (ok:Bool):Option EV:=match bL g x,T A with
 |some (.ifc t v),some i=>bif pO i.d then (bif Nat.beq t A then some (bif ok then .tu [v,.b true] else v) else bif ok then some (.tu [i.v,.b false]) else none) else yK T i t v ok
 |some .ni,some i=>bif pO i.d&&ok then some (.tu [i.v,.b false]) else none
 |_,_=>none
noncomputable def Dq (T:TT) (g:Nat→EV) (ar:Array Operand) (ts:Array TypeId):Option EV:=match ar.toList,ts.toList with
 |[x],[t]=>match bL g x with
  |some a=>sB T t a
  |none=>none
 |_,_=>none
noncomputable def Dr (T:TT) (g:Nat→EV) (ar:Array Operand) (ts:Array TypeId):Option EV:=match ar.toList,ts.toList with
 |[x],[t]=>match bL g x with
  |some a=>sC T t a
  |none=>none
 |_,_=>none
noncomputable def Ds (g:Nat→EV) (ar:Array Operand):Option EV:=match ar.toList with
 |[x,y]=>match bL g x,bL g y with
  |some (.i k a),some (.i k' b)=>if k=k' then some (.i k (if b<a then b else a)) else none
  |_,_=>none
 |_=>none
noncomputable def Dt (g:Nat→EV) (ar:Array Operand):Option EV:=match ar.toList with
 |[x,y]=>match bL g x,bL g y with
  |some (.i k a),some (.i k' b)=>if k=k' then some (.i k (if a<b then b else a)) else none
  |_,_=>none
 |_=>none
noncomputable def Eq (T:TT) (g:Nat→EV) (b:Builtin) (ar:Array Operand) (ts:Array TypeId):Option EV:=match b with
 |.len=>Dq T g ar ts
 |.cap=>Dr T g ar ts
 |.min=>Ds g ar
 |.max=>Dt g ar
 |_=>none
noncomputable def Er (T:TT) (g:Nat→EV) (c:Call):Option EV:=match c with
 |⟨.builtin b,ar,ts⟩=>Eq T g b ar ts
 |_=>none
noncomputable def Es (T:TT) (g:Nat→EV) (op:Op):Option EV:=
 match op with
 |.move x=>bL g x
 |.assign x=>bL g x
 |.pick c a b=>Bt g c a b
 |.binOp op t x y _=>Dm T g op t x y
 |.unOp op _ x=>Eg g op x
 |.extract x i=>Dn g x i
 |.nilCheck x=>Do g x
 |.fieldAddr t x f=>Eh T g t x f
 |.field t x f=>Ei T g t x f
 |.indexAddr t x y=>Ej T g t x y
 |.index t x y=>Ek T g t x y
 |.build t ps=>Dp T g t ps
 |.slice t x lo hi mx=>El T g t x lo hi mx
 |.convert s d x=>Em T g s d x
 |.makeInterface t x=>En T g t x
 |.makeFunc fn a c=>Eo g fn a c
 |.typeAssert x _ A ok=>Ep T g x A ok
 |.call c=>Er T g c
 |_=>none
theorem Du (T:TT) (g:Nat→EV) (op:Op):Es T g op=Dl T g op:=by
 cases op<;>try rfl
 case makeFunc fn a c=>cases fn<;>rfl
 case call c=>
  obtain ⟨cl,ar,ts⟩:=c
  cases cl<;>try rfl
  rename_i b
  cases b<;>rfl
theorem e7 {P:Program} {s:Sem Value} {v:Value} {w w':World} (h:s.run P w=.ok v w'):(do pure (Next.value (←s)):Sem Next).run P w=.ok (.value v) w':=by
 rw[Sem.run_bind,h];rfl
theorem wM {α:Type} {a:Array α} {x:α} (h:a.toList=[x]):a=#[x]:=Array.toList_inj.1 h
theorem wN {α:Type} {a:Array α} {x y:α} (h:a.toList=[x,y]):a=#[x,y]:=Array.toList_inj.1 h
section
variable {P:Program} {φ:bY} {g:Nat→EV} {ρ:bD} {w:World} {T:TT}
theorem Bv (hT:cu P T) (hg:dI φ g ρ) {o:Oper} {x:EV} (h:Dl T g o.op=some x):∃v,(execOp (ev ρ) o).run P w=.ok (.value v) w∧aQ φ x v:=by
 obtain ⟨dst,op,ty,pos,af,gu⟩:=o
 dsimp only at h
 unfold Dl at h
 split at h
 ·exact ⟨_,rfl,aJ hg h⟩
 ·exact ⟨_,rfl,aJ hg h⟩
 ·split at h
  ·rename_i c a b _ t hc
   have hc:ev ρ c=.bool t:=aJ hg hc
   cases t
   ·exact ⟨_,by simp[execOp,hc,asBool],aJ hg h⟩
   ·exact ⟨_,by simp[execOp,hc,asBool],aJ hg h⟩
  ·cases h
 ·split at h
  ·rename_i op t x y u _ _ a b hx hy
   split at h
   ·rename_i z hz
    cases h
    obtain ⟨v,h1,h2⟩:=yE (w:=w) (p:=x) hT hz (aJ hg hx) (aJ hg hy)
    exact ⟨v,e7 h1,h2⟩
   ·split at h
    ·rename_i l m i hi _
     cases hgd:i.g with
     |false=>rw[hgd] at h;cases h
     |true=>
      rw[hgd] at h
      obtain ⟨r,hr,rfl⟩:=Option.map_eq_some_iff.1 h
      obtain ⟨vs,e1,h1⟩:=aJ hg hx
      obtain ⟨us,e2,h2⟩:=aJ hg hy
      have he:=gU (w:=w) hT 9 t _ _ _ _ r hr ⟨vs,e1,h1⟩ ⟨us,e2,h2⟩ 10000 (by omega)
      have hgg:=(hT t i hi).gd hgd
      refine ⟨.bool r,?_,Z⟩
      rw[e1,e2] at he
      simp only[execOp,e1,e2]
      simp[run_eqGuard_agg w .eql t x y vs.toArray us.toArray hgg,run_eql_struct,he]
    ·rename_i l m i hi _
     cases hgd:i.g with
     |false=>rw[hgd] at h;cases h
     |true=>
      rw[hgd] at h
      obtain ⟨r,hr,rfl⟩:=Option.map_eq_some_iff.1 h
      obtain ⟨vs,e1,h1⟩:=aJ hg hx
      obtain ⟨us,e2,h2⟩:=aJ hg hy
      have he:=gU (w:=w) hT 9 t _ _ _ _ r hr ⟨vs,e1,h1⟩ ⟨us,e2,h2⟩ 10000 (by omega)
      have hgg:=(hT t i hi).gd hgd
      refine ⟨.bool (!r),?_,Z⟩
      rw[e1,e2] at he
      simp only[execOp,e1,e2]
      simp[run_eqGuard_agg w .neq t x y vs.toArray us.toArray hgg,run_neq_struct,he]
    ·cases h
  ·cases h
 ·split at h
  ·rename_i a hx
   obtain ⟨v,h1,h2⟩:=Bq (P:=P) (w:=w) h (aJ hg hx)
   exact ⟨v,e7 h1,h2⟩
  ·cases h
 ·split at h
  ·rename_i x i _ l hx
   obtain ⟨vs,he,h1⟩:=aJ hg hx
   obtain ⟨v,h2,h3⟩:=h1.get h
   refine ⟨v,e7 ?_,h3⟩
   rw[he]
   simp[Instr.extract,h2]
  ·cases h
 ·split at h
  ·rename_i x _ b off hx
   cases h
   obtain ⟨q,hq,he⟩:=aJ hg hx
   exact ⟨_,by simp[execOp,he],q,hq,rfl⟩
  ·cases h
 ·split at h
  ·rename_i hx
   obtain ⟨v,h1,h2⟩:=rp (w:=w) hT h (aJ hg hx)
   exact ⟨v,e7 h1,h2⟩
  ·cases h
 ·split at h
  ·rename_i hx
   obtain ⟨v,h1,h2⟩:=rq (w:=w) hT h (aJ hg hx)
   exact ⟨v,e7 h1,h2⟩
  ·cases h
 ·split at h
  ·rename_i hx hy
   obtain ⟨v,h1,h2⟩:=wI (w:=w) hT h (aJ hg hx) (aJ hg hy)
   exact ⟨v,e7 h1,h2⟩
  ·cases h
 ·split at h
  ·rename_i hx hy
   obtain ⟨v,h1,h2⟩:=yF (w:=w) hT h (aJ hg hx) (aJ hg hy)
   exact ⟨v,e7 h1,h2⟩
  ·cases h
 ·split at h
  ·rename_i t ps _ vs hx
   have h1:=gT (φ:=φ) (g:=fun p:Nat × Operand=>ev ρ p.2) (fun p a hp=>aJ hg hp) ps.toList vs hx
   obtain ⟨v,h2,h3⟩:=ru (w:=w) (parts:=ps.toList.map fun p=>(p.1,ev ρ p.2)) hT (by rw[List.map_map];exact h) (by rw[List.map_map];exact h1)
   refine ⟨v,e7 ?_,h3⟩
   have e:((ps.toList.map fun p=>(p.1,ev ρ p.2)).toArray)=ps.map fun p=>(p.1,ev ρ p.2):=by apply Array.toList_inj.1;simp
   rw[e] at h2
   exact h2
  ·cases h
 ·split at h
  ·rename_i hx h1 h2 h3
   obtain ⟨v,h4,h5⟩:=Bs (w:=w) hT h (aJ hg hx) (od hg h1) (od hg h2) (od hg h3)
   exact ⟨v,e7 h4,h5⟩
  ·cases h
 ·split at h
  ·rename_i hx
   obtain ⟨v,h1,h2⟩:=wJ (w:=w) hT h (aJ hg hx)
   exact ⟨v,e7 h1,h2⟩
  ·cases h
 ·split at h
  ·rename_i hx
   obtain ⟨v,h1,h2⟩:=yG (w:=w) hT h (aJ hg hx)
   exact ⟨v,e7 h1,h2⟩
  ·cases h
 ·split at h
  ·rename_i f a c _ _ l m h1 h2
   cases h
   refine ⟨.func (.func f) (a.map (ev ρ)) (c.map (ev ρ)),by simp[execOp,Instr.makeFunc],_,_,?_,ll hg h1,ll hg h2⟩
   congr 1<;>(apply Array.toList_inj.1;simp)
  ·cases h
 ·rename_i x' X A ok
  split at h
  ·rename_i t v i hx hi
   obtain ⟨u,he,hr⟩:=aJ hg hx
   have hu:=(hT A i hi).und
   obtain ⟨zv,hz,hzr⟩:=(hT A i hi).zeroV
   cases hd:pO i.d with
   |false=>
    rw[hd] at h
    simp only[cond_false] at h
    unfold yK at h
    split at h
    ·rename_i want it hw hit
     rw[hw] at hu
     obtain ⟨f,hf,hmi⟩:=(hT t it hit).md
     have hmi:=hmi want
     have hpr:∀w,(program:Sem Program).run P w=.ok P w:=fun _=>rfl
     have hti:∀w,(typeInfo t).run P w=.ok f w:=fun w=>by
      simp only[typeInfo,Sem.run_bind,hpr,Result.andThen_ok,hf]
      rfl
     cases hb:it.mi want with
     |true=>
      rw[hb] at h hmi
      have hm:Instr.missingMethod want f.methods=none:=Option.isNone_iff_eq_none.1 hmi
      cases ok with
      |true=>
       cases h
       refine ⟨.tuple #[.iface t u,.bool true],?_,[.iface t u,.bool true],Z,_,_,Z,⟨u,Z,hr⟩,_,_,Z,Z,Z⟩
       simp only[execOp,Instr.typeAssert,Sem.run_bind,run_underlying hu,he,Result.andThen_ok,hti,hm]
       rfl
      |false=>
       cases h
       refine ⟨.iface t u,?_,⟨u,Z,hr⟩⟩
       simp only[execOp,Instr.typeAssert,Sem.run_bind,run_underlying hu,he,Result.andThen_ok,hti,hm]
       rfl
     |false=>
      rw[hb] at h hmi
      cases ok with
      |false=>cases h
      |true=>
       cases h
       obtain ⟨m,hm⟩:∃m,Instr.missingMethod want f.methods=some m:=by
        cases hq:Instr.missingMethod want f.methods with
        |none=>rw[hq] at hmi;cases hmi
        |some m=>exact ⟨m,rfl⟩
       refine ⟨.tuple #[zv,.bool false],?_,[zv,.bool false],Z,_,_,Z,hzr φ,_,_,Z,Z,Z⟩
       simp only[execOp,Instr.typeAssert,Sem.run_bind,run_underlying hu,he,Result.andThen_ok,hti,hm,if_true,hz]
       rfl
    ·cases h
   |true=>
    rw[hd] at h
    simp only[cond_true] at h
    cases htA:Nat.beq t A with
    |true=>
     rw[htA] at h
     have htA:=Nat.eq_of_beq_eq_true htA
     subst htA
     cases ok with
     |true=>
      cases h
      refine ⟨.tuple #[u,.bool true],?_,[u,.bool true],Z,_,_,Z,hr,_,_,Z,Z,Z⟩
      simp only[execOp,Instr.typeAssert,Sem.run_bind,run_underlying hu,he]
      revert hd
      cases i.d<;>intro hd<;>first|(simp;done)|cases hd
     |false=>
      cases h
      refine ⟨u,?_,hr⟩
      simp only[execOp,Instr.typeAssert,Sem.run_bind,run_underlying hu,he]
      revert hd
      cases i.d<;>intro hd<;>first|(simp;done)|cases hd
    |false=>
     rw[htA] at h
     have hne:¬t=A:=fun e=>by rw[e,show Nat.beq A A=true from Nat.beq_refl A] at htA;cases htA
     cases ok with
     |false=>cases h
     |true=>
      cases h
      refine ⟨.tuple #[zv,.bool false],?_,[zv,.bool false],Z,_,_,Z,hzr φ,_,_,Z,Z,Z⟩
      simp only[execOp,Instr.typeAssert,Sem.run_bind,run_underlying hu,he]
      revert hd
      cases i.d<;>intro hd<;>first|(simp[hne,hz];done)|cases hd
  ·rename_i i hx hi
   have he:ev ρ x'=.nilIface:=aJ hg hx
   have hu:=(hT A i hi).und
   obtain ⟨zv,hz,hzr⟩:=(hT A i hi).zeroV
   cases hd:pO i.d with
   |false=>rw[hd] at h;cases h
   |true=>
    rw[hd] at h
    cases ok with
    |false=>cases h
    |true=>
     cases h
     refine ⟨.tuple #[zv,.bool false],?_,[zv,.bool false],Z,_,_,Z,hzr φ,_,_,Z,Z,Z⟩
     simp only[execOp,Instr.typeAssert,Sem.run_bind,run_underlying hu,he]
     revert hd
     cases i.d<;>intro hd<;>first|(simp[hz];done)|cases hd
  ·cases h
 ·split at h
  ·rename_i ar ts _ _ x t h1 h2
   have h1:=wM h1
   have h2:=wM h2
   subst h1 h2
   split at h
   ·rename_i a hx
    obtain ⟨v,h3,h4⟩:=yH (w:=w) (ty:=ty) hT h (aJ hg hx)
    exact ⟨v,by simp[execOp,resolve,invoke,builtin,h3],h4⟩
   ·cases h
  ·cases h
 ·split at h
  ·rename_i ar ts _ _ x t h1 h2
   have h1:=wM h1
   have h2:=wM h2
   subst h1 h2
   split at h
   ·rename_i a hx
    obtain ⟨v,h3,h4⟩:=yI (w:=w) (ty:=ty) hT h (aJ hg hx)
    exact ⟨v,by simp[execOp,resolve,invoke,builtin,h3],h4⟩
   ·cases h
  ·cases h
 ·split at h
  ·rename_i ar ts _ x y h1
   have h1:=wN h1
   subst h1
   split at h
   ·rename_i k a k' b hx hy
    have hx:ev ρ x=.int k a:=aJ hg hx
    have hy:ev ρ y=.int k' b:=aJ hg hy
    split at h
    ·rename_i e
     subst e
     cases h
     refine ⟨.int k (if b<a then b else a),?_,Z⟩
     simp[execOp,resolve,invoke,builtin,hx,hy,Builtin.min_,Builtin.min2,Result.andThen]
    ·cases h
   ·cases h
  ·cases h
 ·split at h
  ·rename_i ar ts _ x y h1
   have h1:=wN h1
   subst h1
   split at h
   ·rename_i k a k' b hx hy
    have hx:ev ρ x=.int k a:=aJ hg hx
    have hy:ev ρ y=.int k' b:=aJ hg hy
    split at h
    ·rename_i e
     subst e
     cases h
     refine ⟨.int k (if a<b then b else a),?_,Z⟩
     simp[execOp,resolve,invoke,builtin,hx,hy,Builtin.max_,Builtin.max2,Result.andThen]
    ·cases h
   ·cases h
  ·cases h
 ·cases h
theorem yL (hT:cu P T) (hg:dI φ g ρ) {o:Oper} {x:EV} (h:Es T g o.op=some x):∃v,(execOp (ev ρ) o).run P w=.ok (.value v) w∧aQ φ x v:=Bv hT hg (Du T g o.op▸h)
end
end
section
open Go.Proofs
def fB:TypeDesc→EV→Bool
 |.bool,.b _=>true
 |.int k,.i k' _=>decide (k'=k)
 |.string,.s _=>true
 |_,_=>false
def f6:EV→EV→Bool
 |.b a,.b b=>a == b
 |.i k n,.i k' m=>decide (k=k')&&decide (n=m)
 |.s a,.s b=>m2 a b
 |_,_=>false
def kD (k:EV):List (EV × EV)→Nat→Option (Nat × EV)
 |[],_=>none
 |x::l,i=>bif f6 k x.1 then some (i,x.2) else kD k l (i+1)
theorem gV {φ:bY} {d:TypeDesc} {x:EV} {v:Value} (h:fB d x=true) (hr:aQ φ x v):MapKept.IsKey d v:=by
 cases d<;>cases x<;>simp only[fB] at h<;>first|(cases h;done)|skip
 ·have hr:v=.bool _:=hr
  subst hr;trivial
 ·have hr:v=.int _ _:=hr
  subst hr;have h2:=of_decide_eq_true h;exact h2
 ·have hr:v=.string _:=hr
  subst hr;trivial
theorem wO {φ:bY} {d:TypeDesc} {x y:EV} {v u:Value} (h:fB d x=true) (k:fB d y=true) (hr:aQ φ x v) (kr:aQ φ y u):f6 x y=true↔v=u:=by
 cases d<;>cases x<;>simp only[fB] at h<;>first|(cases h;done)|skip
 all_goals (cases y<;>simp only[fB] at k<;>first|(cases k;done)|skip)
 ·have hr:v=.bool _:=hr
  have kr:u=.bool _:=kr
  subst hr kr;simp[f6]
 ·have hr:v=.int _ _:=hr
  have kr:u=.int _ _:=kr
  subst hr kr;simp[f6]
 ·have hr:v=.string _:=hr
  have kr:u=.string _:=kr
  subst hr kr;simp[f6,fT]
theorem pQ {φ:bY} {d:TypeDesc} {k:EV} {kv:Value} (hk:fB d k=true) (hr:aQ φ k kv):∀(es:List (EV × EV)) (ms:List MapEntry) (i:Nat),cg φ es ms→es.all (fun x=>fB d x.1)=true →
  (kD k es i=none∧Instr.findNow d kv ms i=some none∧∀x∈ms,x.key≠kv)∨∃j x e,kD k es i=some (i+j,x)∧Instr.findNow d kv ms i=some (some (i+j,e.val))∧aQ φ x e.val∧ms[j]?=some e∧e.key=kv
 |[],ms,i,h,_=>by
  have h:ms=[]:=h
  subst h
  exact .inl ⟨rfl,rfl,by simp⟩
 |x::es,ms,i,h,ha=>by
  obtain ⟨e,r,rfl,h1,h2,h3⟩:=h
  simp only[List.all_cons,qg] at ha
  obtain ⟨s,hs,hiff⟩:=MapKept.sameNow_of_keys (gV hk hr) (gV ha.1 h1)
  have hke:=wO hk ha.1 hr h1
  unfold kD
  cases s with
  |true=>
   have he:=hiff.1 rfl
   have:f6 k x.1=true:=hke.2 he
   rw[this]
   exact .inr ⟨0,x.2,e,rfl,by simp[Instr.findNow,hs],h2,rfl,he.symm⟩
  |false=>
   have hne:kv≠e.key:=fun q=>by have:=hiff.2 q;cases this
   have:f6 k x.1=false:=by cases q:f6 k x.1 with
    |false=>rfl
    |true=>exact absurd (hke.1 q) hne
   rw[this]
   rcases pQ hk hr es r (i+1) h3 ha.2 with ⟨g1,g2,g3⟩|⟨j,y,e',g1,g2,g3,g4,g5⟩
   ·refine .inl ⟨g1,by simp[Instr.findNow,hs,g2],fun z hz=>?_⟩
    rcases List.mem_cons.1 hz with rfl|hz
    ·exact fun q=>hne q.symm
    ·exact g3 z hz
   ·refine .inr ⟨j+1,y,e',?_,?_,g3,by simpa using g4,g5⟩
    ·show kD k es (i+1)=_
     rw[g1];congr 2;omega
    ·simp[Instr.findNow,hs,g2];omega
def sD:EV→Bool
 |.b _=>true
 |.i _ _=>true
 |.s _=>true
 |_=>false
def rv:List EV→List EV→Bool
 |[],[]=>true
 |x::l,y::m=>f6 x y&&rv l m
 |_,_=>false
def oe:EV→EV→Bool
 |.ag l,.ag m=>rv l m
 |_,_=>false
noncomputable def rx (T:TT) (i:TI):EV→Bool
 |.ag l=>match i.d with
  |.struct fs=>l.all sD&&i.q&&fs.toList.all fun f=>match T f.type,df T f.type l f.offset with
   |some j,some x=>fB j.d x
   |_,_=>false
  |_=>false
 |_=>false
noncomputable def sE (T:TT) (kt:Nat) (k:EV):List (EV × EV)→Nat→Option (Option (Nat × EV))
 |[],_=>some none
 |x::l,i=>match ke T 5 kt k x.1 with
  |some true=>bif oe k x.1 then some (some (i,x.2)) else none
  |some false=>sE T kt k l (i+1)
  |none=>none
noncomputable def kE (T:TT) (kt:Nat) (i:TI) (k:EV) (es:List (EV × EV)):Option (Option (Nat × EV)):=
 bif fB i.d k then (bif es.all (fun x=>fB i.d x.1) then some (kD k es 0) else none)
 else bif rx T i k then sE T kt k es 0 else none
theorem yM {φ:bY} {x y:EV} {v u:Value} (h:f6 x y=true) (hr:aQ φ x v) (kr:aQ φ y u):v=u:=by
 cases x<;>cases y<;>simp only[f6] at h<;>first|(cases h;done)|skip
 ·have hr:v=.bool _:=hr
  have kr:u=.bool _:=kr
  subst hr kr
  rw[eq_of_beq h]
 ·have hr:v=.int _ _:=hr
  have kr:u=.int _ _:=kr
  simp only[qg,qh] at h
  subst hr kr
  rw[h.1,h.2]
 ·have hr:v=.string _:=hr
  have kr:u=.string _:=kr
  subst hr kr
  rw[fT] at h
  rw[of_decide_eq_true h]
theorem nE {φ:bY}:∀{x y:List EV} {v u:List Value},rv x y=true→RelVs φ x v→RelVs φ y u→v=u
 |[],[],v,u,_,hr,kr=>by
  have hr:v=[]:=hr
  have kr:u=[]:=kr
  rw[hr,kr]
 |[],_::_,_,_,h,_,_=>by cases h
 |_::_,[],_,_,h,_,_=>by cases h
 |x::l,y::m,_,_,h,⟨v,vs,e1,a1,a2⟩,⟨u,us,e2,b1,b2⟩=>by
  have h:=(qg _ _).mp h
  rw[e1,e2,yM h.1 a1 b1,nE h.2 a2 b2]
theorem wQ {φ:bY} {x y:EV} {v u:Value} (h:oe x y=true) (hr:aQ φ x v) (kr:aQ φ y u):v=u:=by
 cases x<;>cases y<;>simp only[oe] at h<;>first|(cases h;done)|skip
 obtain ⟨vs,rfl,h1⟩:=hr
 obtain ⟨us,rfl,h2⟩:=kr
 rw[nE h h1 h2]
theorem wR {φ:bY} {x:EV} {v:Value} (n:Nat) (h:sD x=true) (hr:aQ φ x v):Instr.sameBits (n+1) v v=true:=by
 cases x<;>simp only[sD] at h<;>first|(cases h;done)|skip
 ·have hr:v=.bool _:=hr
  subst hr;simp[Instr.sameBits]
 ·have hr:v=.int _ _:=hr
  subst hr;simp[Instr.sameBits]
 ·have hr:v=.string _:=hr
  subst hr;simp[Instr.sameBits,MapKept.bytes_beq]
theorem mw {φ:bY} (n:Nat):∀{x:List EV} {v:List Value},x.all sD=true→RelVs φ x v→((v.zip v).all fun q=>Instr.sameBits (n+1) q.1 q.2)=true
 |[],v,_,hr=>by
  have hr:v=[]:=hr
  subst hr;rfl
 |x::l,_,h,⟨v,vs,e,a1,a2⟩=>by
  simp only[List.all_cons,qg] at h
  subst e
  simp only[List.zip_cons_cons,List.all_cons,wR n h.1 a1,Bool.true_and]
  exact mw n h.2 a2
theorem pR {P:Program} {α:Type} {body:α→PUnit→Sem (ForInStep PUnit)} {w:World}:∀(l:List α),(∀f∈l,(body f ⟨⟩).run P w=.ok (.yield ⟨⟩) w)→(forIn l PUnit.unit body).run P w=.ok ⟨⟩ w
 |[],_=>rfl
 |f::l,h=>by
  rw[List.forIn_cons,Sem.run_bind,h f (.head _)]
  exact pR l fun g hg=>h g (.tail _ hg)
theorem pS {P:Program} {φ:bY} {T:TT} (hT:cu P T) {kt:Nat} {k:EV} {kv:Value} (hr:aQ φ k kv):∀(es:List (EV × EV)) (ms:List MapEntry) (i:Nat) (r:Option (Nat × EV)),cg φ es ms→sE T kt k es i=some r →
  (r=none∧∀w,(Instr.findAsking kt kv ms i).run P w=.ok none w)∨∃j x e,r=some (i+j,x)∧(∀w,(Instr.findAsking kt kv ms i).run P w=.ok (some (i+j,e.val)) w)∧aQ φ x e.val∧ms[j]?=some e∧e.key=kv
 |[],ms,i,r,h,hf=>by
  have h:ms=[]:=h
  subst h
  cases hf
  exact .inl ⟨rfl,fun _=>rfl⟩
 |x::es,ms,i,r,h,hf=>by
  obtain ⟨e,q,rfl,h1,h2,h3⟩:=h
  unfold sE at hf
  split at hf
  ·rename_i hq
   have he:∀w,(Op.equal kt kv e.key).run P w=.ok true w:=fun w=>gU hT 5 kt k x.1 kv e.key true hq hr h1 _ (by decide)
   cases hk:oe k x.1 with
   |false=>rw[hk] at hf;cases hf
   |true=>
    rw[hk] at hf
    cases hf
    refine .inr ⟨0,x.2,e,Z,fun w=>?_,h2,Z,(wQ hk hr h1).symm⟩
    simp[Instr.findAsking,he w]
  ·rename_i hq
   have he:∀w,(Op.equal kt kv e.key).run P w=.ok false w:=fun w=>gU hT 5 kt k x.1 kv e.key false hq hr h1 _ (by decide)
   rcases pS hT hr es q (i+1) r h3 hf with ⟨g1,g2⟩|⟨j,y,e',g1,g2,g3,g4,g5⟩
   ·exact .inl ⟨g1,fun w=>by simp[Instr.findAsking,he w,g2 w]⟩
   ·have e1:i+1+j=i+(j+1):=by omega
    refine .inr ⟨j+1,y,e',by rw[g1,e1],fun w=>?_,g3,by simpa using g4,g5⟩
    simp[Instr.findAsking,he w,g2 w,e1]
  ·cases hf
theorem fC {P:Program} {φ:bY} {T:TT} (hT:cu P T) {kt:Nat} {i:TI} (hi:T kt=some i) {k:EV} {kv:Value} (hr:aQ φ k kv) {es:List (EV × EV)} {ms:List MapEntry} {r:Option (Nat × EV)} (h:cg φ es ms) (hf:kE T kt i k es=some r) :
  (∀w b,(Instr.checkKey b 10000 kt kv).run P w=.ok () w)∧(∀w,(Instr.keyThatStays kv kv).run P w=.ok kv w) ∧
  ((r=none∧∀w,(Instr.findKey kt kv ms).run P w=.ok none w)∨∃j x e,r=some (j,x)∧(∀w,(Instr.findKey kt kv ms).run P w=.ok (some (j,e.val)) w)∧aQ φ x e.val∧ms[j]?=some e∧e.key=kv):=by
 have hku:=(hT kt i hi).und
 unfold kE at hf
 cases hk:fB i.d k with
 |true=>
  rw[hk] at hf
  cases hb:es.all (fun x=>fB i.d x.1) with
  |false=>rw[hb] at hf;cases hf
  |true=>
   rw[hb] at hf
   simp only[cond_true,Option.some.injEq] at hf
   have hkk:=gV hk hr
   refine ⟨fun w b=>MapKept.run_checkKey hku hkk b 9999,fun w=>MapKept.run_keyThatStays hkk,?_⟩
   rcases pQ hk hr es ms 0 h hb with ⟨g1,g2,_⟩|⟨j,y,e,g1,g2,g3,g4,g5⟩
   ·exact .inl ⟨by rw[←hf,g1],fun w=>MapKept.run_findKey hku g2⟩
   ·rw[Nat.zero_add] at g1 g2
    exact .inr ⟨j,y,e,by rw[←hf,g1],fun w=>MapKept.run_findKey hku g2,g3,g4,g5⟩
 |false=>
  rw[hk] at hf
  cases hw:rx T i k with
  |false=>rw[hw] at hf;cases hf
  |true=>
   rw[hw] at hf
   simp only[cond_false,cond_true] at hf
   unfold rx at hw
   split at hw
   ·rename_i l
    obtain ⟨vs,rfl,hvs⟩:=hr
    split at hw
    ·rename_i fs hfs
     simp only[qg] at hw
     obtain ⟨⟨hl,hq⟩,hall⟩:=hw
     rw[hfs] at hku
     have hnm:=((hT kt i hi).qd hq).2 fs hfs
     refine ⟨fun w b=>?_,fun w=>?_,?_⟩
     ·rw[show (10000:Nat)=9999+1 from rfl]
      rw[Instr.checkKey]
      simp only[Sem.run_bind,run_underlying hku,Result.andThen_ok]
      rw[←Array.forIn_toList]
      refine (congrArg (fun r=>Result.andThen r _) (pR fs.toList fun f hf=>?_)).trans Z
      have hn:=hnm f hf
      have hz:=List.all_eq_true.1 hall f hf
      split at hz
      ·rename_i j x hj hx
       obtain ⟨v,hv,hvr⟩:=dY (w:=w) hT hx hvs
       have hkc:=MapKept.run_checkKey (P:=P) (w:=w) ((hT f.type j hj).und) (gV hz hvr) b 9998
       simp[hn,hv,hkc]
      ·cases hz
     ·have hb:∀n,Instr.sameBits (n+2) (.agg vs.toArray) (.agg vs.toArray)=true:=fun n=>by
       simp only[Instr.sameBits,beq_self_eq_true,Bool.true_and]
       exact mw n hl hvs
      unfold Instr.keyThatStays
      rw[if_pos (hb 9998)];rfl
     ·have hw:(match P.underlying kt with|some (.array _ _)|some (.struct _)=>true|_=>false)=true:=by rw[hku]
      rcases pS hT (show aQ φ (.ag l) (.agg vs.toArray) from ⟨vs,rfl,hvs⟩) es ms 0 r h hf with ⟨g1,g2⟩|⟨j,y,e,g1,g2,g3,g4,g5⟩
      ·exact .inl ⟨g1,fun w=>by rw[run_findKey_eq w hw];exact g2 w⟩
      ·rw[Nat.zero_add] at g1 g2
       exact .inr ⟨j,y,e,g1,fun w=>by rw[run_findKey_eq w hw];exact g2 w,g3,g4,g5⟩
    ·cases hw
   ·cases hw
def Fl (c:Nat) (y:ByteArray):Bool:=match y.data.toList with
 |[]=>false
 |d::_=>!(d == UInt8.ofNat c)&&!(d == 0)
def wS (n c:Nat):List (EV × EV)→Bool
 |[]=>true
 |x::l=>(match x.1 with
  |.s y=>Nat.blt y.data.toList.length n||(!Nat.beq c 0&&Fl c y)
  |_=>false)&&wS n c l
noncomputable def fU (T:TT) (t:Nat) (es:List (EV × EV)) (k:EV) (ok:Bool):Option EV:=
 match T t with
 |some i=>match i.d with
  |.map kt et=>match T kt,T et with
   |some ik,some ie=>match kE T kt ik k es with
     |some (some (_,v))=>some (bif ok then .tu [v,.b true] else v)
     |some none=>some (bif ok then .tu [ie.v,.b false] else ie.v)
     |none=>none
   |_,_=>none
  |_=>none
 |none=>none
noncomputable def kh (T:TT) (t:Nat) (es:List (EV × EV)) (k:EV) (ok:Bool):Option EV:=
 match k with
 |.us lo _ c=>bif wS lo c es then fU T t es (.s ⟨(List.replicate lo 0).toArray⟩) ok else none
 |k=>fU T t es k ok
noncomputable def cellsOf (H:Hp) (b off n:Nat):Option (List EV):=
 match (H.get b).bind VO.cs? with
 |some cs=>bif Nat.ble (off+n) cs.length then some ((cs.drop off).take n) else none
 |none=>none
def Bw:List EV→Option (List UInt8)
 |[]=>some []
 |.i .i32 (.ofNat n)::l=>match Bw l with
  |some m=>bif Nat.blt n 128 then some (n.toUInt8::m) else none
  |none=>none
 |_=>none
def Bx:List EV→Option (List UInt8)
 |[]=>some []
 |.i .u8 (.ofNat n)::l=>match Bx l with
  |some m=>some (n.toUInt8::m)
  |none=>none
 |_=>none
noncomputable def lm (T:TT) (H:Hp) (s d:Nat) (x:EV):Option EV:=
 match T s,T d with
 |some is_,some id_=>match is_.d,id_.d with
  |.slice e,.string=>match T e with
   |some ie=>match ie.d,x with
    |.int .i32,.sl b off n k _=>bif Nat.beq k 1 then match cellsOf H b off n with
     |some l=>(Bw l).map fun m=>.s ⟨m.toArray⟩
     |none=>none
     else none
    |.int .u8,.sl b off n k _=>bif Nat.beq k 1 then match cellsOf H b off n with
     |some l=>(Bx l).map fun m=>.s ⟨m.toArray⟩
     |none=>none
     else none
    |_,_=>none
   |none=>none
  |_,_=>none
 |_,_=>none
noncomputable def Dv (T:TT) (g:Nat→EV) (H:Hp) (op:Op):Option EV:=
 match op with
 |.load t x=>match bL g x with
  |some (.p b off)=>mq T H t b off
  |_=>none
 |.lookup t x y ok=>match bL g x,bL g y with
  |some (.m b),some k=>match H.get b with
   |some (.mp es)=>kh T t es k ok
   |_=>none
  |some .nm,some k=>kh T t [] k ok
  |_,_=>none
 |.convert s d x=>match bL g x with
  |some a=>lm T H s d a
  |none=>none
 |.call ⟨.builtin .len,ar,ts⟩=>match ar.toList,ts.toList with
  |[x],[t]=>match bL g x,T t with
   |some (.m b),some i=>match i.d,H.get b with
    |.map _ _,some (.mp es)=>some (.i .i64 es.length)
    |_,_=>none
   |some .nm,some i=>match i.d with
    |.map _ _=>some (.i .i64 0)
    |_=>none
   |_,_=>none
  |_,_=>none
 |_=>none
noncomputable def Et (T:TT) (g:Nat→EV) (H:Hp) (t:TypeId) (x:Operand):Option EV:=match bL g x with
 |some (.p b off)=>mq T H t b off
 |_=>none
noncomputable def Eu (T:TT) (g:Nat→EV) (H:Hp) (t:TypeId) (x y:Operand) (ok:Bool):Option EV:=match bL g x,bL g y with
 |some (.m b),some k=>match H.get b with
  |some (.mp es)=>kh T t es k ok
  |_=>none
 |some .nm,some k=>kh T t [] k ok
 |_,_=>none
noncomputable def Ev (T:TT) (g:Nat→EV) (H:Hp) (s d:TypeId) (x:Operand):Option EV:=match bL g x with
 |some a=>lm T H s d a
 |none=>none
noncomputable def Ew (T:TT) (g:Nat→EV) (H:Hp) (ar:Array Operand) (ts:Array TypeId):Option EV:=match ar.toList,ts.toList with
 |[x],[t]=>match bL g x,T t with
  |some (.m b),some i=>match i.d,H.get b with
   |.map _ _,some (.mp es)=>some (.i .i64 es.length)
   |_,_=>none
  |some .nm,some i=>match i.d with
   |.map _ _=>some (.i .i64 0)
   |_=>none
  |_,_=>none
 |_,_=>none
noncomputable def Ey (T:TT) (g:Nat→EV) (H:Hp) (c:Call):Option EV:=match c with
 |⟨.builtin .len,ar,ts⟩=>Ew T g H ar ts
 |_=>none
noncomputable def Ez (T:TT) (g:Nat→EV) (H:Hp) (op:Op):Option EV:=
 match op with
 |.load t x=>Et T g H t x
 |.lookup t x y ok=>Eu T g H t x y ok
 |.convert s d x=>Ev T g H s d x
 |.call c=>Ey T g H c
 |_=>none
theorem Dw (T:TT) (g:Nat→EV) (H:Hp) (op:Op):Ez T g H op=Dv T g H op:=by
 cases op<;>try rfl
 case call c=>
  obtain ⟨cl,ar,ts⟩:=c
  cases cl<;>try rfl
  rename_i b
  cases b<;>rfl
section
variable {P:Program} {φ:bY} {g:Nat→EV} {ρ:bD} {w:World} {T:TT} {I:aI} {H:Hp} {nx:Nat} {F:List (Nat × Obj)} {E:World}
theorem e8 (hR:cJ I φ H nx F E w) {b off n:Nat} {l:List EV} (h:cellsOf H b off n=some l) {q:su} (hq:φ b=some q) :
  ∃vs,RelVs φ l vs∧vs.length=n∧(∀u∈vs,u.oneCell'=true)∧∀(j:Nat) v,vs[j]?=some v→w.cell? ⟨q.r,q.sh+off+j,none⟩=some v:=by
 unfold cellsOf at h
 split at h
 ·rename_i cs hc
  obtain ⟨o,ho,hoc⟩:=Option.bind_eq_some_iff.1 hc
  obtain ⟨vs,h1,h2,h3⟩:=hR.read ho hoc hq
  cases hb:Nat.ble (off+n) cs.length with
  |false=>rw[hb] at h;cases h
  |true=>
   rw[hb] at h;cases h
   have hb:=Nat.le_of_ble_eq_true hb
   have hl:((vs.drop off).take n).length=n:=by rw[qc,List.length_drop,h1.length];omega
   refine ⟨(vs.drop off).take n,(h1.drop off).take n,hl,fun u hu=>h2 u (List.mem_of_mem_drop (List.mem_of_mem_take hu)),fun j v hj=>?_⟩
   have hjl:=(List.getElem?_eq_some_iff.1 hj).1
   rw[hl] at hjl
   rw[List.getElem?_take_of_lt hjl,List.getElem?_drop] at hj
   rw[Nat.add_assoc];exact h3 _ _ hj
 ·cases h
theorem ry {n:Nat} (h:n<128):Utf8.encode (n:Int)=⟨#[n.toUInt8]⟩:=
 (show ∀n:Fin 128,Utf8.encode ((n:Nat):Int)=⟨#[(n:Nat).toUInt8]⟩ by decide +kernel) ⟨n,h⟩
theorem kF:∀(ns:List Nat) (r:List UInt8),(∀n∈ns,n<128)→(ns.map Int.ofNat).foldl (fun r n=>r++Utf8.encode n) (⟨r.toArray⟩:ByteArray)=⟨(r++ns.map Nat.toUInt8).toArray⟩
 |[],r,_=>by simp
 |n::ns,r,h=>by
  rw[List.map_cons,List.foldl_cons,show Utf8.encode (Int.ofNat n)=⟨#[n.toUInt8]⟩ from ry (h n (.head _))]
  have e:(⟨r.toArray⟩:ByteArray)++⟨#[n.toUInt8]⟩=⟨(r++[n.toUInt8]).toArray⟩:=by
   apply ByteArray.ext
   simp[ByteArray.data_append]
  rw[e,kF ns _ fun m hm=>h m (.tail _ hm)]
  simp
theorem sF {φ:bY}:∀(l:List EV) (m:List UInt8) (vs:List Value),Bw l=some m→RelVs φ l vs→∃ns:List Nat,vs=(ns.map Int.ofNat).map (Value.int .i32)∧m=ns.map Nat.toUInt8∧∀n∈ns,n<128
 |[],m,vs,h,hr=>by cases h;have hr:vs=[]:=hr;subst hr;exact ⟨[],rfl,rfl,by simp⟩
 |x::l,m,vs,h,⟨v,us,e,h1,h2⟩=>by
  subst e
  unfold Bw at h
  split at h
  ·cases ‹_::_=[]›
  ·rename_i n l' e
   cases e
   split at h
   ·rename_i m' hm
    cases hb:Nat.blt n 128 with
    |false=>rw[hb] at h;cases h
    |true=>
     rw[hb] at h;cases h
     have hb:n<128:=Nat.le_of_ble_eq_true hb
     obtain ⟨ns,e1,e2,e3⟩:=sF l m' us hm h2
     have h1:v=.int .i32 (.ofNat n):=h1
     subst h1 e1 e2
     exact ⟨n::ns,rfl,rfl,fun k hk=>(List.mem_cons.1 hk).elim (fun e=>e▸hb) (e3 k)⟩
   ·cases h
  ·cases h
theorem sG {φ:bY}:∀(l:List EV) (m:List UInt8) (vs:List Value),Bx l=some m→RelVs φ l vs→∃ns:List Nat,vs=(ns.map Int.ofNat).map (Value.int .u8)∧m=ns.map Nat.toUInt8
 |[],m,vs,h,hr=>by
  cases h
  have hr:vs=[]:=hr
  exact ⟨[],hr,rfl⟩
 |x::l,m,vs,h,hr=>by
  obtain ⟨v,us,rfl,h1,h2⟩:=hr
  unfold Bx at h
  split at h
  ·rename_i e;cases e
  ·rename_i n l' e
   cases e
   split at h
   ·rename_i m' hm
    cases h
    obtain ⟨ns,rfl,rfl⟩:=sG l m' us hm h2
    have h1:v=.int .u8 (Int.ofNat n):=h1
    subst h1
    exact ⟨n::ns,rfl,rfl⟩
   ·cases h
  ·cases h
theorem kG:∀(ns:List Nat) (r:List UInt8),(ns.map Int.ofNat).foldl (fun r n=>r.push (UInt8.ofNat n.toNat)) (⟨r.toArray⟩:ByteArray)=⟨(r++ns.map Nat.toUInt8).toArray⟩
 |[],r=>by simp
 |n::ns,r=>by
  have e:(⟨r.toArray⟩:ByteArray).push (UInt8.ofNat (Int.ofNat n).toNat)=⟨(r++[n.toUInt8]).toArray⟩:=by
   show (⟨r.toArray.push _⟩:ByteArray)=_
   rw[List.push_toArray];rfl
  rw[List.map_cons,List.foldl_cons,e,kG ns,q4];rfl
theorem rz (hT:cu P T) (hR:cJ I φ H nx F E w) {s d:Nat} {x y:EV} {a:Value} (h:lm T H s d x=some y) (hx:aQ φ x a):∃v,(convert s d a).run P w=.ok v w∧aQ φ y v:=by
 unfold lm at h
 split at h
 ·rename_i i1 i2 h1 h2
  split at h
  ·rename_i e e1 e2
   split at h
   ·rename_i ie h3
    split at h
    ·rename_i b off n k c e3
     have u1:=e1▸(hT s i1 h1).und
     have u2:=e2▸(hT d i2 h2).und
     have u3:=e3▸(hT e ie h3).und
     cases hk:Nat.beq k 1 with
     |false=>rw[hk] at h;cases h
     |true=>
      rw[hk] at h
      simp only[cond_true] at h
      split at h
      ·rename_i l hl
       obtain ⟨m,hm,rfl⟩:=Option.map_eq_some_iff.1 h
       obtain ⟨q,o,cap,hq,rfl,x1,x2,_⟩:=hx
       obtain ⟨vs,g1,g2,g3,g4⟩:=e8 hR hl hq
       obtain ⟨ns,rfl,rfl,hns⟩:=sF l m vs hm g1
       have hload:(loadCells (⟨q.r,o,none⟩:Addr) n).run P w=.ok ((ns.map Int.ofNat).map (Value.int .i32)).toArray w:=by
        have:=run_loadCells_list (P:=P) w (⟨q.r,o,none⟩:Addr) ((ns.map Int.ofNat).map (Value.int .i32)) (fun j v hj=>by
         have hjl:=(List.getElem?_eq_some_iff.1 hj).1
         rw[g2] at hjl
         rw[bj,x2 (by omega)];exact g4 j v hj)
        rw[g2] at this
        exact this
       refine ⟨.string (runesBytes (ns.map Int.ofNat)),?_,?_⟩
       ·rw[run_convert_runes_string (P:=P) w s d e _ _ _ u1 u3 u2,run_runesToString w _ n cap _ hload]
       ·show Value.string _=Value.string _
        have:=kF ns [] hns
        unfold runesBytes
        rw[show (ByteArray.empty:ByteArray)=⟨([]:List UInt8).toArray⟩ from rfl,this]
        simp
      ·cases h
    ·rename_i b off n k c e3
     have u1:=e1▸(hT s i1 h1).und
     have u2:=e2▸(hT d i2 h2).und
     have u3:=e3▸(hT e ie h3).und
     cases hk:Nat.beq k 1 with
     |false=>rw[hk] at h;cases h
     |true=>
      rw[hk] at h
      simp only[cond_true] at h
      split at h
      ·rename_i l hl
       obtain ⟨m,hm,rfl⟩:=Option.map_eq_some_iff.1 h
       obtain ⟨q,o,cap,hq,rfl,x1,x2,_⟩:=hx
       obtain ⟨vs,g1,g2,g3,g4⟩:=e8 hR hl hq
       obtain ⟨ns,rfl,rfl⟩:=sG l m vs hm g1
       have hload:(loadCells (⟨q.r,o,none⟩:Addr) n).run P w=.ok ((ns.map Int.ofNat).map (Value.int .u8)).toArray w:=by
        have:=run_loadCells_list (P:=P) w (⟨q.r,o,none⟩:Addr) ((ns.map Int.ofNat).map (Value.int .u8)) (fun j v hj=>by
         have hjl:=(List.getElem?_eq_some_iff.1 hj).1
         rw[g2] at hjl
         rw[bj,x2 (by omega)];exact g4 j v hj)
        rw[g2] at this
        exact this
       refine ⟨.string ((ns.map Int.ofNat).foldl (fun r n=>r.push (UInt8.ofNat n.toNat)) ByteArray.empty),?_,?_⟩
       ·rw[run_convert_bytes_string (P:=P) w s d e _ _ _ u1 u3 u2,run_bytesToString w _ n cap _ hload]
       ·show Value.string _=Value.string _
        have:=kG ns []
        rw[show (ByteArray.empty:ByteArray)=⟨([]:List UInt8).toArray⟩ from rfl,this]
        simp
      ·cases h
    ·cases h
   ·cases h
  ·cases h
 ·cases h
theorem nF (hT:cu P T) {t:Nat} {es:List (EV × EV)} {ms:List MapEntry} {k:EV} {kv:Value} {ok:Bool} {x:EV} (h:fU T t es k ok=some x) (hr:aQ φ k kv) (he:cg φ es ms) :
  ∃kt et v u ok',P.underlying t=some (.map kt et)∧aQ φ x v∧v=(if ok then .tuple #[u,.bool ok'] else u) ∧
   (∀w b,(Instr.checkKey b 10000 kt kv).run P w=.ok () w)∧((∃j,ok'=true∧∀w,(Instr.findKey kt kv ms).run P w=.ok (some (j,u)) w)∨(ok'=false∧(∀w,(Instr.findKey kt kv ms).run P w=.ok none w)∧∀w,(zeroValue et).run P w=.ok u w)):=by
 unfold fU at h
 split at h
 ·rename_i i hi
  split at h
  ·rename_i kt et hd
   split at h
   ·rename_i ik ie hik hie
    have hu:=hd▸(hT t i hi).und
    split at h
    ·rename_i j v hf
     obtain ⟨hc,_,⟨e,_⟩|⟨j,y,e,g1,g2,g3,_⟩⟩:=fC hT hik hr he hf
     ·cases e
     ·cases g1
      cases h
      refine ⟨kt,et,_,e.val,true,hu,?_,Z,hc,.inl ⟨_,Z,g2⟩⟩
      cases ok
      ·exact g3
      ·exact ⟨[e.val,.bool true],rfl,_,_,rfl,g3,_,_,rfl,rfl,rfl⟩
    ·rename_i hf
     obtain ⟨hc,_,⟨_,g2⟩|⟨j,y,e,g1,_⟩⟩:=fC hT hik hr he hf
     ·obtain ⟨zv,hz,hzr⟩:=(hT et ie hie).zeroV
      cases h
      refine ⟨kt,et,_,zv,false,hu,?_,Z,hc,.inr ⟨Z,g2,hz⟩⟩
      cases ok
      ·exact hzr φ
      ·exact ⟨[zv,.bool false],rfl,_,_,rfl,hzr φ,_,_,rfl,rfl,rfl⟩
     ·cases g1
    ·cases h
   ·cases h
  ·cases h
 ·cases h
theorem ki {n c:Nat} {s:ByteArray} (h:n≤s.data.toList.length) (hc:c=0∨∀d r,s.data.toList=d::r→d=UInt8.ofNat c∨d=0):∀(es:List (EV × EV)) (i:Nat),wS n c es=true→kD (.s s) es i=none
 |[],_,_=>rfl
 |x::es,i,hk=>by
  unfold wS at hk
  simp only[qg] at hk
  unfold kD
  have:f6 (.s s) x.1=false:=by
   obtain ⟨k1,_⟩:=hk
   split at k1
   ·rename_i y e
    rw[e]
    show m2 s y=false
    rw[fT]
    refine qf fun q=>?_
    rcases (Bool.or_eq_true _ _).mp k1 with k1|k1
    ·have:=Nat.le_of_ble_eq_true k1
     rw[q] at h
     omega
    ·rw[qg] at k1
     have k0:c≠0:=fun e0=>by rw[e0] at k1;exact absurd k1.1 (by decide)
     have k2:=k1.2
     rw[←q] at k2
     unfold Fl at k2
     cases hs:s.data.toList with
     |nil=>rw[hs] at k2;cases k2
     |cons d r=>
      rw[hs] at k2
      have k3:(!(d == UInt8.ofNat c)&&!(d == 0))=true:=k2
      rw[qg] at k3
      rcases hc with hc|hc
      ·exact k0 hc
      ·rcases hc d r hs with e1|e1
       ·rw[e1] at k3;simp at k3
       ·rw[e1] at k3;simp at k3
   ·cases k1
  rw[this]
  exact ki h hc es (i+1) hk.2
theorem yN {T:TT} {t:Nat} {es:List (EV × EV)} {n c:Nat} {s s':ByteArray} {ok:Bool} (h:n≤s.data.toList.length) (h':n≤s'.data.toList.length) (hc:c=0∨∀d r,s.data.toList=d::r→d=UInt8.ofNat c∨d=0) (hc':c=0∨∀d r,s'.data.toList=d::r→d=UInt8.ofNat c∨d=0) (hk:wS n c es=true):fU T t es (.s s) ok=fU T t es (.s s') ok:=by
 have e:∀(kt:Nat) (i:TI),kE T kt i (.s s) es=kE T kt i (.s s') es:=fun kt i=>by
  unfold kE
  rw[ki h hc es 0 hk,ki h' hc' es 0 hk]
  cases i.d<;>rfl
 unfold fU
 simp only[e]
theorem pT (hT:cu P T) {t:Nat} {es:List (EV × EV)} {ms:List MapEntry} {k:EV} {kv:Value} {ok:Bool} {x:EV} (h:kh T t es k ok=some x) (hr:aQ φ k kv) (he:cg φ es ms) :
  ∃kt et v u ok',P.underlying t=some (.map kt et)∧aQ φ x v∧v=(if ok then .tuple #[u,.bool ok'] else u) ∧
   (∀w b,(Instr.checkKey b 10000 kt kv).run P w=.ok () w)∧((∃j,ok'=true∧∀w,(Instr.findKey kt kv ms).run P w=.ok (some (j,u)) w)∨(ok'=false∧(∀w,(Instr.findKey kt kv ms).run P w=.ok none w)∧∀w,(zeroValue et).run P w=.ok u w)):=by
 unfold kh at h
 split at h
 ·rename_i lo hi c
  cases hk:wS lo c es with
  |false=>rw[hk] at h;cases h
  |true=>
   rw[hk] at h
   obtain ⟨s,rfl,h1,_,h3⟩:=hr
   rw[cond_true,yN (s':=s) (c:=c) (by simp) h1 (.inr fun d r e=>.inr ?_) (h3.imp id fun e d r e2=>.inl (by rw[e2] at e;exact Option.some.inj e)) hk] at h
   rotate_left
   ·have e:List.replicate lo (0:UInt8)=d::r:=e
    exact List.eq_of_mem_replicate (by rw[e];exact .head _)
   exact nF hT h (show aQ φ (.s s) _ from rfl) he
 ·exact nF hT h hr he
theorem cJ.readM (h:cJ I φ H nx F E w) {k:Nat} {es:List (EV × EV)} (hk:H.get k=some (.mp es)) {q:su} (hq:φ k=some q):∃(ms:List MapEntry) (c:Nat),cg φ es ms∧w.heap[q.r]?=some (.map ms.toArray c):=by
 obtain ⟨A,L,⟨q',ms,h1,h2,rfl⟩,_,hS⟩:=h.pick hk
 rw[hq] at h1;cases h1
 exact ⟨ms,_,h2.1,hS.own _ (.head _)⟩
theorem Bz (hT:cu P T) (hg:dI φ g ρ) (hR:cJ I φ H nx F E w) {o:Oper} {x:EV} (h:Dv T g H o.op=some x):∃v,(execOp (ev ρ) o).run P w=.ok (.value v) w∧aQ φ x v:=by
 obtain ⟨dst,op,ty,pos,af,gu⟩:=o
 dsimp only at h
 unfold Dv at h
 split at h
 ·split at h
  ·rename_i hx
   obtain ⟨v,h1,h2⟩:=nB hT hR h (aJ hg hx)
   exact ⟨v,e7 h1,h2⟩
  ·cases h
 ·rename_i t x' y ok
  split at h
  ·rename_i b k hx hy
   obtain ⟨q,hq,hxv⟩:=aJ hg hx
   have hyv:=aJ hg hy
   split at h
   ·rename_i es hes
    obtain ⟨ms,c,hm,hb⟩:=hR.readM hes hq
    obtain ⟨kt,et,v,u,ok',hu,hv,he,hc,hf⟩:=pT hT h hyv hm
    refine ⟨v,?_,hv⟩
    have hc:=hc w ms.isEmpty
    rcases hf with ⟨j,rfl,hf⟩|⟨rfl,hf,hz⟩
    ·have hf:=hf w
     simp[execOp,Instr.lookup,run_underlying hu,hxv,MapKept.run_getObj_map hb,hc,hf,Result.andThen,he]
    ·have hf:=hf w
     simp[execOp,Instr.lookup,run_underlying hu,hxv,MapKept.run_getObj_map hb,hc,hf,hz,Result.andThen,he]
   ·cases h
  ·rename_i k hx hy
   have hxv:ev ρ x'=.map none:=aJ hg hx
   have hyv:=aJ hg hy
   obtain ⟨kt,et,v,u,ok',hu,hv,he,hc,hf⟩:=pT (ms:=[]) hT h hyv rfl
   refine ⟨v,?_,hv⟩
   have hc:=hc w true
   rcases hf with ⟨j,rfl,hf⟩|⟨rfl,hf,hz⟩
   ·have hf:=hf w
    simp[execOp,Instr.lookup,run_underlying hu,hxv,hc,hf,Result.andThen,he]
   ·have hf:=hf w
    simp[execOp,Instr.lookup,run_underlying hu,hxv,hc,hf,hz,Result.andThen,he]
  ·cases h
 ·split at h
  ·rename_i hx
   obtain ⟨v,h1,h2⟩:=rz hT hR h (aJ hg hx)
   exact ⟨v,e7 h1,h2⟩
  ·cases h
 ·split at h
  ·rename_i ar ts _ _ x' t h1 h2
   have h1:=wM h1
   have h2:=wM h2
   subst h1 h2
   split at h
   ·rename_i b i hx hi
    obtain ⟨q,hq,hxv⟩:=aJ hg hx
    have hu:=(hT t i hi).und
    split at h
    ·rename_i es hd hes
     rw[hd] at hu
     cases h
     obtain ⟨ms,c,hm,hb⟩:=hR.readM hes hq
     have hl:ms.length=es.length:=by
      clear hb hes
      induction es generalizing ms with
      |nil=>have hm:ms=[]:=hm;rw[hm];rfl
      |cons e es ih=>obtain ⟨e',r,rfl,_,_,h3⟩:=hm;simp[ih r h3]
     refine ⟨.int .i64 es.length,?_,Z⟩
     simp[execOp,resolve,hxv,invoke,builtin,Builtin.len_,run_underlying hu,goInt,MapKept.run_getObj_map hb,hl]
    ·cases h
   ·rename_i i hx hi
    have hxv:ev ρ x'=.map none:=aJ hg hx
    have hu:=(hT t i hi).und
    split at h
    ·rename_i hd
     rw[hd] at hu
     cases h
     refine ⟨.int .i64 0,?_,Z⟩
     simp[execOp,resolve,hxv,invoke,builtin,Builtin.len_,run_underlying hu,goInt]
    ·cases h
   ·cases h
  ·cases h
 ·cases h
theorem yO (hT:cu P T) (hg:dI φ g ρ) (hR:cJ I φ H nx F E w) {o:Oper} {x:EV} (h:Ez T g H o.op=some x):∃v,(execOp (ev ρ) o).run P w=.ok (.value v) w∧aQ φ x v:=Bz hT hg hR (Dw T g H o.op▸h)
end
end
section
open Go.Proofs
def pU (n:Nat) (z:List EV):List EV:=(List.replicate n z).flatten
noncomputable def Dx (T:TT) (g:Nat→EV) (k:Nat) (op:Op):Option (EV × VO):=
 match op with
 |.alloc t=>match T t with
  |some i=>some (.p k 0,.cells true i.z)
  |none=>none
 |.box _ x=>match bL g x with
  |some a=>bif a.sto&&a.cs.all EV.cell then some (.p k 0,.cells true a.cs) else none
  |none=>none
 |.buildSlice t n ps=>match T t with
  |some i=>match i.d with
   |.slice e=>match T e,mL (fun p:Nat × Operand=>bL g p.2) ps.toList with
    |some ie,some vs=>bif Nat.blt 0 (n*ie.size)&&Nat.ble (n*ie.size) 16777216 then
      match mu (fun j=>some (j*ie.size,ie.size)) (pU n ie.z) ((ps.toList.map (·.1)).zip vs) with
      |some rs=>bif rs.all EV.cell&&Nat.beq rs.length (n*ie.size) then some (.sl k 0 n ie.size (.ex n),.cells true rs) else none
      |none=>none
     else bif Nat.beq n 0&&ps.toList.isEmpty then some (.sl k 0 0 ie.size (.ex 0),.cells true []) else none
    |_,_=>none
   |_=>none
  |none=>none
 |.makeSlice t x y=>match T t,bL g x,bL g y with
  |some i,some (.i _ l),some (.i _ c)=>match i.d,gH l,gH c with
   |.slice e,some l,some c=>match T e with
    |some ie=>bif Nat.blt 0 ie.size&&Nat.ble l c&&Nat.ble (ie.bytes*c) 281474976710656&&Nat.ble c 281474976710656 then some (.sl k 0 l ie.size (.ex c),.cells true (pU c ie.z)) else none
    |none=>none
   |_,_,_=>none
  |_,_,_=>none
 |.makeMap _ none=>some (.m k,.mp [])
 |.range t x=>match T t,bL g x with
  |some i,some (.s s)=>match i.d with
   |.string=>some (.p k 0,.it s 0)
   |_=>none
  |_,_=>none
 |_=>none
noncomputable def EA (T:TT) (k:Nat) (t:TypeId):Option (EV × VO):=match T t with
 |some i=>some (.p k 0,.cells true i.z)
 |none=>none
noncomputable def EB (g:Nat→EV) (k:Nat) (x:Operand):Option (EV × VO):=match bL g x with
 |some a=>bif a.sto&&a.cs.all EV.cell then some (.p k 0,.cells true a.cs) else none
 |none=>none
noncomputable def EC (T:TT) (g:Nat→EV) (k:Nat) (t:TypeId) (n:Nat) (ps:Array (Nat × Operand)):Option (EV × VO):=match T t with
 |some i=>match i.d with
  |.slice e=>match T e,mL (fun p:Nat × Operand=>bL g p.2) ps.toList with
   |some ie,some vs=>bif Nat.blt 0 (n*ie.size)&&Nat.ble (n*ie.size) 16777216 then
     match mu (fun j=>some (j*ie.size,ie.size)) (pU n ie.z) ((ps.toList.map (·.1)).zip vs) with
     |some rs=>bif rs.all EV.cell&&Nat.beq rs.length (n*ie.size) then some (.sl k 0 n ie.size (.ex n),.cells true rs) else none
     |none=>none
    else bif Nat.beq n 0&&ps.toList.isEmpty then some (.sl k 0 0 ie.size (.ex 0),.cells true []) else none
   |_,_=>none
  |_=>none
 |none=>none
noncomputable def ED (T:TT) (g:Nat→EV) (k:Nat) (t:TypeId) (x y:Operand):Option (EV × VO):=match T t,bL g x,bL g y with
 |some i,some (.i _ l),some (.i _ c)=>match i.d,gH l,gH c with
  |.slice e,some l,some c=>match T e with
   |some ie=>bif Nat.blt 0 ie.size&&Nat.ble l c&&Nat.ble (ie.bytes*c) 281474976710656&&Nat.ble c 281474976710656 then some (.sl k 0 l ie.size (.ex c),.cells true (pU c ie.z)) else none
   |none=>none
  |_,_,_=>none
 |_,_,_=>none
noncomputable def EE (k:Nat) (r:Option Operand):Option (EV × VO):=match r with
 |none=>some (.m k,.mp [])
 |_=>none
noncomputable def EF (T:TT) (g:Nat→EV) (k:Nat) (t:TypeId) (x:Operand):Option (EV × VO):=match T t,bL g x with
 |some i,some (.s s)=>match i.d with
  |.string=>some (.p k 0,.it s 0)
  |_=>none
 |_,_=>none
noncomputable def DS (T:TT) (g:Nat→EV) (k:Nat) (op:Op):Option (EV × VO):=
 match op with
 |.alloc t=>EA T k t
 |.box _ x=>EB g k x
 |.buildSlice t n ps=>EC T g k t n ps
 |.makeSlice t x y=>ED T g k t x y
 |.makeMap _ r=>EE k r
 |.range t x=>EF T g k t x
 |_=>none
theorem Dy (T:TT) (g:Nat→EV) (k:Nat) (op:Op):DS T g k op=Dx T g k op:=by
 cases op<;>try rfl
 case makeMap t r=>cases r<;>rfl
section
variable {P:Program} {φ:bY} {g:Nat→EV} {ρ:bD} {w:World} {T:TT} {I:aI} {H:Hp} {k nx:Nat} {F L:List (Nat × Obj)} {E:World}
theorem jI {r:Nat} {vs:List Value} {cs:List EV} {t:TypeId} (h:RelVs φ cs vs) (h1:∀u∈vs,u.oneCell'=true) (hk:φ k=none):eX I (φ.put k ⟨r,0,vs.length⟩) k (.cells true cs) [(r,.cells vs.toArray t (0,0))]:=
 ⟨⟨r,0,vs.length⟩,t,vs,[],ym _ _ _,rfl,h.mono (q0 hk _),by simpa using h1,by simp,fun _=>rfl,by simp⟩
theorem RelVs.flatR {z:List EV} {vs:List Value} (h:RelVs φ z vs):∀n,RelVs φ (pU n z) (List.replicate n vs).flatten
 |0=>rfl
 |n+1=>by
  unfold pU
  rw[List.replicate_succ,List.replicate_succ,List.flatten_cons,List.flatten_cons]
  exact h.append (RelVs.flatR h n)
theorem n8.cell1 {t:TypeId} {i:TI} (h:n8 P t i) {zv:Value} (hz:∀φ,RelVs φ i.z zv.cells.toList):∀u∈zv.cells.toList,u.oneCell'=true:=EV.cells_rel (hz fun _=>none) h.z1
theorem rA {t e:TypeId} {ty:TypeId} {pos:String} {af:Array Edge} {gu:Option (Nat × Bool)} {d:Option Nat} {n:Nat} (hu:P.underlying t=some (.slice e)) (hs:∀w,(sizeOf e).run P w=.ok n w) :
  (execOp (ev ρ) (Oper.mk d (.buildSlice t 0 #[]) ty pos af gu)).run P w=.ok (.value (.slice (some ⟨w.heap.size,0,none⟩) 0 0)) (w.alloc (.cells #[] e)):=by
 simp[execOp,Instr.buildSlice,run_underlying hu,hs,Instr.fill,newRow]
 congr 2
 exact Array.eq_empty_of_size_eq_zero (by simp)
theorem BA (hT:cu P T) (hg:dI φ g ρ) {o:Oper} {x:EV} {vo:VO} (h:Dx T g k o.op=some (x,vo)) (hk:φ k=none) (hS:SL I L E w) :
  ∃v w' q A,(execOp (ev ρ) o).run P w=.ok (.value v) w'∧aQ (φ.put k q) x v∧eX I (φ.put k q) k vo A∧SL I (A++L) E w':=by
 obtain ⟨dst,op,ty,pos,af,gu⟩:=o
 dsimp only at h
 unfold Dx at h
 split at h
 ·rename_i t
  split at h
  ·rename_i i hi
   simp only[Option.some.injEq,Prod.mk.injEq] at h
   obtain ⟨rfl,rfl⟩:=h
   obtain ⟨zv,hz,hzr,_⟩:=(hT t i hi).zero
   have hz1:=(hT t i hi).cell1 hzr
   refine ⟨.pointer (some ⟨w.heap.size,0,none⟩),w.alloc (.cells zv.cells t),⟨w.heap.size,0,zv.cells.toList.length⟩,[(w.heap.size,.cells zv.cells.toList.toArray t (0,0))],?_,⟨_,ym _ _ _,Z⟩,jI (hzr φ) hz1 hk,?_⟩
   ·simp[execOp,Instr.alloc,hz,fI]
   ·rw[Array.toArray_toList];exact hS.alloc _
  ·cases h
 ·rename_i t x'
  split at h
  ·rename_i a hx
   cases hb:(a.sto&&a.cs.all EV.cell) with
   |false=>rw[hb] at h;cases h
   |true=>
    rw[hb] at h
    simp only[cond_true,Option.some.injEq,Prod.mk.injEq] at h
    obtain ⟨rfl,rfl⟩:=h
    simp only[qg] at hb
    have hr:=EV.cs_rel (aJ hg hx) hb.1
    have h1:=EV.cells_rel hr hb.2
    refine ⟨.pointer (some ⟨w.heap.size,0,none⟩),w.alloc (.cells (ev ρ x').cells t),⟨w.heap.size,0,(ev ρ x').cells.toList.length⟩,[(w.heap.size,.cells (ev ρ x').cells.toList.toArray t (0,0))],?_,⟨_,ym _ _ _,Z⟩,jI hr h1 hk,?_⟩
    ·simp[execOp,Instr.box,fI]
    ·rw[Array.toArray_toList];exact hS.alloc _
  ·cases h
 ·rename_i t n ps
  split at h
  ·rename_i i hi
   split at h
   ·rename_i e hd
    have hu:=hd▸(hT t i hi).und
    split at h
    ·rename_i ie vs hie hvs
     have hTe:=hT e ie hie
     obtain ⟨zv,hz,hzr,hzs⟩:=hTe.zero
     have hz1:=hTe.cell1 hzr
     have hpr:=gT (φ:=φ) (g:=fun p:Nat × Operand=>ev ρ p.2) (fun p a hp=>aJ hg hp) ps.toList vs hvs
     have epar:(ps.map fun p=>(p.1,ev ρ p.2)).toList=ps.toList.map fun p=>(p.1,ev ρ p.2):=by simp
     cases hb:(Nat.blt 0 (n*ie.size)&&Nat.ble (n*ie.size) 16777216) with
     |true=>
      rw[hb] at h
      simp only[cond_true] at h
      simp only[qg] at hb
      have b1:0<n*ie.size:=Nat.le_of_ble_eq_true hb.1
      have b2:=Nat.le_of_ble_eq_true hb.2
      split at h
      ·rename_i rs hrs
       cases hb3:(rs.all EV.cell&&Nat.beq rs.length (n*ie.size)) with
       |false=>rw[hb3] at h;cases h
       |true=>
        rw[hb3] at h
        simp only[cond_true,Option.some.injEq,Prod.mk.injEq] at h
        obtain ⟨rfl,rfl⟩:=h
        simp only[qg] at hb3
        have b4:=Nat.eq_of_beq_eq_true hb3.2
        have hzl:zv.cells.toList.length=ie.size:=by rw[Array.length_toList];exact hzs
        have hmc:madeCells zv.cells (n*ie.size)=(List.replicate n zv.cells.toList).flatten.toArray:=by
         have:=gI zv.cells.toList n (by rw[hzl];exact Nat.pos_of_ne_zero fun e=>by rw[e,Nat.mul_zero] at b1;omega) hz1
         rw[hzl,Array.toArray_toList] at this
         exact this
        have hl:(ps.toList.map (·.1)).length=vs.length:=by have:=hpr.length;simp at this ⊢;exact this
        obtain ⟨vc,f1,f2⟩:=jH (place:=fun j=>some (j*ie.size,ie.size)) (ps.toList.map fun p=>(p.1,ev ρ p.2)) _ (pU n ie.z) (madeCells zv.cells (n*ie.size)) rs (by rw[lg _ _ hl,List.map_map];rfl) (by rw[lh _ _ hl,List.map_map];exact hpr) (by rw[hmc];exact (hzr φ).flatR n) hrs
        have h1:=EV.cells_rel f2 hb3.1
        have hvl:vc.toList.length=n*ie.size:=by rw[f2.length,b4]
        have hrun:(Instr.buildSlice t n (ps.map fun p=>(p.1,ev ρ p.2))).run P w=.ok (.slice (some ⟨w.heap.size,0,none⟩) n n) (w.alloc (.cells vc e)):=by
         unfold Instr.buildSlice
         simp only[Sem.run_bind,Result.andThen_ok,run_underlying hu,hTe.sz]
         rw[if_neg (by omega)]
         have f1':Instr.fill (fun i=>some (i*ie.size,ie.size)) ((Array.range (n*ie.size)).map (zv.cells[·% zv.cells.size]!)) (ps.map fun p=>(p.1,ev ρ p.2)).toList=some vc:=by rw[epar];exact f1
         simp only[Sem.run_pure,Result.andThen_ok,if_neg (by omega:¬n*ie.size=0),Sem.run_bind,hz,f1',newRow]
         simp
        refine ⟨.slice (some ⟨w.heap.size,0,none⟩) n n,w.alloc (.cells vc e),⟨w.heap.size,0,vc.toList.length⟩,[(w.heap.size,.cells vc.toList.toArray e (0,0))],e7 hrun,⟨_,0,n,ym _ _ _,Z,Nat.le_refl _,fun _=>Z,Z⟩,jI f2 h1 hk,?_⟩
        rw[Array.toArray_toList];exact hS.alloc _
      ·cases h
     |false=>
      rw[hb] at h
      simp only[cond_false] at h
      cases hb3:(Nat.beq n 0&&ps.toList.isEmpty) with
      |false=>rw[hb3] at h;cases h
      |true=>
       rw[hb3] at h
       simp only[cond_true,Option.some.injEq,Prod.mk.injEq] at h
       obtain ⟨rfl,rfl⟩:=h
       simp only[qg] at hb3
       have b4:=Nat.eq_of_beq_eq_true hb3.1
       subst b4
       have hps:ps=#[]:=Array.toList_inj.1 (List.isEmpty_iff.1 hb3.2)
       subst hps
       refine ⟨.slice (some ⟨w.heap.size,0,none⟩) 0 0,w.alloc (.cells #[] e),⟨w.heap.size,0,0⟩,[(w.heap.size,.cells ([]:List Value).toArray e (0,0))],rA hu hTe.sz,⟨_,0,0,ym _ _ _,Z,Nat.le_refl _,fun _=>Z,Z⟩,jI (vs:=[]) Z (by simp) hk,hS.alloc _⟩
    ·cases h
   ·cases h
  ·cases h
 ·rename_i t x' y'
  split at h
  ·rename_i i k1 l k2 c hi hx hy
   have hx:ev ρ x'=.int k1 l:=aJ hg hx
   have hy:ev ρ y'=.int k2 c:=aJ hg hy
   split at h
   ·rename_i e l' c' hd hl hc
    have hl:=eZ hl
    have hc:=eZ hc
    subst hl hc
    have hu:=hd▸(hT t i hi).und
    split at h
    ·rename_i ie hie
     have hTe:=hT e ie hie
     cases hb:(Nat.blt 0 ie.size&&Nat.ble l' c'&&Nat.ble (ie.bytes*c') 281474976710656&&Nat.ble c' 281474976710656) with
     |false=>rw[hb] at h;cases h
     |true=>
      rw[hb] at h
      simp only[cond_true,Option.some.injEq,Prod.mk.injEq] at h
      obtain ⟨rfl,rfl⟩:=h
      simp only[qg] at hb
      have b1:0<ie.size:=Nat.le_of_ble_eq_true hb.1.1.1
      have b2:=Nat.le_of_ble_eq_true hb.1.1.2
      have b3:=Nat.le_of_ble_eq_true hb.1.2
      have b4:=Nat.le_of_ble_eq_true hb.2
      obtain ⟨f,zv,f1,f2,f3,f4,f5,_⟩:=hTe.inf
      have hz1:=hTe.cell1 f5
      have hzl:zv.cells.toList.length=ie.size:=by rw[(f5 φ).length,hTe.zl]
      have hrun:=run_make (P:=P) w t e f zv hu f1 f4 k1 k2 l' c' (by omega) (by omega) (by rw[f3,←Int.natCast_mul];omega) (by omega)
      have hmc:madeCells zv.cells (c'*ie.size)=(List.replicate c' zv.cells.toList).flatten.toArray:=by
       have:=gI zv.cells.toList c' (by omega) hz1
       rw[hzl,Array.toArray_toList] at this
       exact this
      rw[Int.toNat_natCast,Int.toNat_natCast,f2,hmc] at hrun
      have hr:=(f5 φ).flatR c'
      have hlen:(List.replicate c' zv.cells.toList).flatten.length=c'*ie.size:=by simp[hzl]
      refine ⟨.slice (some ⟨w.heap.size,0,none⟩) l' c',_,⟨w.heap.size,0,(List.replicate c' zv.cells.toList).flatten.length⟩,[(w.heap.size,.cells (List.replicate c' zv.cells.toList).flatten.toArray e (0,0))],?_,⟨_,0,c',ym _ _ _,Z,b2,fun _=>Z,Z⟩,jI hr (fun u hu=>?_) hk,hS.alloc _⟩
      ·refine e7 ?_
       rw[hx,hy];exact hrun
      ·obtain ⟨r,hr,hu⟩:=List.mem_flatten.1 hu
       rw[List.eq_of_mem_replicate hr] at hu
       exact hz1 u hu
    ·cases h
   ·cases h
  ·cases h
 ·simp only[Option.some.injEq,Prod.mk.injEq] at h
  obtain ⟨rfl,rfl⟩:=h
  refine ⟨.map (some w.heap.size),w.alloc (.map #[] 0),⟨w.heap.size,0,0⟩,[(w.heap.size,.map #[] 0)],?_,⟨_,ym _ _ _,Z⟩,⟨_,[],ym _ _ _,⟨Z,fun _ _ h=>by cases h⟩,Z⟩,hS.alloc _⟩
  simp only[execOp,Option.map_none]
  rw[Sem.run_bind,run_makeMap_plain];rfl
 ·rename_i t x'
  split at h
  ·rename_i i s hi hx
   have hx:ev ρ x'=.string s:=aJ hg hx
   split at h
   ·rename_i hd
    have hu:=hd▸(hT t i hi).und
    simp only[Option.some.injEq,Prod.mk.injEq] at h
    obtain ⟨rfl,rfl⟩:=h
    refine ⟨.pointer (some ⟨w.heap.size,0,none⟩),w.alloc (.stringIter s 0),⟨w.heap.size,0,0⟩,[(w.heap.size,.stringIter s 0)],?_,⟨_,ym _ _ _,Z⟩,⟨_,ym _ _ _,Z,Z⟩,hS.alloc _⟩
    simp[execOp,Instr.range,hx,run_underlying hu]
   ·cases h
  ·cases h
 ·cases h
theorem yP (hT:cu P T) (hg:dI φ g ρ) {o:Oper} {x:EV} {vo:VO} (h:DS T g k o.op=some (x,vo)) (hk:φ k=none) (hS:SL I L E w) :
  ∃v w' q A,(execOp (ev ρ) o).run P w=.ok (.value v) w'∧aQ (φ.put k q) x v∧eX I (φ.put k q) k vo A∧SL I (A++L) E w':=BA hT hg (Dy T g k o.op▸h) hk hS
end
end
section
open Go.Proofs
def dl (φ:bY) (I:aI) (F:List (Nat × Obj)) (E:World) (k nx:Nat) (x:EV) (H:Hp) (nx':Nat) (v:Value) (w:World):Prop:=
 ∃J ψ,I.le J∧φ.le ψ∧(∀j,j<nx→j≠k→ψ j=φ j)∧nx≤nx'∧aQ ψ x v∧cJ J ψ H nx' F E w
section
variable {φ:bY} {I:aI} {H:Hp} {k nx:Nat} {F L A:List (Nat × Obj)} {E w w':World} {o:VO} {q:su}
theorem cJ.freshN (h:cJ I φ H nx F E w) (hk:φ k=none):∃L,m1 I φ H k L∧SL I (L++F) E w:=by
 obtain ⟨M,L,hn,hm,hr,hS⟩:=h.ex
 refine ⟨L,⟨M,hn,fun j o'=>?_,hr⟩,hS⟩
 rw[←hm j o']
 refine ⟨fun hj=>⟨fun e=>?_,hj⟩,fun hj=>hj.2⟩
 obtain ⟨q,hq⟩:=hr.phi _ hj
 subst e
 rw[hk] at hq;cases hq
theorem iK (φ:bY) (q:su) {j:Nat} (h:j≠k):φ.put k q j=φ j:=if_neg h
theorem jJ (h:∀j,nx≤j→φ j=none) (hk:k<nx) (q:su):∀j,nx≤j→φ.put k q j=none:=fun j hj=>by rw[iK φ q (by omega)];exact h j hj
theorem cJ.addB (h:cJ I φ H nx F E w) (hk:φ k=none) (hx:k<nx) {x:EV} {v:Value} (hv:aQ (φ.put k q) x v) (hb:eX I (φ.put k q) k o A) (hS:∀L,SL I (L++F) E w→SL I (A++(L++F)) E w'):dl φ I F E k nx x (H.set k (some o)) nx v w':=by
 obtain ⟨L,hr,hS0⟩:=h.freshN hk
 exact ⟨I,φ.put k q,.refl _,q0 hk q,fun j _ hj=>iK φ q hj,Nat.le_refl _,hv,yz (hr.mono (.refl _) (q0 hk q)) hb (hS L hS0) (jJ h.top hx q)⟩
theorem cJ.stay (h:cJ I φ H nx F E w) {x:EV} {v:Value} (hv:aQ φ x v):dl φ I F E k nx x H nx v w:=⟨I,φ,.refl _,.refl _,fun _ _ _=>rfl,Nat.le_refl _,hv,h⟩
end
section
variable {φ:bY} {I:aI} {H:Hp} {k b:Nat} {L:List (Nat × Obj)}
theorem m1.moved (h:m1 I φ H b L) (hk:φ k=none):m1 I φ (H.set b none) k L:=by
 obtain ⟨M,hn,hm,hr⟩:=h
 refine ⟨M,hn,fun j o=>?_,hr⟩
 rw[hm j o,Tr.get_set]
 constructor
 ·rintro ⟨h1,h2⟩
  refine ⟨fun e=>?_,by rw[if_neg h1];exact h2⟩
  obtain ⟨q,hq⟩:=hr.phi _ ((hm j o).2 ⟨h1,h2⟩)
  subst e
  rw[hk] at hq;cases hq
 ·rintro ⟨_,h2⟩
  by_cases e:j=b
  ·rw[if_pos e] at h2;cases h2
  ·rw[if_neg e] at h2;exact ⟨e,h2⟩
end
def jK:Nat:=140737488355328
noncomputable def sH (H:Hp) (y:EV) (size:Nat):Option (Nat × List EV):=
 match y with
 |.ns=>some (0,[])
 |.sl b off m k _=>bif Nat.beq k size then (cellsOf H b off (m*size)).map fun l=>(m,l) else none
 |_=>none
def CO (n:Nat):Cp→Bool
 |.ex cap=>Nat.ble n cap
 |.en=>true
 |.un=>false
noncomputable def sI (T:TT) (H:Hp) (k t:Nat) (x y:EV):Option (EV × Hp):=
 match T t with
 |some i=>match i.d with
  |.slice e=>match T e with
   |some ie=>match sH H y ie.size with
    |some (m,news)=>match x with
     |.ns=>bif Nat.beq m 0 then some (.ns,H) else bif Nat.ble (m*ie.bytes) jK&&Nat.ble m jK then some (.sl k 0 m ie.size .en,H.set k (some (.cells false news))) else none
     |.sl b off n k' c=>bif Nat.beq m 0 then some (.sl b off n k' c,H) else
      bif Nat.beq k' ie.size&&Nat.blt 0 ie.size&&Nat.ble ((n+m)*ie.bytes) jK&&Nat.ble (n+m) jK then
       match H.get b with
       |some (.cells ex cs)=>bif CO (n+m) c&&Nat.ble (off+(n+m)*ie.size) cs.length then
         some (.sl b off (n+m) k' c,H.set b (some (.cells ex (cs.take (off+n*ie.size)++news++cs.drop (off+(n+m)*ie.size)))))
        else match c with
         |.ex cap=>bif Nat.blt cap (n+m)&&Nat.ble (off+n*ie.size) cs.length then some (.sl k 0 (n+m) ie.size .en,H.set k (some (.cells false ((cs.drop off).take (n*ie.size)++news)))) else none
         |.en=>bif Nat.beq off 0&&Nat.beq (n*ie.size) cs.length then some (.sl k 0 (n+m) ie.size .en,(H.set b none).set k (some (.cells false (cs++news)))) else none
         |.un=>none
       |some (.kn cs)=>match c with
        |.ex cap=>bif Nat.blt cap (n+m)&&Nat.ble (off+n*ie.size) cs.length then some (.sl k 0 (n+m) ie.size .en,H.set k (some (.cells false ((cs.drop off).take (n*ie.size)++news)))) else none
        |_=>none
       |_=>none
      else none
     |_=>none
    |none=>none
   |none=>none
  |_=>none
 |none=>none
section
variable {P:Program} {φ:bY} {w:World} {T:TT} {I:aI} {H:Hp} {k nx:Nat} {F:List (Nat × Obj)} {E:World} {t e ty:TypeId}
theorem my (hR:cJ I φ H nx F E w) {y:EV} {size m:Nat} {news:List EV} (h:sH H y size=some (m,news)) {c:Value} (hy:aQ φ y c) :
  ∃sa c2 nv,c=.slice sa m c2∧RelVs φ news nv∧nv.length=m*size∧(∀u∈nv,u.oneCell'=true)∧((sa=none∧m=0)∨∃sp,sa=some sp∧∀(j:Nat) u,nv[j]?=some u→w.cell? (sp.add j)=some u):=by
 unfold sH at h
 split at h
 ·cases h
  exact ⟨none,0,[],hy,rfl,by simp,by simp,.inl ⟨rfl,rfl⟩⟩
 ·rename_i b off m' k' cp
  cases hb:Nat.beq k' size with
  |false=>rw[hb] at h;cases h
  |true=>
   rw[hb] at h
   obtain ⟨l,hl,he⟩:=Option.map_eq_some_iff.1 h
   cases he
   obtain ⟨q,o,cap,hq,rfl,h1,h2,_⟩:=hy
   obtain ⟨vs,g1,g2,g3,g4⟩:=e8 hR hl hq
   refine ⟨_,cap,vs,Z,g1,g2,g3,.inr ⟨_,Z,fun j u hj=>?_⟩⟩
   have hjl:=(List.getElem?_eq_some_iff.1 hj).1
   have hm0:cap≠0:=fun e=>by
    have:m=0:=by omega
    rw[g2,this,Nat.zero_mul] at hjl;omega
   rw[bj,h2 hm0]
   exact g4 j u hj
 ·cases h
theorem f7 {i:TypeInfo} (ht:P.underlying t=some (.slice e)) (hi:P.info? e=some i) {a sa:Option Addr} {n cap c:Nat} (h:n≤cap) (h0:a=none→n=0∧cap=0) :
  (Builtin.append_ #[t,t] ty #[.slice a n cap,.slice sa 0 c]).run P w=.ok (.slice a n cap) w:=by
 cases a with
 |none=>
  obtain ⟨rfl,rfl⟩:=h0 rfl
  cases sa<;>simp[Builtin.append_,run_underlying ht,sizeOf,typeInfo,hi,Builtin.lenOf,Builtin.firstCells,loadCells,loadCellsFrom,storeCells]
 |some p=>cases sa<;>simp[Builtin.append_,run_underlying ht,sizeOf,typeInfo,hi,Builtin.lenOf,Builtin.firstCells,h,loadCells,loadCellsFrom,storeCells]
theorem fD {i:TypeInfo} (ht:P.underlying t=some (.slice e)) (hi:P.info? e=some i) {g off n cap m c:Nat} {S:TypeId} {cur:Array Value} (hg:w.heap[g]?=some (.cells cur S (0,0))) {a:Addr} {news:List Value}
  (hl:news.length=m*i.size) (hn:∀(j:Nat) u,news[j]?=some u→w.cell? (a.add j)=some u) (h1:∀u∈news,u.oneCell'=true) (hroom:n+m≤cap) (hfit:off+n*i.size+news.length≤cur.size) :
  (Builtin.append_ #[t,t] ty #[.slice (some ⟨g,off,none⟩) n cap,.slice (some a) m c]).run P w=.ok (.slice (some ⟨g,off,none⟩) (n+m) cap) (w.setRow g (cur.toList.take (off+n*i.size)++news++cur.toList.drop (off+n*i.size+news.length)).toArray):=by
 have hf:=run_firstCells_some (P:=P) w i.size m a m c news hl hn
 have hst:=run_storeCells_at P g (off+n*i.size) S news 0 cur w hg (by simpa using hfit) h1
 simp only[Nat.add_zero] at hst
 simp[Builtin.append_,run_underlying ht,sizeOf,typeInfo,hi,Builtin.lenOf,hroom,hf,bj,hst]
theorem wT {z:Array Value} {n:Nat}:(Builtin.zeroCells z n).size=n*z.size:=size_zeroCells z n
theorem sJ {i:TypeInfo} {zv:Value} {ie:TI} (hTe:n8 P e ie) (hi:P.info? e=some i) (hsz:i.size=ie.size) (hzr:∀φ,RelVs φ ie.z zv.cells.toList) (hR:cJ I φ H nx F E w) (hk:φ k=none) (hkx:k<nx) {cs:List EV} {vs:List Value} {cap m:Nat}
  (hr:RelVs φ cs vs) (h1:∀u∈vs,u.oneCell'=true) (hl:vs.length=m*ie.size) (hc:m≤cap):dl φ I F E k nx (.sl k 0 m ie.size .en) (H.set k (some (.cells false cs))) nx (.slice (some ⟨w.heap.size,0,none⟩) m cap) (w.drew.alloc (.cells (vs.toArray++Builtin.zeroCells zv.cells (cap - m)) e)):=by
 have hz1:=hTe.cell1 hzr
 have hzl:zv.cells.size=ie.size:=by have:=(hzr φ).length;rw[hTe.zl] at this;simpa using this
 have htot:(vs++(Builtin.zeroCells zv.cells (cap - m)).toList).length=cap*ie.size:=by
  rw[q8,hl,Array.length_toList,wT,hzl,←Nat.add_mul];congr 1;omega
 refine hR.addB (q:=⟨w.heap.size,0,cap*ie.size⟩) (A:=[(w.heap.size,.cells (vs++(Builtin.zeroCells zv.cells (cap - m)).toList).toArray e (0,0))]) hk hkx ⟨_,0,cap,ym _ _ _,rfl,hc,fun _=>rfl,by show 0+0+cap*ie.size=cap*ie.size;omega⟩
  ⟨_,e,vs,(Builtin.zeroCells zv.cells (cap - m)).toList,ym _ _ _,rfl,hr.mono (q0 hk _),fun u hu=>?_,htot,(fun h=>by cases h),rfl⟩ fun L hS=>?_
 ·rcases List.mem_append.1 hu with hu|hu
  ·exact h1 u hu
  ·simp only[Builtin.zeroCells] at hu
   simp at hu
   obtain ⟨a,ha,rfl⟩:=hu
   have hp:a % zv.cells.size<zv.cells.size:=Nat.mod_lt _ (Nat.pos_of_ne_zero fun e=>by rw[e,Nat.mul_zero] at ha;omega)
   rw[getElem!_pos zv.cells (a % zv.cells.size) hp]
   exact hz1 _ (by simp)
 ·have h2:=hS.drew.alloc (.cells (vs.toArray++Builtin.zeroCells zv.cells (cap - m)) e)
  have he:(vs++(Builtin.zeroCells zv.cells (cap - m)).toList).toArray=vs.toArray++Builtin.zeroCells zv.cells (cap - m):=by apply Array.toList_inj.1;simp
  rw[he]
  exact h2
theorem yQ (hT:cu P T) (hR:cJ I φ H nx F E w) (hk:φ k=none) (hkx:k<nx) {x y z:EV} {H':Hp} (h:sI T H k t x y=some (z,H')) {a c:Value} (hx:aQ φ x a) (hy:aQ φ y c) :
  ∃v w',(Builtin.append_ #[t,t] ty #[a,c]).run P w=.ok v w'∧dl φ I F E k nx z H' nx v w':=by
 have hB:jK=140737488355328:=rfl
 unfold sI at h
 split at h
 ·rename_i i hi
  split at h
  ·rename_i e hd
   have ht:=hd▸(hT t i hi).und
   split at h
   ·rename_i ie hie
    have hTe:=hT e ie hie
    obtain ⟨f,zv,f1,f2,f3,f4,f5,_⟩:=hTe.inf
    split at h
    ·rename_i m news hnews
     obtain ⟨sa,c2,nv,rfl,n1,n2,n3,n4⟩:=my hR hnews hy
     split at h
     ·have hx:a=.slice none 0 0:=hx
      subst hx
      cases hm:Nat.beq m 0 with
      |true=>
       rw[hm] at h
       simp only[cond_true,Option.some.injEq,Prod.mk.injEq] at h
       obtain ⟨rfl,rfl⟩:=h
       have hm:=Nat.eq_of_beq_eq_true hm
       subst hm
       exact ⟨_,w,f7 ht f1 (Nat.le_refl _) (fun _=>⟨rfl,rfl⟩),hR.stay rfl⟩
      |false=>
       rw[hm] at h
       simp only[cond_false] at h
       have hm0:m≠0:=fun e=>by rw[e] at hm;cases hm
       cases hb:(Nat.ble (m*ie.bytes) jK&&Nat.ble m jK) with
       |false=>rw[hb] at h;cases h
       |true=>
        rw[hb] at h
        simp only[cond_true,Option.some.injEq,Prod.mk.injEq] at h
        obtain ⟨rfl,rfl⟩:=h
        simp only[qg] at hb
        have b1:=Nat.le_of_ble_eq_true hb.1
        have b2:=Nat.le_of_ble_eq_true hb.2
        rcases n4 with ⟨_,h0⟩|⟨sp,rfl,hat⟩
        ·exact absurd h0 hm0
        ·have hrun:=run_append_nil (P:=P) w t ty e f zv ht f1 f4 sp m c2 nv (by rw[n2,f2]) hat (by omega) (by omega) (by rw[f3];omega)
         exact ⟨_,_,hrun,sJ hTe f1 f2 f5 hR hk hkx n1 n3 n2 (grownCap_ge _ _ _ _)⟩
     ·rename_i b off n k' cp
      obtain ⟨q,o,cap,hq,rfl,x1,x2,x3⟩:=hx
      cases hm:Nat.beq m 0 with
      |true=>
       rw[hm] at h
       simp only[cond_true,Option.some.injEq,Prod.mk.injEq] at h
       obtain ⟨rfl,rfl⟩:=h
       have hm:=Nat.eq_of_beq_eq_true hm
       subst hm
       exact ⟨_,w,f7 ht f1 x1 (fun e=>by cases e),hR.stay ⟨q,o,cap,hq,rfl,x1,x2,x3⟩⟩
      |false=>
       rw[hm] at h
       simp only[cond_false] at h
       have hm0:m≠0:=fun e=>by rw[e] at hm;cases hm
       obtain ⟨sp,rfl,hat⟩:∃sp,sa=some sp∧∀(j:Nat) u,nv[j]?=some u→w.cell? (sp.add j)=some u:=by
        rcases n4 with ⟨_,h0⟩|h0
        ·exact absurd h0 hm0
        ·exact h0
       cases hb:(Nat.beq k' ie.size&&Nat.blt 0 ie.size&&Nat.ble ((n+m)*ie.bytes) jK&&Nat.ble (n+m) jK) with
       |false=>rw[hb] at h;cases h
       |true=>
        rw[hb] at h
        simp only[cond_true] at h
        simp only[qg] at hb
        have b0:=Nat.eq_of_beq_eq_true hb.1.1.1
        have b1:0<ie.size:=Nat.le_of_ble_eq_true hb.1.1.2
        have b2:=Nat.le_of_ble_eq_true hb.1.2
        have b3:=Nat.le_of_ble_eq_true hb.2
        subst b0
        have move:∀{cs:List EV},((H.get b).bind VO.cs?)=some cs→cap<n+m→Nat.ble (off+n*ie.size) cs.length=true →
          ∃v w',(Builtin.append_ #[t,t] ty #[.slice (some ⟨q.r,o,none⟩) n cap,.slice (some sp) m c2]).run P w=.ok v w'∧dl φ I F E k nx (.sl k 0 (n+m) ie.size .en) (H.set k (some (.cells false ((cs.drop off).take (n*ie.size)++news)))) nx v w':=fun {cs} hcs hlt hle=>by
         obtain ⟨vs,g1,g2,g3,g4⟩:=e8 (n:=n*ie.size) (off:=off) (l:=(cs.drop off).take (n*ie.size)) hR (by unfold cellsOf;rw[hcs];dsimp only;rw[hle];rfl) hq
         have hrun:=run_append_grow (P:=P) w t ty e f zv ht f1 f4 ⟨q.r,o,none⟩ n cap vs (by rw[g2,f2]) (fun j v hj=>by
          have hjl:=(List.getElem?_eq_some_iff.1 hj).1
          have hn0:n≠0:=fun e=>by rw[g2,e,Nat.zero_mul] at hjl;omega
          rw[bj,x2 (by omega)]
          exact g4 j v hj) sp m c2 nv (by rw[n2,f2]) hat hlt (by omega) (growslice_fits hlt (by rw[f3];omega))
         refine ⟨_,_,hrun,?_⟩
         have he:(vs.toArray++nv.toArray:Array Value)=(vs++nv).toArray:=by simp
         rw[he]
         exact sJ hTe f1 f2 f5 hR hk hkx (g1.append n1) (fun u hu=>(List.mem_append.1 hu).elim (g3 u) (n3 u)) (by rw[q8,g2,n2,Nat.add_mul]) (grownCap_ge _ _ _ _)
        split at h
        ·rename_i ex cs hcs
         have hcs2:(H.get b).bind VO.cs?=some cs:=by rw[hcs];rfl
         cases hin:(CO (n+m) cp&&Nat.ble (off+(n+m)*ie.size) cs.length) with
         |true=>
          rw[hin] at h
          simp only[cond_true,Option.some.injEq,Prod.mk.injEq] at h
          obtain ⟨rfl,rfl⟩:=h
          simp only[qg] at hin
          have i2:=Nat.le_of_ble_eq_true hin.2
          obtain ⟨A,L,hBb,hr,hS⟩:=hR.pick hcs
          obtain ⟨q',S,vs,junk,y1,y2,y3,y4,y5,y6,rfl⟩:=hBb
          rw[hq] at y1;cases y1
          have hown:=hS.own _ (.head _)
          simp only at hown
          have hmul:(n+m)*ie.size=n*ie.size+m*ie.size:=Nat.add_mul _ _ _
          have hvl:=y3.length
          have hcap:n+m≤cap:=by
           cases cp with
           |ex c3=>
            have x3:cap=c3:=x3
            have:=Nat.le_of_ble_eq_true hin.1
            omega
           |en=>
            have x3:q.sh+off+cap*ie.size=q.κ:=x3
            rw[q8] at y5
            have:(n+m)*ie.size≤cap*ie.size:=by omega
            exact Nat.le_of_mul_le_mul_right this b1
           |un=>cases hin.1
          have ho:o=off:=by rw[x2 (by omega),y2,Nat.zero_add]
          subst ho
          have hrun:=fD (P:=P) (ty:=ty) ht f1 (off:=o) (n:=n) (cap:=cap) (m:=m) (c:=c2) hown (by rw[n2,f2]) hat n3 hcap (by rw[f2,n2];simp;omega)
          rw[f2,n2] at hrun
          have hcells:(vs++junk).toArray.toList.take (o+n*ie.size)++nv++(vs++junk).toArray.toList.drop (o+n*ie.size+m*ie.size)=(vs.take (o+n*ie.size)++nv++vs.drop (o+(n+m)*ie.size))++junk:=by
           simp only
           rw[List.take_append_of_le_length (by omega),List.drop_append_of_le_length (by omega),hmul,Nat.add_assoc]
           simp
          rw[hcells] at hrun
          refine ⟨_,_,hrun,?_⟩
          refine ⟨I,φ,.refl _,.refl _,fun _ _ _=>Z,Nat.le_refl _,⟨q,o,cap,hq,Z,hcap,x2,x3⟩,yz hr ⟨q,S,vs.take (o+n*ie.size)++nv++vs.drop (o+(n+m)*ie.size),junk,hq,y2,((y3.take _).append n1).append (y3.drop _),fun u hu=>?_,?_,y6,Z⟩ hS.turn1 hR.top⟩
          ·rcases List.mem_append.1 hu with hu|hu
           ·rcases List.mem_append.1 hu with hu|hu
            ·rcases List.mem_append.1 hu with hu|hu
             ·exact y4 u (List.mem_append_left _ (List.mem_of_mem_take hu))
             ·exact n3 u hu
            ·exact y4 u (List.mem_append_left _ (List.mem_of_mem_drop hu))
           ·exact y4 u (List.mem_append_right _ hu)
          ·rw[←y5]
           simp only[q8,qc,List.length_drop,n2]
           omega
         |false=>
          rw[hin] at h
          simp only[cond_false] at h
          split at h
          ·rename_i c3
           have x3:cap=c3:=x3
           subst x3
           cases hb5:(Nat.blt cap (n+m)&&Nat.ble (off+n*ie.size) cs.length) with
           |false=>rw[hb5] at h;cases h
           |true=>
            rw[hb5] at h
            simp only[cond_true,Option.some.injEq,Prod.mk.injEq] at h
            obtain ⟨rfl,rfl⟩:=h
            simp only[qg] at hb5
            exact move hcs2 (Nat.le_of_ble_eq_true hb5.1) hb5.2
          ·cases hb5:(Nat.beq off 0&&Nat.beq (n*ie.size) cs.length) with
           |false=>rw[hb5] at h;cases h
           |true=>
            rw[hb5] at h
            simp only[cond_true,Option.some.injEq,Prod.mk.injEq] at h
            obtain ⟨rfl,rfl⟩:=h
            simp only[qg] at hb5
            have c1:=Nat.eq_of_beq_eq_true hb5.1
            have c4:=Nat.eq_of_beq_eq_true hb5.2
            subst c1
            obtain ⟨A,L,hBb,hr,hS⟩:=hR.pick hcs
            obtain ⟨q',S,vs,junk,y1,y2,y3,y4,y5,y6,rfl⟩:=hBb
            rw[hq] at y1;cases y1
            have hown:=hS.own _ (.head _)
            simp only at hown
            have hvl:=y3.length
            have x3:q.sh+0+cap*ie.size=q.κ:=x3
            by_cases hcap:n+m≤cap
            ·have ho:o=0:=by rw[x2 (by omega),y2]
             subst ho
             have hmul:(n+m)*ie.size=n*ie.size+m*ie.size:=Nat.add_mul _ _ _
             have hle:(n+m)*ie.size≤cap*ie.size:=Nat.mul_le_mul_right _ hcap
             have hjl:vs.length+junk.length=cap*ie.size:=by rw[←q8,y5];omega
             have hrun:=fD (P:=P) (ty:=ty) ht f1 (off:=0) (n:=n) (cap:=cap) (m:=m) (c:=c2) hown (by rw[n2,f2]) hat n3 hcap (by rw[f2,n2];simp;omega)
             rw[f2,n2] at hrun
             have hcells:(vs++junk).toArray.toList.take (0+n*ie.size)++nv++(vs++junk).toArray.toList.drop (0+n*ie.size+m*ie.size)=(vs++nv)++junk.drop (m*ie.size):=by
              have e1:0+n*ie.size=vs.length:=by omega
              simp only[e1]
              rw[List.take_left,List.drop_append,List.drop_eq_nil_of_le (by omega:vs.length≤vs.length+m*ie.size)]
              simp
             rw[hcells] at hrun
             refine ⟨_,_,hrun,I,φ.put k ⟨q.r,0,q.κ⟩,.refl _,q0 hk _,fun j _ hj=>iK φ _ hj,Nat.le_refl _,⟨_,0,cap,ym _ _ _,rfl,hcap,fun _=>rfl,by show 0+0+cap*ie.size=q.κ;omega⟩,
              yz ((hr.moved hk).mono (.refl _) (q0 hk _)) ⟨_,S,vs++nv,junk.drop (m*ie.size),ym _ _ _,rfl,(y3.append n1).mono (q0 hk _),fun u hu=>?_,?_,(fun h=>by cases h),rfl⟩ hS.turn1 (jJ hR.top hkx _)⟩
             ·rcases List.mem_append.1 hu with hu|hu
              ·rcases List.mem_append.1 hu with hu|hu
               ·exact y4 u (List.mem_append_left _ hu)
               ·exact n3 u hu
              ·exact y4 u (List.mem_append_right _ (List.mem_of_mem_drop hu))
             ·show _=q.κ
              rw[←y5]
              simp only[q8,List.length_drop,n2]
              omega
            ·have hlt:cap<n+m:=by omega
             obtain ⟨us,g1,g2,g3,g4⟩:=e8 (n:=n*ie.size) (off:=0) (l:=(cs.drop 0).take (n*ie.size)) hR (by unfold cellsOf;rw[hcs2];dsimp only;rw[show Nat.ble (0+n*ie.size) cs.length=true from Nat.ble_eq_true_of_le (by omega)];rfl) hq
             have e0:(cs.drop 0).take (n*ie.size)=cs:=by rw[List.drop_zero,List.take_of_length_le (by omega)]
             rw[e0] at g1
             have hrun:=run_append_grow (P:=P) w t ty e f zv ht f1 f4 ⟨q.r,o,none⟩ n cap us (by rw[g2,f2]) (fun j v hj=>by
              have hjl:=(List.getElem?_eq_some_iff.1 hj).1
              have hn0:n≠0:=fun e=>by rw[g2,e,Nat.zero_mul] at hjl;omega
              rw[bj,x2 (by omega)]
              exact g4 j v hj) sp m c2 nv (by rw[n2,f2]) hat hlt (by omega) (growslice_fits hlt (by rw[f3];omega))
             refine ⟨_,_,hrun,?_⟩
             have he:(us.toArray++nv.toArray:Array Value)=(us++nv).toArray:=by simp
             rw[he]
             have hR2:cJ I φ (H.set b none) nx F E w:=cJ.gone hr hS.dropAll hR.top
             exact sJ hTe f1 f2 f5 hR2 hk hkx (g1.append n1) (fun u hu=>(List.mem_append.1 hu).elim (g3 u) (n3 u)) (by rw[q8,g2,n2,Nat.add_mul]) (grownCap_ge _ _ _ _)
          ·cases h
        ·rename_i cs hcs
         have hcs2:(H.get b).bind VO.cs?=some cs:=by rw[hcs];rfl
         split at h
         ·rename_i c3
          have x3:cap=c3:=x3
          subst x3
          cases hb5:(Nat.blt cap (n+m)&&Nat.ble (off+n*ie.size) cs.length) with
          |false=>rw[hb5] at h;cases h
          |true=>
           rw[hb5] at h
           simp only[cond_true,Option.some.injEq,Prod.mk.injEq] at h
           obtain ⟨rfl,rfl⟩:=h
           simp only[qg] at hb5
           exact move hcs2 (Nat.le_of_ble_eq_true hb5.1) hb5.2
         ·cases h
        ·cases h
     ·cases h
    ·cases h
   ·cases h
  ·cases h
 ·cases h
end
end
end Go.Proofs.YtjpnhkmfhlnpcaaGreatDoor
