/- What an operation comes to that writes, over a heap told exactly. No conditions. -/
import Derived.Test.YtbanfokidalbaaaGreatDoorJw
import Derived.Test.YtbanfokidalbaaaGreatDoorJv
import Derived.Test.YtbanfokidalbaaaGreatDoorJd
import Derived.WideKeyRuns
set_option linter.unusedVariables false
set_option linter.unusedSimpArgs false
set_option linter.unusedSectionVars false
namespace Go.Proofs.YtbanfokidalbaaaGreatDoor
section
def sw {α β:Type} (f:α→Option β):List α→Option (List β)
 |[]=>some []
 |x::l=>match f x,sw f l with
  |some y,some m=>some (y::m)
  |_,_=>none
theorem lX {φ:dG} {α:Type} {f:α→Option EV} {g:α→Value} (h:∀x a,f x=some a→bh φ a (g x)):∀(l:List α) (m:List EV),sw f l=some m→RelVs φ m (l.map g)
 |[],m,e=>by cases e;rfl
 |x::l,m,e=>by
  unfold sw at e
  split at e
  ·rename_i y m' h1 h2
   cases e
   exact ⟨_,_,rfl,h x y h1,lX h l m' h2⟩
  ·cases e
def Eq:Nat→Value→Option EV
 |0,_=>none
 |n+1,v=>match v with
  |.bool b=>some (.b b)
  |.int k i=>some (.i k i)
  |.string s=>some (.s s)
  |.pointer none=>some .np
  |.slice none 0 0=>some .ns
  |.map none=>some .nm
  |.nilFunc=>some .nf
  |.nilIface=>some .ni
  |.agg cs=>(sw (Eq n) cs.toList).map EV.ag
  |_=>none
theorem pK {φ:dG}:∀(n:Nat) (v:Value) (a:EV),Eq n v=some a→bh φ a v
 |0,_,_,h=>by cases h
 |n+1,v,a,h=>by
  unfold Eq at h
  split at h
  case h_9 cs=>
   obtain ⟨m,hm,rfl⟩:=Option.map_eq_some_iff.1 h
   have:=lX (φ:=φ) (g:=id) (pK n) cs.toList m hm
   exact ⟨cs.toList,by simp,by simpa using this⟩
  all_goals first|(cases h;rfl)|cases h
noncomputable def cV (g:Nat→EV):Operand→Option EV
 |.tmp t=>some (g t)
 |.const v=>Eq 5 v
 |.func f=>some (.fn f [] [])
 |.global _=>none
section
variable {φ:dG} {g:Nat→EV} {ρ:cO}
theorem aW (hg:fP φ g ρ) {x:Operand} {a:EV} (h:cV g x=some a):bh φ a (ev ρ x):=by
 cases x<;>simp only[cV] at h
 ·cases h;exact hg _
 ·exact pK _ _ _ h
 ·cases h
 ·cases h;exact ⟨[],[],rfl,rfl,rfl⟩
theorem pL (hg:fP φ g ρ) {l:List Operand} {m:List EV} (h:sw (cV g) l=some m):RelVs φ m (l.map (ev ρ)):=lX (fun _ _=>aW hg) l m h
end
noncomputable def xj (g:Nat→EV):Option Operand→Option (Option Nat)
 |none=>some none
 |some x=>match cV g x with
  |some (.i _ n)=>(lx n).map some
  |_=>none
theorem vg {φ:dG} {g:Nat→EV} {ρ:cO} (hg:fP φ g ρ) {x:Option Operand} {n:Option Nat} (h:xj g x=some n):AW (x.map (ev ρ)) n:=by
 cases x with
 |none=>cases h;trivial
 |some x=>
  unfold xj at h
  dsimp only at h
  split at h
  ·rename_i k i hx
   obtain ⟨j,hj,rfl⟩:=Option.map_eq_some_iff.1 h
   have:=aW hg hx
   exact ⟨k,by rw[show ev ρ x=.int k i from this,iL hj]⟩
  ·cases h
noncomputable def ou (T:TT):Nat→TypeId→EV→EV→Option Bool
 |0,_,_,_=>none
 |n+1,t,x,y=>match T t with
  |some i=>match i.d,x,y with
   |.bool,.b a,.b c=>some (a == c)
   |.int _,.i k a,.i k' c=>if k=k' then some (a == c) else none
   |.string,.s a,.s c=>some (va a c)
   |.array len e,.ag xs,.ag ys=>match T e with
    |some ie=>(sw (fun j=>match eR T e xs (j*ie.size),eR T e ys (j*ie.size) with
     |some a,some c=>ou T n e a c
     |_,_=>none) (List.range len)).map fun l=>l.all id
    |none=>none
   |.struct fs,.ag xs,.ag ys=>bif i.q then (sw (fun f:Field=>match eR T f.type xs f.offset,eR T f.type ys f.offset with
     |some a,some c=>ou T n f.type a c
     |_,_=>none) fs.toList).map fun l=>l.all id
    else none
   |_,_,_=>none
  |none=>none
theorem ov {P:Program} {α:Type} {body:α→Option Bool × Unit→Sem (ForInStep (Option Bool × Unit))} {w:World}:∀(l:List α) (bs:List Bool),bs.length=l.length →
  (∀(j:Nat) (i:α) b,l[j]?=some i→bs[j]?=some b→(body i (none,())).run P w=.ok (if b=true then .yield (none,()) else .done (some false,())) w) →
  (forIn l ((none,()):Option Bool × Unit) body).run P w=.ok (if bs.all id=true then (none,()) else (some false,())) w
 |[],bs,hl,_=>by
  have:bs=[]:=List.eq_nil_of_length_eq_zero hl
  subst this
  rfl
 |i::l,[],hl,_=>by cases hl
 |i::l,b::bs,hl,h=>by
  rw[List.forIn_cons,Sem.run_bind,h 0 i b rfl rfl]
  cases b with
  |true=>
   simp only[if_pos,Result.andThen_ok]
   rw[ov l bs (by simpa using hl) fun j i' b' h1 h2=>h (j+1) i' b' h1 h2]
   simp
  |false=>simp
theorem lY {P:Program} {φ:dG} {T:TT} (hT:dV P T) {w:World}:∀(n:Nat) (t:TypeId) (x y:EV) (a c:Value) (b:Bool),ou T n t x y=some b→bh φ x a→bh φ y c→∀d,n≤d→(Op.equalIn d t a c).run P w=.ok b w
 |0,_,_,_,_,_,_,h,_,_,_,_=>by cases h
 |n+1,t,x,y,a,c,b,h,hx,hy,d,hd=>by
  obtain ⟨d,rfl⟩:∃d',d=d'+1:=⟨d - 1,by omega⟩
  unfold ou at h
  split at h
  ·rename_i i hi
   have hu:=(hT t i hi).und
   split at h
   ·rename_i a' c' hdd
    rw[hdd] at hu
    have hx:a=.bool a':=hx
    have hy:c=.bool c':=hy
    cases h;subst hx hy
    simp[Op.equalIn,run_underlying hu]
   ·rename_i k0 k a' k' c' hdd
    rw[hdd] at hu
    have hx:a=.int k a':=hx
    have hy:c=.int k' c':=hy
    subst hx hy
    split at h
    ·rename_i e
     subst e
     cases h
     simp[Op.equalIn,run_underlying hu]
    ·cases h
   ·rename_i a' c' hdd
    rw[hdd] at hu
    have hx:a=.string a':=hx
    have hy:c=.string c':=hy
    cases h;subst hx hy
    have e:(a' == c')=decide (a'=c'):=by
     cases hb:(a' == c') with
     |true=>rw[w7 ((MapKept.bytes_beq a' c').1 hb)]
     |false=>rw[w8 fun q=>by rw[(MapKept.bytes_beq a' c').2 q] at hb;cases hb]
    rw[lV,←e]
    simp[Op.equalIn,run_underlying hu]
   ·rename_i len e xs ys hdd
    rw[hdd] at hu
    obtain ⟨vs,rfl,hv⟩:=hx
    obtain ⟨us,rfl,hu2⟩:=hy
    split at h
    ·rename_i ie hie
     have hTe:=hT e ie hie
     obtain ⟨bs,hbs,rfl⟩:=Option.map_eq_some_iff.1 h
     have hget:∀(l:List Nat) (bs:List Bool),sw (fun j=>match eR T e xs (j*ie.size),eR T e ys (j*ie.size) with
       |some a,some c=>ou T n e a c
       |_,_=>none) l=some bs→bs.length=l.length∧∀(j i:Nat) b,l[j]?=some i→bs[j]?=some b→∃p q,eR T e xs (i*ie.size)=some p∧eR T e ys (i*ie.size)=some q∧ou T n e p q=some b:=by
      intro l
      induction l with
      |nil=>intro bs hb;cases hb;exact ⟨rfl,fun j i b h=>by simp at h⟩
      |cons i0 l ih=>
       intro bs hb
       unfold sw at hb
       split at hb
       ·rename_i y m h1 h2
        cases hb
        obtain ⟨g1,g2⟩:=ih m h2
        refine ⟨by simp[g1],fun j i b h3 h4=>?_⟩
        cases j with
        |zero=>
         simp only[List.getElem?_cons_zero,Option.some.injEq] at h3 h4
         subst h3 h4
         split at h1
         ·rename_i p q e1 e2;exact ⟨p,q,e1,e2,h1⟩
         ·cases h1
        |succ j=>simp only[List.getElem?_cons_succ] at h3 h4;exact g2 j i b h3 h4
       ·cases hb
     obtain ⟨g1,g2⟩:=hget _ _ hbs
     rw[Op.equalIn]
     simp only[Sem.run_bind,run_underlying hu,Result.andThen_ok,hTe.sz]
     rw[Std.Legacy.Range.forIn_eq_forIn_range']
     have hr:List.range' 0 (Std.Legacy.Range.size [:len]) 1=List.range len:=by
      simp[Std.Legacy.Range.size,List.range_eq_range']
     rw[show List.range' ([:len]:Std.Legacy.Range).start ([:len]:Std.Legacy.Range).size ([:len]:Std.Legacy.Range).step=List.range len from hr]
     rw[ov (List.range len) bs g1 fun j i b h1 h2=>by
      obtain ⟨p,q,e1,e2,e3⟩:=g2 j i b h1 h2
      obtain ⟨v1,k1,k2⟩:=gp (w:=w) hT e1 hv
      obtain ⟨v2,k3,k4⟩:=gp (w:=w) hT e2 hu2
      have k5:=lY (w:=w) hT n e p q v1 v2 b e3 k2 k4 d (by omega)
      simp only[Sem.run_bind,k1,k3,k5,Result.andThen_ok]
      cases b<;>rfl]
     cases hall:bs.all id<;>simp
    ·cases h
   ·rename_i fs xs ys hdd
    have hq:=(hT t i hi).qd
    rw[hdd] at hu
    obtain ⟨vs,rfl,hv⟩:=hx
    obtain ⟨us,rfl,hu2⟩:=hy
    cases hqq:i.q with
    |false=>rw[hqq] at h;cases h
    |true=>
     rw[hqq] at h
     simp only[cond_true] at h
     obtain ⟨hs1,hs2⟩:=hq hqq
     have hs2:=hs2 fs hdd
     obtain ⟨bs,hbs,rfl⟩:=Option.map_eq_some_iff.1 h
     have hget:∀(l:List Field) (bs:List Bool),sw (fun f:Field=>match eR T f.type xs f.offset,eR T f.type ys f.offset with
       |some a,some c=>ou T n f.type a c
       |_,_=>none) l=some bs→bs.length=l.length∧∀(j:Nat) (f:Field) b,l[j]?=some f→bs[j]?=some b→∃p q,eR T f.type xs f.offset=some p∧eR T f.type ys f.offset=some q∧ou T n f.type p q=some b:=by
      intro l
      induction l with
      |nil=>intro bs hb;cases hb;exact ⟨rfl,fun j i b h=>by simp at h⟩
      |cons i0 l ih=>
       intro bs hb
       unfold sw at hb
       split at hb
       ·rename_i y m h1 h2
        cases hb
        obtain ⟨g1,g2⟩:=ih m h2
        refine ⟨by simp[g1],fun j i b h3 h4=>?_⟩
        cases j with
        |zero=>
         simp only[List.getElem?_cons_zero,Option.some.injEq] at h3 h4
         subst h3 h4
         split at h1
         ·rename_i p q e1 e2;exact ⟨p,q,e1,e2,h1⟩
         ·cases h1
        |succ j=>simp only[List.getElem?_cons_succ] at h3 h4;exact g2 j i b h3 h4
       ·cases hb
     obtain ⟨g1,g2⟩:=hget _ _ hbs
     rw[Op.equalIn]
     have hpr:(program:Sem Program).run P w=.ok P w:=rfl
     simp only[Sem.run_bind,run_underlying hu,Result.andThen_ok,hpr,hs1]
     rw[if_neg (by decide)]
     simp only[Sem.run_bind,Sem.run_pure,Result.andThen_ok]
     rw[←Array.forIn_toList]
     rw[ov fs.toList bs g1 fun j f b h1 h2=>by
      obtain ⟨p,q,e1,e2,e3⟩:=g2 j f b h1 h2
      obtain ⟨v1,k1,k2⟩:=gp (w:=w) hT e1 hv
      obtain ⟨v2,k3,k4⟩:=gp (w:=w) hT e2 hu2
      have k5:=lY (w:=w) hT n f.type p q v1 v2 b e3 k2 k4 d (by omega)
      rw[if_pos (hs2 f (w3 h1))]
      simp only[Sem.run_bind,k1,k3,k5,Result.andThen_ok]
      cases b<;>rfl]
     cases hall:bs.all id<;>simp
   ·cases h
  ·cases h
noncomputable def GZ (T:TT) (i:TI) (t:Nat) (v:EV) (ok:Bool):Option EV:=match i.d,T t with
 |.interface want,some it=>bif it.mi want then some (bif ok then .tu [.ifc t v,.b true] else .ifc t v) else bif ok then some (.tu [i.v,.b false]) else none
 |_,_=>none
noncomputable def KU (T:TT) (g:Nat→EV) (op:Op):Option EV:=
 match op with
 |.move x | .assign x=>cV g x
 |.pick c a b=>match cV g c with
  |some (.b t)=>bif t then cV g a else cV g b
  |_=>none
 |.binOp op t x y _=>match cV g x,cV g y with
  |some a,some b=>match B6 T op t y a b with
   |some z=>some z
   |none=>match op,a,b,T t with
    |.eql,.ag l,.ag m,some i=>bif i.g then (ou T 9 t (.ag l) (.ag m)).map EV.b else none
    |.neq,.ag l,.ag m,some i=>bif i.g then (ou T 9 t (.ag l) (.ag m)).map fun z=>.b (!z) else none
    |_,_,_,_=>none
  |_,_=>none
 |.unOp op _ x=>match cV g x with
  |some a=>Ja op a
  |none=>none
 |.extract x i=>match cV g x with
  |some (.tu l)=>l[i]?
  |_=>none
 |.nilCheck x=>match cV g x with
  |some (.p b off)=>some (.p b off)
  |_=>none
 |.fieldAddr t x f=>match cV g x with
  |some (.p b off)=>pE T t f b off
  |_=>none
 |.field t x f=>match cV g x with
  |some (.ag cs)=>pF T t f cs
  |_=>none
 |.indexAddr t x y=>match cV g x,cV g y with
  |some a,some (.i _ n)=>vd T t a n
  |_,_=>none
 |.index t x y=>match cV g x,cV g y with
  |some a,some (.i _ n)=>B8 T t a n
  |_,_=>none
 |.build t ps=>match sw (fun p:Nat × Operand=>cV g p.2) ps.toList with
  |some vs=>pH T t (ps.toList.map (·.1)) vs
  |none=>none
 |.slice t x lo hi mx=>match cV g x,xj g lo,xj g hi,xj g mx with
  |some a,some lo',some hi',some mx'=>Jc T t a lo' hi' mx'
  |_,_,_,_=>none
 |.convert s d x=>match cV g x with
  |some a=>vf T s d a
  |none=>none
 |.makeInterface t x=>match cV g x with
  |some a=>B9 T t a
  |none=>none
 |.makeFunc (.func f) a c=>match sw (cV g) a.toList,sw (cV g) c.toList with
  |some l,some m=>some (.fn f l m)
  |_,_=>none
 |.typeAssert x _ A ok=>match cV g x,T A with
  |some (.ifc t v),some i=>bif xi i.d then (bif Nat.beq t A then some (bif ok then .tu [v,.b true] else v) else bif ok then some (.tu [i.v,.b false]) else none) else GZ T i t v ok
  |some .ni,some i=>bif xi i.d&&ok then some (.tu [i.v,.b false]) else none
  |_,_=>none
 |.call ⟨.builtin .len,ar,ts⟩=>match ar.toList,ts.toList with
  |[x],[t]=>match cV g x with
   |some a=>Ca T t a
   |none=>none
  |_,_=>none
 |.call ⟨.builtin .cap,ar,ts⟩=>match ar.toList,ts.toList with
  |[x],[t]=>match cV g x with
   |some a=>Cb T t a
   |none=>none
  |_,_=>none
 |.call ⟨.builtin .min,ar,_⟩=>match ar.toList with
  |[x,y]=>match cV g x,cV g y with
   |some (.i k a),some (.i k' b)=>if k=k' then some (.i k (if b<a then b else a)) else none
   |_,_=>none
  |_=>none
 |.call ⟨.builtin .max,ar,_⟩=>match ar.toList with
  |[x,y]=>match cV g x,cV g y with
   |some (.i k a),some (.i k' b)=>if k=k' then some (.i k (if a<b then b else a)) else none
   |_,_=>none
  |_=>none
 |_=>none
noncomputable def Je (g:Nat→EV) (c a b:Operand):Option EV:=match cV g c with
 |some (.b t)=>bif t then cV g a else cV g b
 |_=>none
noncomputable def Jf (T:TT) (op:BinOp) (t:TypeId) (a b:EV):Option EV:=match op,a,b,T t with
 |.eql,.ag l,.ag m,some i=>bif i.g then (ou T 9 t (.ag l) (.ag m)).map EV.b else none
 |.neq,.ag l,.ag m,some i=>bif i.g then (ou T 9 t (.ag l) (.ag m)).map fun z=>.b (!z) else none
 |_,_,_,_=>none
noncomputable def KV (T:TT) (g:Nat→EV) (op:BinOp) (t:TypeId) (x y:Operand):Option EV:=match cV g x,cV g y with
 |some a,some b=>match B6 T op t y a b with
  |some z=>some z
  |none=>Jf T op t a b
 |_,_=>none
noncomputable def Mm (g:Nat→EV) (op:UnOp) (x:Operand):Option EV:=match cV g x with
 |some a=>Ja op a
 |none=>none
noncomputable def KW (g:Nat→EV) (x:Operand) (i:Nat):Option EV:=match cV g x with
 |some (.tu l)=>l[i]?
 |_=>none
noncomputable def KX (g:Nat→EV) (x:Operand):Option EV:=match cV g x with
 |some (.p b off)=>some (.p b off)
 |_=>none
noncomputable def Mn (T:TT) (g:Nat→EV) (t:Nat) (x:Operand) (f:Nat):Option EV:=match cV g x with
 |some (.p b off)=>pE T t f b off
 |_=>none
noncomputable def Mo (T:TT) (g:Nat→EV) (t:Nat) (x:Operand) (f:Nat):Option EV:=match cV g x with
 |some (.ag cs)=>pF T t f cs
 |_=>none
noncomputable def Mp (T:TT) (g:Nat→EV) (t:Nat) (x y:Operand):Option EV:=match cV g x,cV g y with
 |some a,some (.i _ n)=>vd T t a n
 |_,_=>none
noncomputable def Mq (T:TT) (g:Nat→EV) (t:Nat) (x y:Operand):Option EV:=match cV g x,cV g y with
 |some a,some (.i _ n)=>B8 T t a n
 |_,_=>none
noncomputable def KY (T:TT) (g:Nat→EV) (t:Nat) (ps:Array (Nat × Operand)):Option EV:=match sw (fun p:Nat × Operand=>cV g p.2) ps.toList with
 |some vs=>pH T t (ps.toList.map (·.1)) vs
 |none=>none
noncomputable def Mr (T:TT) (g:Nat→EV) (t:Nat) (x:Operand) (lo hi mx:Option Operand):Option EV:=match cV g x,xj g lo,xj g hi,xj g mx with
 |some a,some lo',some hi',some mx'=>Jc T t a lo' hi' mx'
 |_,_,_,_=>none
noncomputable def Ms (T:TT) (g:Nat→EV) (s d:Nat) (x:Operand):Option EV:=match cV g x with
 |some a=>vf T s d a
 |none=>none
noncomputable def Mt (T:TT) (g:Nat→EV) (t:Nat) (x:Operand):Option EV:=match cV g x with
 |some a=>B9 T t a
 |none=>none
noncomputable def Mu (g:Nat→EV) (fn:Go.Fn) (a c:Array Operand):Option EV:=match fn with
 |.func f=>match sw (cV g) a.toList,sw (cV g) c.toList with
  |some l,some m=>some (.fn f l m)
  |_,_=>none
 |_=>none
noncomputable def Mv (T:TT) (g:Nat→EV) (x:Operand) (A:TypeId) (ok:Bool):Option EV:=match cV g x,T A with
 |some (.ifc t v),some i=>bif xi i.d then (bif Nat.beq t A then some (bif ok then .tu [v,.b true] else v) else bif ok then some (.tu [i.v,.b false]) else none) else GZ T i t v ok
 |some .ni,some i=>bif xi i.d&&ok then some (.tu [i.v,.b false]) else none
 |_,_=>none
noncomputable def KZ (T:TT) (g:Nat→EV) (ar:Array Operand) (ts:Array TypeId):Option EV:=match ar.toList,ts.toList with
 |[x],[t]=>match cV g x with
  |some a=>Ca T t a
  |none=>none
 |_,_=>none
noncomputable def K0 (T:TT) (g:Nat→EV) (ar:Array Operand) (ts:Array TypeId):Option EV:=match ar.toList,ts.toList with
 |[x],[t]=>match cV g x with
  |some a=>Cb T t a
  |none=>none
 |_,_=>none
noncomputable def K1 (g:Nat→EV) (ar:Array Operand):Option EV:=match ar.toList with
 |[x,y]=>match cV g x,cV g y with
  |some (.i k a),some (.i k' b)=>if k=k' then some (.i k (if b<a then b else a)) else none
  |_,_=>none
 |_=>none
noncomputable def K3 (g:Nat→EV) (ar:Array Operand):Option EV:=match ar.toList with
 |[x,y]=>match cV g x,cV g y with
  |some (.i k a),some (.i k' b)=>if k=k' then some (.i k (if a<b then b else a)) else none
  |_,_=>none
 |_=>none
noncomputable def Mw (T:TT) (g:Nat→EV) (b:Builtin) (ar:Array Operand) (ts:Array TypeId):Option EV:=match b with
 |.len=>KZ T g ar ts
 |.cap=>K0 T g ar ts
 |.min=>K1 g ar
 |.max=>K3 g ar
 |_=>none
noncomputable def Mx (T:TT) (g:Nat→EV) (c:Call):Option EV:=match c with
 |⟨.builtin b,ar,ts⟩=>Mw T g b ar ts
 |_=>none
noncomputable def My (T:TT) (g:Nat→EV) (op:Op):Option EV:=
 match op with
 |.move x=>cV g x
 |.assign x=>cV g x
 |.pick c a b=>Je g c a b
 |.binOp op t x y _=>KV T g op t x y
 |.unOp op _ x=>Mm g op x
 |.extract x i=>KW g x i
 |.nilCheck x=>KX g x
 |.fieldAddr t x f=>Mn T g t x f
 |.field t x f=>Mo T g t x f
 |.indexAddr t x y=>Mp T g t x y
 |.index t x y=>Mq T g t x y
 |.build t ps=>KY T g t ps
 |.slice t x lo hi mx=>Mr T g t x lo hi mx
 |.convert s d x=>Ms T g s d x
 |.makeInterface t x=>Mt T g t x
 |.makeFunc fn a c=>Mu g fn a c
 |.typeAssert x _ A ok=>Mv T g x A ok
 |.call c=>Mx T g c
 |_=>none
theorem K4 (T:TT) (g:Nat→EV) (op:Op):My T g op=KU T g op:=by
 cases op<;>try rfl
 case makeFunc fn a c=>cases fn<;>rfl
 case call c=>
  obtain ⟨cl,ar,ts⟩:=c
  cases cl<;>try rfl
  rename_i b
  cases b<;>rfl
theorem iM {P:Program} {s:Sem Value} {v:Value} {w w':World} (h:s.run P w=.ok v w'):(do pure (Next.value (←s)):Sem Next).run P w=.ok (.value v) w':=by
 rw[Sem.run_bind,h];rfl
theorem Er {α:Type} {a:Array α} {x:α} (h:a.toList=[x]):a=#[x]:=Array.toList_inj.1 h
theorem Es {α:Type} {a:Array α} {x y:α} (h:a.toList=[x,y]):a=#[x,y]:=Array.toList_inj.1 h
section
variable {P:Program} {φ:dG} {g:Nat→EV} {ρ:cO} {w:World} {T:TT}
theorem Jg (hT:dV P T) (hg:fP φ g ρ) {o:Oper} {x:EV} (h:KU T g o.op=some x):∃v,(execOp (ev ρ) o).run P w=.ok (.value v) w∧bh φ x v:=by
 obtain ⟨dst,op,ty,pos,af,gu⟩:=o
 dsimp only at h
 unfold KU at h
 split at h
 ·exact ⟨_,rfl,aW hg h⟩
 ·exact ⟨_,rfl,aW hg h⟩
 ·split at h
  ·rename_i c a b _ t hc
   have hc:ev ρ c=.bool t:=aW hg hc
   cases t
   ·exact ⟨_,by simp[execOp,hc,asBool],aW hg h⟩
   ·exact ⟨_,by simp[execOp,hc,asBool],aW hg h⟩
  ·cases h
 ·split at h
  ·rename_i op t x y u _ _ a b hx hy
   split at h
   ·rename_i z hz
    cases h
    obtain ⟨v,h1,h2⟩:=GU (w:=w) (p:=x) hT hz (aW hg hx) (aW hg hy)
    exact ⟨v,iM h1,h2⟩
   ·split at h
    ·rename_i l m i hi _
     cases hgd:i.g with
     |false=>rw[hgd] at h;cases h
     |true=>
      rw[hgd] at h
      obtain ⟨r,hr,rfl⟩:=Option.map_eq_some_iff.1 h
      obtain ⟨vs,e1,h1⟩:=aW hg hx
      obtain ⟨us,e2,h2⟩:=aW hg hy
      have he:=lY (w:=w) hT 9 t _ _ _ _ r hr ⟨vs,e1,h1⟩ ⟨us,e2,h2⟩ 10000 (by omega)
      have hgg:=(hT t i hi).gd hgd
      refine ⟨.bool r,?_,Z⟩
      rw[e1,e2] at he
      simp only[execOp,e1,e2]
      simp[run_eqGuard_agg w .eql t x y vs.toArray us.toArray hgg,run_eql_struct,he]
    ·rename_i l m i hi _
     cases hgd:i.g with
     |false=>rw[hgd] at h;cases h
     |true=>
      rw[hgd] at h
      obtain ⟨r,hr,rfl⟩:=Option.map_eq_some_iff.1 h
      obtain ⟨vs,e1,h1⟩:=aW hg hx
      obtain ⟨us,e2,h2⟩:=aW hg hy
      have he:=lY (w:=w) hT 9 t _ _ _ _ r hr ⟨vs,e1,h1⟩ ⟨us,e2,h2⟩ 10000 (by omega)
      have hgg:=(hT t i hi).gd hgd
      refine ⟨.bool (!r),?_,Z⟩
      rw[e1,e2] at he
      simp only[execOp,e1,e2]
      simp[run_eqGuard_agg w .neq t x y vs.toArray us.toArray hgg,run_neq_struct,he]
    ·cases h
  ·cases h
 ·split at h
  ·rename_i a hx
   obtain ⟨v,h1,h2⟩:=Jb (P:=P) (w:=w) h (aW hg hx)
   exact ⟨v,iM h1,h2⟩
  ·cases h
 ·split at h
  ·rename_i x i _ l hx
   obtain ⟨vs,he,h1⟩:=aW hg hx
   obtain ⟨v,h2,h3⟩:=h1.get h
   refine ⟨v,iM ?_,h3⟩
   rw[he]
   simp[Instr.extract,h2]
  ·cases h
 ·split at h
  ·rename_i x _ b off hx
   cases h
   obtain ⟨q,hq,he⟩:=aW hg hx
   exact ⟨_,by simp[execOp,he],q,hq,rfl⟩
  ·cases h
 ·split at h
  ·rename_i hx
   obtain ⟨v,h1,h2⟩:=AR (w:=w) hT h (aW hg hx)
   exact ⟨v,iM h1,h2⟩
  ·cases h
 ·split at h
  ·rename_i hx
   obtain ⟨v,h1,h2⟩:=AU (w:=w) hT h (aW hg hx)
   exact ⟨v,iM h1,h2⟩
  ·cases h
 ·split at h
  ·rename_i hx hy
   obtain ⟨v,h1,h2⟩:=Eo (w:=w) hT h (aW hg hx) (aW hg hy)
   exact ⟨v,iM h1,h2⟩
  ·cases h
 ·split at h
  ·rename_i hx hy
   obtain ⟨v,h1,h2⟩:=GV (w:=w) hT h (aW hg hx) (aW hg hy)
   exact ⟨v,iM h1,h2⟩
  ·cases h
 ·split at h
  ·rename_i t ps _ vs hx
   have h1:=lX (φ:=φ) (g:=fun p:Nat × Operand=>ev ρ p.2) (fun p a hp=>aW hg hp) ps.toList vs hx
   obtain ⟨v,h2,h3⟩:=AX (w:=w) (parts:=ps.toList.map fun p=>(p.1,ev ρ p.2)) hT (by rw[List.map_map];exact h) (by rw[List.map_map];exact h1)
   refine ⟨v,iM ?_,h3⟩
   have e:((ps.toList.map fun p=>(p.1,ev ρ p.2)).toArray)=ps.map fun p=>(p.1,ev ρ p.2):=by apply Array.toList_inj.1;simp
   rw[e] at h2
   exact h2
  ·cases h
 ·split at h
  ·rename_i hx h1 h2 h3
   obtain ⟨v,h4,h5⟩:=Jd (w:=w) hT h (aW hg hx) (vg hg h1) (vg hg h2) (vg hg h3)
   exact ⟨v,iM h4,h5⟩
  ·cases h
 ·split at h
  ·rename_i hx
   obtain ⟨v,h1,h2⟩:=Ep (w:=w) hT h (aW hg hx)
   exact ⟨v,iM h1,h2⟩
  ·cases h
 ·split at h
  ·rename_i hx
   obtain ⟨v,h1,h2⟩:=GW (w:=w) hT h (aW hg hx)
   exact ⟨v,iM h1,h2⟩
  ·cases h
 ·split at h
  ·rename_i f a c _ _ l m h1 h2
   cases h
   refine ⟨.func (.func f) (a.map (ev ρ)) (c.map (ev ρ)),by simp[execOp,Instr.makeFunc],_,_,?_,pL hg h1,pL hg h2⟩
   congr 1<;>(apply Array.toList_inj.1;simp)
  ·cases h
 ·rename_i x' X A ok
  split at h
  ·rename_i t v i hx hi
   obtain ⟨u,he,hr⟩:=aW hg hx
   have hu:=(hT A i hi).und
   obtain ⟨zv,hz,hzr⟩:=(hT A i hi).zeroV
   cases hd:xi i.d with
   |false=>
    rw[hd] at h
    simp only[cond_false] at h
    unfold GZ at h
    split at h
    ·rename_i want it hw hit
     rw[hw] at hu
     obtain ⟨f,hf,hmi⟩:=(hT t it hit).md
     have hmi:=hmi want
     have hpr:∀w,(program:Sem Program).run P w=.ok P w:=fun _=>rfl
     have hti:∀w,(typeInfo t).run P w=.ok f w:=fun w=>by
      simp only[typeInfo,Sem.run_bind,hpr,Result.andThen_ok,hf]
      rfl
     cases hb:it.mi want with
     |true=>
      rw[hb] at h hmi
      have hm:Instr.missingMethod want f.methods=none:=Option.isNone_iff_eq_none.1 hmi
      cases ok with
      |true=>
       cases h
       refine ⟨.tuple #[.iface t u,.bool true],?_,[.iface t u,.bool true],Z,_,_,Z,⟨u,Z,hr⟩,_,_,Z,Z,Z⟩
       simp only[execOp,Instr.typeAssert,Sem.run_bind,run_underlying hu,he,Result.andThen_ok,hti,hm]
       rfl
      |false=>
       cases h
       refine ⟨.iface t u,?_,⟨u,Z,hr⟩⟩
       simp only[execOp,Instr.typeAssert,Sem.run_bind,run_underlying hu,he,Result.andThen_ok,hti,hm]
       rfl
     |false=>
      rw[hb] at h hmi
      cases ok with
      |false=>cases h
      |true=>
       cases h
       obtain ⟨m,hm⟩:∃m,Instr.missingMethod want f.methods=some m:=by
        cases hq:Instr.missingMethod want f.methods with
        |none=>rw[hq] at hmi;cases hmi
        |some m=>exact ⟨m,rfl⟩
       refine ⟨.tuple #[zv,.bool false],?_,[zv,.bool false],Z,_,_,Z,hzr φ,_,_,Z,Z,Z⟩
       simp only[execOp,Instr.typeAssert,Sem.run_bind,run_underlying hu,he,Result.andThen_ok,hti,hm,if_true,hz]
       rfl
    ·cases h
   |true=>
    rw[hd] at h
    simp only[cond_true] at h
    cases htA:Nat.beq t A with
    |true=>
     rw[htA] at h
     have htA:=Nat.eq_of_beq_eq_true htA
     subst htA
     cases ok with
     |true=>
      cases h
      refine ⟨.tuple #[u,.bool true],?_,[u,.bool true],Z,_,_,Z,hr,_,_,Z,Z,Z⟩
      simp only[execOp,Instr.typeAssert,Sem.run_bind,run_underlying hu,he]
      revert hd
      cases i.d<;>intro hd<;>first|(simp;done)|cases hd
     |false=>
      cases h
      refine ⟨u,?_,hr⟩
      simp only[execOp,Instr.typeAssert,Sem.run_bind,run_underlying hu,he]
      revert hd
      cases i.d<;>intro hd<;>first|(simp;done)|cases hd
    |false=>
     rw[htA] at h
     have hne:¬t=A:=fun e=>by rw[e,show Nat.beq A A=true from Nat.beq_refl A] at htA;cases htA
     cases ok with
     |false=>cases h
     |true=>
      cases h
      refine ⟨.tuple #[zv,.bool false],?_,[zv,.bool false],Z,_,_,Z,hzr φ,_,_,Z,Z,Z⟩
      simp only[execOp,Instr.typeAssert,Sem.run_bind,run_underlying hu,he]
      revert hd
      cases i.d<;>intro hd<;>first|(simp[hne,hz];done)|cases hd
  ·rename_i i hx hi
   have he:ev ρ x'=.nilIface:=aW hg hx
   have hu:=(hT A i hi).und
   obtain ⟨zv,hz,hzr⟩:=(hT A i hi).zeroV
   cases hd:xi i.d with
   |false=>rw[hd] at h;cases h
   |true=>
    rw[hd] at h
    cases ok with
    |false=>cases h
    |true=>
     cases h
     refine ⟨.tuple #[zv,.bool false],?_,[zv,.bool false],Z,_,_,Z,hzr φ,_,_,Z,Z,Z⟩
     simp only[execOp,Instr.typeAssert,Sem.run_bind,run_underlying hu,he]
     revert hd
     cases i.d<;>intro hd<;>first|(simp[hz];done)|cases hd
  ·cases h
 ·split at h
  ·rename_i ar ts _ _ x t h1 h2
   have h1:=Er h1
   have h2:=Er h2
   subst h1 h2
   split at h
   ·rename_i a hx
    obtain ⟨v,h3,h4⟩:=GX (w:=w) (ty:=ty) hT h (aW hg hx)
    exact ⟨v,by simp[execOp,resolve,invoke,builtin,h3],h4⟩
   ·cases h
  ·cases h
 ·split at h
  ·rename_i ar ts _ _ x t h1 h2
   have h1:=Er h1
   have h2:=Er h2
   subst h1 h2
   split at h
   ·rename_i a hx
    obtain ⟨v,h3,h4⟩:=GY (w:=w) (ty:=ty) hT h (aW hg hx)
    exact ⟨v,by simp[execOp,resolve,invoke,builtin,h3],h4⟩
   ·cases h
  ·cases h
 ·split at h
  ·rename_i ar ts _ x y h1
   have h1:=Es h1
   subst h1
   split at h
   ·rename_i k a k' b hx hy
    have hx:ev ρ x=.int k a:=aW hg hx
    have hy:ev ρ y=.int k' b:=aW hg hy
    split at h
    ·rename_i e
     subst e
     cases h
     refine ⟨.int k (if b<a then b else a),?_,Z⟩
     simp[execOp,resolve,invoke,builtin,hx,hy,Builtin.min_,Builtin.min2,Result.andThen]
    ·cases h
   ·cases h
  ·cases h
 ·split at h
  ·rename_i ar ts _ x y h1
   have h1:=Es h1
   subst h1
   split at h
   ·rename_i k a k' b hx hy
    have hx:ev ρ x=.int k a:=aW hg hx
    have hy:ev ρ y=.int k' b:=aW hg hy
    split at h
    ·rename_i e
     subst e
     cases h
     refine ⟨.int k (if a<b then b else a),?_,Z⟩
     simp[execOp,resolve,invoke,builtin,hx,hy,Builtin.max_,Builtin.max2,Result.andThen]
    ·cases h
   ·cases h
  ·cases h
 ·cases h
theorem G1 (hT:dV P T) (hg:fP φ g ρ) {o:Oper} {x:EV} (h:My T g o.op=some x):∃v,(execOp (ev ρ) o).run P w=.ok (.value v) w∧bh φ x v:=Jg hT hg (K4 T g o.op▸h)
end
end
section
open Go.Proofs
def j5:TypeDesc→EV→Bool
 |.bool,.b _=>true
 |.int k,.i k' _=>decide (k'=k)
 |.string,.s _=>true
 |_,_=>false
def ly:EV→EV→Bool
 |.b a,.b b=>a == b
 |.i k n,.i k' m=>decide (k=k')&&decide (n=m)
 |.s a,.s b=>va a b
 |_,_=>false
def uh (k:EV):List (EV × EV)→Nat→Option (Nat × EV)
 |[],_=>none
 |x::l,i=>bif ly k x.1 then some (i,x.2) else uh k l (i+1)
theorem lZ {φ:dG} {d:TypeDesc} {x:EV} {v:Value} (h:j5 d x=true) (hr:bh φ x v):MapKept.IsKey d v:=by
 cases d<;>cases x<;>simp only[j5] at h<;>first|(cases h;done)|skip
 ·have hr:v=.bool _:=hr
  subst hr;trivial
 ·have hr:v=.int _ _:=hr
  subst hr;have h2:=wb h;exact h2
 ·have hr:v=.string _:=hr
  subst hr;trivial
theorem Et {φ:dG} {d:TypeDesc} {x y:EV} {v u:Value} (h:j5 d x=true) (k:j5 d y=true) (hr:bh φ x v) (kr:bh φ y u):ly x y=true↔v=u:=by
 cases d<;>cases x<;>simp only[j5] at h<;>first|(cases h;done)|skip
 all_goals (cases y<;>simp only[j5] at k<;>first|(cases k;done)|skip)
 ·have hr:v=.bool _:=hr
  have kr:u=.bool _:=kr
  subst hr kr;simp[ly]
 ·have hr:v=.int _ _:=hr
  have kr:u=.int _ _:=kr
  subst hr kr;simp[ly]
 ·have hr:v=.string _:=hr
  have kr:u=.string _:=kr
  subst hr kr;simp[ly,lV]
theorem xk {φ:dG} {d:TypeDesc} {k:EV} {kv:Value} (hk:j5 d k=true) (hr:bh φ k kv):∀(es:List (EV × EV)) (ms:List MapEntry) (i:Nat),dT φ es ms→es.all (fun x=>j5 d x.1)=true →
  (uh k es i=none∧Instr.findNow d kv ms i=some none∧∀x∈ms,x.key≠kv)∨∃j x e,uh k es i=some (i+j,x)∧Instr.findNow d kv ms i=some (some (i+j,e.val))∧bh φ x e.val∧ms[j]?=some e∧e.key=kv
 |[],ms,i,h,_=>by
  have h:ms=[]:=h
  subst h
  exact .inl ⟨rfl,rfl,by simp⟩
 |x::es,ms,i,h,ha=>by
  obtain ⟨e,r,rfl,h1,h2,h3⟩:=h
  simp only[List.all_cons,w9] at ha
  obtain ⟨s,hs,hiff⟩:=MapKept.sameNow_of_keys (lZ hk hr) (lZ ha.1 h1)
  have hke:=Et hk ha.1 hr h1
  unfold uh
  cases s with
  |true=>
   have he:=hiff.1 rfl
   have:ly k x.1=true:=hke.2 he
   rw[this]
   exact .inr ⟨0,x.2,e,rfl,by simp[Instr.findNow,hs],h2,rfl,he.symm⟩
  |false=>
   have hne:kv≠e.key:=fun q=>by have:=hiff.2 q;cases this
   have:ly k x.1=false:=by cases q:ly k x.1 with
    |false=>rfl
    |true=>exact absurd (hke.1 q) hne
   rw[this]
   rcases xk hk hr es r (i+1) h3 ha.2 with ⟨g1,g2,g3⟩|⟨j,y,e',g1,g2,g3,g4,g5⟩
   ·refine .inl ⟨g1,by simp[Instr.findNow,hs,g2],fun z hz=>?_⟩
    rcases List.mem_cons.1 hz with rfl|hz
    ·exact fun q=>hne q.symm
    ·exact g3 z hz
   ·refine .inr ⟨j+1,y,e',?_,?_,g3,by simpa using g4,g5⟩
    ·show uh k es (i+1)=_
     rw[g1];congr 2;omega
    ·simp[Instr.findNow,hs,g2];omega
def Cc:EV→Bool
 |.b _=>true
 |.i _ _=>true
 |.s _=>true
 |_=>false
def AY:List EV→List EV→Bool
 |[],[]=>true
 |x::l,y::m=>ly x y&&AY l m
 |_,_=>false
def vh:EV→EV→Bool
 |.ag l,.ag m=>AY l m
 |_,_=>false
noncomputable def AZ (T:TT) (i:TI):EV→Bool
 |.ag l=>match i.d with
  |.struct fs=>l.all Cc&&i.q&&fs.toList.all fun f=>match T f.type,eR T f.type l f.offset with
   |some j,some x=>j5 j.d x
   |_,_=>false
  |_=>false
 |_=>false
noncomputable def Cd (T:TT) (kt:Nat) (k:EV):List (EV × EV)→Nat→Option (Option (Nat × EV))
 |[],_=>some none
 |x::l,i=>match ou T 5 kt k x.1 with
  |some true=>bif vh k x.1 then some (some (i,x.2)) else none
  |some false=>Cd T kt k l (i+1)
  |none=>none
noncomputable def xl (T:TT) (kt:Nat) (i:TI) (k:EV) (es:List (EV × EV)):Option (Option (Nat × EV)):=
 bif j5 i.d k then (bif es.all (fun x=>j5 i.d x.1) then some (uh k es 0) else none)
 else bif AZ T i k then Cd T kt k es 0 else none
theorem G2 {φ:dG} {x y:EV} {v u:Value} (h:ly x y=true) (hr:bh φ x v) (kr:bh φ y u):v=u:=by
 cases x<;>cases y<;>simp only[ly] at h<;>first|(cases h;done)|skip
 ·have hr:v=.bool _:=hr
  have kr:u=.bool _:=kr
  subst hr kr
  rw[eq_of_beq h]
 ·have hr:v=.int _ _:=hr
  have kr:u=.int _ _:=kr
  simp only[w9,wc] at h
  subst hr kr
  rw[h.1,h.2]
 ·have hr:v=.string _:=hr
  have kr:u=.string _:=kr
  subst hr kr
  rw[lV] at h
  rw[wb h]
theorem ui {φ:dG}:∀{x y:List EV} {v u:List Value},AY x y=true→RelVs φ x v→RelVs φ y u→v=u
 |[],[],v,u,_,hr,kr=>by
  have hr:v=[]:=hr
  have kr:u=[]:=kr
  rw[hr,kr]
 |[],_::_,_,_,h,_,_=>by cases h
 |_::_,[],_,_,h,_,_=>by cases h
 |x::l,y::m,_,_,h,⟨v,vs,e1,a1,a2⟩,⟨u,us,e2,b1,b2⟩=>by
  have h:=(w9 _ _).mp h
  rw[e1,e2,G2 h.1 a1 b1,ui h.2 a2 b2]
theorem Eu {φ:dG} {x y:EV} {v u:Value} (h:vh x y=true) (hr:bh φ x v) (kr:bh φ y u):v=u:=by
 cases x<;>cases y<;>simp only[vh] at h<;>first|(cases h;done)|skip
 obtain ⟨vs,rfl,h1⟩:=hr
 obtain ⟨us,rfl,h2⟩:=kr
 rw[ui h h1 h2]
theorem Ev {φ:dG} {x:EV} {v:Value} (n:Nat) (h:Cc x=true) (hr:bh φ x v):Instr.sameBits (n+1) v v=true:=by
 cases x<;>simp only[Cc] at h<;>first|(cases h;done)|skip
 ·have hr:v=.bool _:=hr
  subst hr;simp[Instr.sameBits]
 ·have hr:v=.int _ _:=hr
  subst hr;simp[Instr.sameBits]
 ·have hr:v=.string _:=hr
  subst hr;simp[Instr.sameBits,MapKept.bytes_beq]
theorem sb {φ:dG} (n:Nat):∀{x:List EV} {v:List Value},x.all Cc=true→RelVs φ x v→((v.zip v).all fun q=>Instr.sameBits (n+1) q.1 q.2)=true
 |[],v,_,hr=>by
  have hr:v=[]:=hr
  subst hr;rfl
 |x::l,_,h,⟨v,vs,e,a1,a2⟩=>by
  simp only[List.all_cons,w9] at h
  subst e
  simp only[List.zip_cons_cons,List.all_cons,Ev n h.1 a1,Bool.true_and]
  exact sb n h.2 a2
theorem xm {P:Program} {α:Type} {body:α→PUnit→Sem (ForInStep PUnit)} {w:World}:∀(l:List α),(∀f∈l,(body f ⟨⟩).run P w=.ok (.yield ⟨⟩) w)→(forIn l PUnit.unit body).run P w=.ok ⟨⟩ w
 |[],_=>rfl
 |f::l,h=>by
  rw[List.forIn_cons,Sem.run_bind,h f (.head _)]
  exact xm l fun g hg=>h g (.tail _ hg)
theorem xn {P:Program} {φ:dG} {T:TT} (hT:dV P T) {kt:Nat} {k:EV} {kv:Value} (hr:bh φ k kv):∀(es:List (EV × EV)) (ms:List MapEntry) (i:Nat) (r:Option (Nat × EV)),dT φ es ms→Cd T kt k es i=some r →
  (r=none∧∀w,(Instr.findAsking kt kv ms i).run P w=.ok none w)∨∃j x e,r=some (i+j,x)∧(∀w,(Instr.findAsking kt kv ms i).run P w=.ok (some (i+j,e.val)) w)∧bh φ x e.val∧ms[j]?=some e∧e.key=kv
 |[],ms,i,r,h,hf=>by
  have h:ms=[]:=h
  subst h
  cases hf
  exact .inl ⟨rfl,fun _=>rfl⟩
 |x::es,ms,i,r,h,hf=>by
  obtain ⟨e,q,rfl,h1,h2,h3⟩:=h
  unfold Cd at hf
  split at hf
  ·rename_i hq
   have he:∀w,(Op.equal kt kv e.key).run P w=.ok true w:=fun w=>lY hT 5 kt k x.1 kv e.key true hq hr h1 _ (by decide)
   cases hk:vh k x.1 with
   |false=>rw[hk] at hf;cases hf
   |true=>
    rw[hk] at hf
    cases hf
    refine .inr ⟨0,x.2,e,Z,fun w=>?_,h2,Z,(Eu hk hr h1).symm⟩
    simp[Instr.findAsking,he w]
  ·rename_i hq
   have he:∀w,(Op.equal kt kv e.key).run P w=.ok false w:=fun w=>lY hT 5 kt k x.1 kv e.key false hq hr h1 _ (by decide)
   rcases xn hT hr es q (i+1) r h3 hf with ⟨g1,g2⟩|⟨j,y,e',g1,g2,g3,g4,g5⟩
   ·exact .inl ⟨g1,fun w=>by simp[Instr.findAsking,he w,g2 w]⟩
   ·have e1:i+1+j=i+(j+1):=by omega
    refine .inr ⟨j+1,y,e',by rw[g1,e1],fun w=>?_,g3,by simpa using g4,g5⟩
    simp[Instr.findAsking,he w,g2 w,e1]
  ·cases hf
theorem j6 {P:Program} {φ:dG} {T:TT} (hT:dV P T) {kt:Nat} {i:TI} (hi:T kt=some i) {k:EV} {kv:Value} (hr:bh φ k kv) {es:List (EV × EV)} {ms:List MapEntry} {r:Option (Nat × EV)} (h:dT φ es ms) (hf:xl T kt i k es=some r) :
  (∀w b,(Instr.checkKey b 10000 kt kv).run P w=.ok () w)∧(∀w,(Instr.keyThatStays kv kv).run P w=.ok kv w) ∧
  ((r=none∧∀w,(Instr.findKey kt kv ms).run P w=.ok none w)∨∃j x e,r=some (j,x)∧(∀w,(Instr.findKey kt kv ms).run P w=.ok (some (j,e.val)) w)∧bh φ x e.val∧ms[j]?=some e∧e.key=kv):=by
 have hku:=(hT kt i hi).und
 unfold xl at hf
 cases hk:j5 i.d k with
 |true=>
  rw[hk] at hf
  cases hb:es.all (fun x=>j5 i.d x.1) with
  |false=>rw[hb] at hf;cases hf
  |true=>
   rw[hb] at hf
   simp only[cond_true,Option.some.injEq] at hf
   have hkk:=lZ hk hr
   refine ⟨fun w b=>MapKept.run_checkKey hku hkk b 9999,fun w=>MapKept.run_keyThatStays hkk,?_⟩
   rcases xk hk hr es ms 0 h hb with ⟨g1,g2,_⟩|⟨j,y,e,g1,g2,g3,g4,g5⟩
   ·exact .inl ⟨by rw[←hf,g1],fun w=>MapKept.run_findKey hku g2⟩
   ·rw[Nat.zero_add] at g1 g2
    exact .inr ⟨j,y,e,by rw[←hf,g1],fun w=>MapKept.run_findKey hku g2,g3,g4,g5⟩
 |false=>
  rw[hk] at hf
  cases hw:AZ T i k with
  |false=>rw[hw] at hf;cases hf
  |true=>
   rw[hw] at hf
   simp only[cond_false,cond_true] at hf
   unfold AZ at hw
   split at hw
   ·rename_i l
    obtain ⟨vs,rfl,hvs⟩:=hr
    split at hw
    ·rename_i fs hfs
     simp only[w9] at hw
     obtain ⟨⟨hl,hq⟩,hall⟩:=hw
     rw[hfs] at hku
     have hnm:=((hT kt i hi).qd hq).2 fs hfs
     refine ⟨fun w b=>?_,fun w=>?_,?_⟩
     ·rw[show (10000:Nat)=9999+1 from rfl]
      rw[Instr.checkKey]
      simp only[Sem.run_bind,run_underlying hku,Result.andThen_ok]
      rw[←Array.forIn_toList]
      refine (congrArg (fun r=>Result.andThen r _) (xm fs.toList fun f hf=>?_)).trans Z
      have hn:=hnm f hf
      have hz:=List.all_eq_true.1 hall f hf
      split at hz
      ·rename_i j x hj hx
       obtain ⟨v,hv,hvr⟩:=gp (w:=w) hT hx hvs
       have hkc:=MapKept.run_checkKey (P:=P) (w:=w) ((hT f.type j hj).und) (lZ hz hvr) b 9998
       simp[hn,hv,hkc]
      ·cases hz
     ·have hb:∀n,Instr.sameBits (n+2) (.agg vs.toArray) (.agg vs.toArray)=true:=fun n=>by
       simp only[Instr.sameBits,beq_self_eq_true,Bool.true_and]
       exact sb n hl hvs
      unfold Instr.keyThatStays
      rw[if_pos (hb 9998)];rfl
     ·have hw:(match P.underlying kt with|some (.array _ _)|some (.struct _)=>true|_=>false)=true:=by rw[hku]
      rcases xn hT (show bh φ (.ag l) (.agg vs.toArray) from ⟨vs,rfl,hvs⟩) es ms 0 r h hf with ⟨g1,g2⟩|⟨j,y,e,g1,g2,g3,g4,g5⟩
      ·exact .inl ⟨g1,fun w=>by rw[run_findKey_eq w hw];exact g2 w⟩
      ·rw[Nat.zero_add] at g1 g2
       exact .inr ⟨j,y,e,g1,fun w=>by rw[run_findKey_eq w hw];exact g2 w,g3,g4,g5⟩
    ·cases hw
   ·cases hw
noncomputable def ow (T:TT) (t:Nat) (es:List (EV × EV)) (k:EV) (ok:Bool):Option EV:=
 match T t with
 |some i=>match i.d with
  |.map kt et=>match T kt,T et with
   |some ik,some ie=>match xl T kt ik k es with
     |some (some (_,v))=>some (bif ok then .tu [v,.b true] else v)
     |some none=>some (bif ok then .tu [ie.v,.b false] else ie.v)
     |none=>none
   |_,_=>none
  |_=>none
 |none=>none
noncomputable def cellsOf (H:Hp) (b off n:Nat):Option (List EV):=
 match (H.get b).bind VO.cs? with
 |some cs=>bif Nat.ble (off+n) cs.length then some ((cs.drop off).take n) else none
 |none=>none
def Jh:List EV→Option (List UInt8)
 |[]=>some []
 |.i .i32 (.ofNat n)::l=>match Jh l with
  |some m=>bif Nat.blt n 128 then some (n.toUInt8::m) else none
  |none=>none
 |_=>none
noncomputable def pM (T:TT) (H:Hp) (s d:Nat) (x:EV):Option EV:=
 match T s,T d with
 |some is_,some id_=>match is_.d,id_.d with
  |.slice e,.string=>match T e with
   |some ie=>match ie.d,x with
    |.int .i32,.sl b off n k _=>bif Nat.beq k 1 then match cellsOf H b off n with
     |some l=>(Jh l).map fun m=>.s ⟨m.toArray⟩
     |none=>none
     else none
    |_,_=>none
   |none=>none
  |_,_=>none
 |_,_=>none
noncomputable def K5 (T:TT) (g:Nat→EV) (H:Hp) (op:Op):Option EV:=
 match op with
 |.load t x=>match cV g x with
  |some (.p b off)=>rZ T H t b off
  |_=>none
 |.lookup t x y ok=>match cV g x,cV g y with
  |some (.m b),some k=>match H.get b with
   |some (.mp es)=>ow T t es k ok
   |_=>none
  |some .nm,some k=>ow T t [] k ok
  |_,_=>none
 |.convert s d x=>match cV g x with
  |some a=>pM T H s d a
  |none=>none
 |.call ⟨.builtin .len,ar,ts⟩=>match ar.toList,ts.toList with
  |[x],[t]=>match cV g x,T t with
   |some (.m b),some i=>match i.d,H.get b with
    |.map _ _,some (.mp es)=>some (.i .i64 es.length)
    |_,_=>none
   |some .nm,some i=>match i.d with
    |.map _ _=>some (.i .i64 0)
    |_=>none
   |_,_=>none
  |_,_=>none
 |_=>none
noncomputable def Mz (T:TT) (g:Nat→EV) (H:Hp) (t:TypeId) (x:Operand):Option EV:=match cV g x with
 |some (.p b off)=>rZ T H t b off
 |_=>none
noncomputable def MA (T:TT) (g:Nat→EV) (H:Hp) (t:TypeId) (x y:Operand) (ok:Bool):Option EV:=match cV g x,cV g y with
 |some (.m b),some k=>match H.get b with
  |some (.mp es)=>ow T t es k ok
  |_=>none
 |some .nm,some k=>ow T t [] k ok
 |_,_=>none
noncomputable def MB (T:TT) (g:Nat→EV) (H:Hp) (s d:TypeId) (x:Operand):Option EV:=match cV g x with
 |some a=>pM T H s d a
 |none=>none
noncomputable def MC (T:TT) (g:Nat→EV) (H:Hp) (ar:Array Operand) (ts:Array TypeId):Option EV:=match ar.toList,ts.toList with
 |[x],[t]=>match cV g x,T t with
  |some (.m b),some i=>match i.d,H.get b with
   |.map _ _,some (.mp es)=>some (.i .i64 es.length)
   |_,_=>none
  |some .nm,some i=>match i.d with
   |.map _ _=>some (.i .i64 0)
   |_=>none
  |_,_=>none
 |_,_=>none
noncomputable def MD (T:TT) (g:Nat→EV) (H:Hp) (c:Call):Option EV:=match c with
 |⟨.builtin .len,ar,ts⟩=>MC T g H ar ts
 |_=>none
noncomputable def ME (T:TT) (g:Nat→EV) (H:Hp) (op:Op):Option EV:=
 match op with
 |.load t x=>Mz T g H t x
 |.lookup t x y ok=>MA T g H t x y ok
 |.convert s d x=>MB T g H s d x
 |.call c=>MD T g H c
 |_=>none
theorem K6 (T:TT) (g:Nat→EV) (H:Hp) (op:Op):ME T g H op=K5 T g H op:=by
 cases op<;>try rfl
 case call c=>
  obtain ⟨cl,ar,ts⟩:=c
  cases cl<;>try rfl
  rename_i b
  cases b<;>rfl
section
variable {P:Program} {φ:dG} {g:Nat→EV} {ρ:cO} {w:World} {T:TT} {I:aT} {H:Hp} {nx:Nat} {F:List (Nat × Obj)} {E:World}
theorem kE (hR:d4 I φ H nx F E w) {b off n:Nat} {l:List EV} (h:cellsOf H b off n=some l) {q:EK} (hq:φ b=some q) :
  ∃vs,RelVs φ l vs∧vs.length=n∧(∀u∈vs,u.oneCell'=true)∧∀(j:Nat) v,vs[j]?=some v→w.cell? ⟨q.r,q.sh+off+j,none⟩=some v:=by
 unfold cellsOf at h
 split at h
 ·rename_i cs hc
  obtain ⟨o,ho,hoc⟩:=Option.bind_eq_some_iff.1 hc
  obtain ⟨vs,h1,h2,h3⟩:=hR.read ho hoc hq
  cases hb:Nat.ble (off+n) cs.length with
  |false=>rw[hb] at h;cases h
  |true=>
   rw[hb] at h;cases h
   have hb:=Nat.le_of_ble_eq_true hb
   have hl:((vs.drop off).take n).length=n:=by rw[w6,List.length_drop,h1.length];omega
   refine ⟨(vs.drop off).take n,(h1.drop off).take n,hl,fun u hu=>h2 u (List.mem_of_mem_drop (List.mem_of_mem_take hu)),fun j v hj=>?_⟩
   have hjl:=(List.getElem?_eq_some_iff.1 hj).1
   rw[hl] at hjl
   rw[List.getElem?_take_of_lt hjl,List.getElem?_drop] at hj
   rw[Nat.add_assoc];exact h3 _ _ hj
 ·cases h
theorem A3 {n:Nat} (h:n<128):Utf8.encode (n:Int)=⟨#[n.toUInt8]⟩:=
 (show ∀n:Fin 128,Utf8.encode ((n:Nat):Int)=⟨#[(n:Nat).toUInt8]⟩ by decide +kernel) ⟨n,h⟩
theorem oN:∀(ns:List Nat) (r:List UInt8),(∀n∈ns,n<128)→(ns.map Int.ofNat).foldl (fun r n=>r++Utf8.encode n) (⟨r.toArray⟩:ByteArray)=⟨(r++ns.map Nat.toUInt8).toArray⟩
 |[],r,_=>by simp
 |n::ns,r,h=>by
  rw[List.map_cons,List.foldl_cons,show Utf8.encode (Int.ofNat n)=⟨#[n.toUInt8]⟩ from A3 (h n (.head _))]
  have e:(⟨r.toArray⟩:ByteArray)++⟨#[n.toUInt8]⟩=⟨(r++[n.toUInt8]).toArray⟩:=by
   apply ByteArray.ext
   simp[ByteArray.data_append]
  rw[e,oN ns _ fun m hm=>h m (.tail _ hm)]
  simp
theorem Ce {φ:dG}:∀(l:List EV) (m:List UInt8) (vs:List Value),Jh l=some m→RelVs φ l vs→∃ns:List Nat,vs=(ns.map Int.ofNat).map (Value.int .i32)∧m=ns.map Nat.toUInt8∧∀n∈ns,n<128
 |[],m,vs,h,hr=>by cases h;have hr:vs=[]:=hr;subst hr;exact ⟨[],rfl,rfl,by simp⟩
 |x::l,m,vs,h,⟨v,us,e,h1,h2⟩=>by
  subst e
  unfold Jh at h
  split at h
  ·cases ‹_::_=[]›
  ·rename_i n l' e
   cases e
   split at h
   ·rename_i m' hm
    cases hb:Nat.blt n 128 with
    |false=>rw[hb] at h;cases h
    |true=>
     rw[hb] at h;cases h
     have hb:n<128:=Nat.le_of_ble_eq_true hb
     obtain ⟨ns,e1,e2,e3⟩:=Ce l m' us hm h2
     have h1:v=.int .i32 (.ofNat n):=h1
     subst h1 e1 e2
     exact ⟨n::ns,rfl,rfl,fun k hk=>(List.mem_cons.1 hk).elim (fun e=>e▸hb) (e3 k)⟩
   ·cases h
  ·cases h
theorem A4 (hT:dV P T) (hR:d4 I φ H nx F E w) {s d:Nat} {x y:EV} {a:Value} (h:pM T H s d x=some y) (hx:bh φ x a):∃v,(convert s d a).run P w=.ok v w∧bh φ y v:=by
 unfold pM at h
 split at h
 ·rename_i i1 i2 h1 h2
  split at h
  ·rename_i e e1 e2
   split at h
   ·rename_i ie h3
    split at h
    ·rename_i b off n k c e3
     have u1:=e1▸(hT s i1 h1).und
     have u2:=e2▸(hT d i2 h2).und
     have u3:=e3▸(hT e ie h3).und
     cases hk:Nat.beq k 1 with
     |false=>rw[hk] at h;cases h
     |true=>
      rw[hk] at h
      simp only[cond_true] at h
      split at h
      ·rename_i l hl
       obtain ⟨m,hm,rfl⟩:=Option.map_eq_some_iff.1 h
       obtain ⟨q,o,cap,hq,rfl,x1,x2,_⟩:=hx
       obtain ⟨vs,g1,g2,g3,g4⟩:=kE hR hl hq
       obtain ⟨ns,rfl,rfl,hns⟩:=Ce l m vs hm g1
       have hload:(loadCells (⟨q.r,o,none⟩:Addr) n).run P w=.ok ((ns.map Int.ofNat).map (Value.int .i32)).toArray w:=by
        have:=run_loadCells_list (P:=P) w (⟨q.r,o,none⟩:Addr) ((ns.map Int.ofNat).map (Value.int .i32)) (fun j v hj=>by
         have hjl:=(List.getElem?_eq_some_iff.1 hj).1
         rw[g2] at hjl
         rw[bE,x2 (by omega)];exact g4 j v hj)
        rw[g2] at this
        exact this
       refine ⟨.string (runesBytes (ns.map Int.ofNat)),?_,?_⟩
       ·rw[run_convert_runes_string (P:=P) w s d e _ _ _ u1 u3 u2,run_runesToString w _ n cap _ hload]
       ·show Value.string _=Value.string _
        have:=oN ns [] hns
        unfold runesBytes
        rw[show (ByteArray.empty:ByteArray)=⟨([]:List UInt8).toArray⟩ from rfl,this]
        simp
      ·cases h
    ·cases h
   ·cases h
  ·cases h
 ·cases h
theorem xo (hT:dV P T) {t:Nat} {es:List (EV × EV)} {ms:List MapEntry} {k:EV} {kv:Value} {ok:Bool} {x:EV} (h:ow T t es k ok=some x) (hr:bh φ k kv) (he:dT φ es ms) :
  ∃kt et v u ok',P.underlying t=some (.map kt et)∧bh φ x v∧v=(if ok then .tuple #[u,.bool ok'] else u) ∧
   (∀w b,(Instr.checkKey b 10000 kt kv).run P w=.ok () w)∧((∃j,ok'=true∧∀w,(Instr.findKey kt kv ms).run P w=.ok (some (j,u)) w)∨(ok'=false∧(∀w,(Instr.findKey kt kv ms).run P w=.ok none w)∧∀w,(zeroValue et).run P w=.ok u w)):=by
 unfold ow at h
 split at h
 ·rename_i i hi
  split at h
  ·rename_i kt et hd
   split at h
   ·rename_i ik ie hik hie
    have hu:=hd▸(hT t i hi).und
    split at h
    ·rename_i j v hf
     obtain ⟨hc,_,⟨e,_⟩|⟨j,y,e,g1,g2,g3,_⟩⟩:=j6 hT hik hr he hf
     ·cases e
     ·cases g1
      cases h
      refine ⟨kt,et,_,e.val,true,hu,?_,Z,hc,.inl ⟨_,Z,g2⟩⟩
      cases ok
      ·exact g3
      ·exact ⟨[e.val,.bool true],rfl,_,_,rfl,g3,_,_,rfl,rfl,rfl⟩
    ·rename_i hf
     obtain ⟨hc,_,⟨_,g2⟩|⟨j,y,e,g1,_⟩⟩:=j6 hT hik hr he hf
     ·obtain ⟨zv,hz,hzr⟩:=(hT et ie hie).zeroV
      cases h
      refine ⟨kt,et,_,zv,false,hu,?_,Z,hc,.inr ⟨Z,g2,hz⟩⟩
      cases ok
      ·exact hzr φ
      ·exact ⟨[zv,.bool false],rfl,_,_,rfl,hzr φ,_,_,rfl,rfl,rfl⟩
     ·cases g1
    ·cases h
   ·cases h
  ·cases h
 ·cases h
theorem d4.readM (h:d4 I φ H nx F E w) {k:Nat} {es:List (EV × EV)} (hk:H.get k=some (.mp es)) {q:EK} (hq:φ k=some q):∃(ms:List MapEntry) (c:Nat),dT φ es ms∧w.heap[q.r]?=some (.map ms.toArray c):=by
 obtain ⟨A,L,⟨q',ms,h1,h2,rfl⟩,_,hS⟩:=h.pick hk
 rw[hq] at h1;cases h1
 exact ⟨ms,_,h2.1,hS.own _ (.head _)⟩
theorem Ji (hT:dV P T) (hg:fP φ g ρ) (hR:d4 I φ H nx F E w) {o:Oper} {x:EV} (h:K5 T g H o.op=some x):∃v,(execOp (ev ρ) o).run P w=.ok (.value v) w∧bh φ x v:=by
 obtain ⟨dst,op,ty,pos,af,gu⟩:=o
 dsimp only at h
 unfold K5 at h
 split at h
 ·split at h
  ·rename_i hx
   obtain ⟨v,h1,h2⟩:=ue hT hR h (aW hg hx)
   exact ⟨v,iM h1,h2⟩
  ·cases h
 ·rename_i t x' y ok
  split at h
  ·rename_i b k hx hy
   obtain ⟨q,hq,hxv⟩:=aW hg hx
   have hyv:=aW hg hy
   split at h
   ·rename_i es hes
    obtain ⟨ms,c,hm,hb⟩:=hR.readM hes hq
    obtain ⟨kt,et,v,u,ok',hu,hv,he,hc,hf⟩:=xo hT h hyv hm
    refine ⟨v,?_,hv⟩
    have hc:=hc w ms.isEmpty
    rcases hf with ⟨j,rfl,hf⟩|⟨rfl,hf,hz⟩
    ·have hf:=hf w
     simp[execOp,Instr.lookup,run_underlying hu,hxv,MapKept.run_getObj_map hb,hc,hf,Result.andThen,he]
    ·have hf:=hf w
     simp[execOp,Instr.lookup,run_underlying hu,hxv,MapKept.run_getObj_map hb,hc,hf,hz,Result.andThen,he]
   ·cases h
  ·rename_i k hx hy
   have hxv:ev ρ x'=.map none:=aW hg hx
   have hyv:=aW hg hy
   obtain ⟨kt,et,v,u,ok',hu,hv,he,hc,hf⟩:=xo (ms:=[]) hT h hyv rfl
   refine ⟨v,?_,hv⟩
   have hc:=hc w true
   rcases hf with ⟨j,rfl,hf⟩|⟨rfl,hf,hz⟩
   ·have hf:=hf w
    simp[execOp,Instr.lookup,run_underlying hu,hxv,hc,hf,Result.andThen,he]
   ·have hf:=hf w
    simp[execOp,Instr.lookup,run_underlying hu,hxv,hc,hf,hz,Result.andThen,he]
  ·cases h
 ·split at h
  ·rename_i hx
   obtain ⟨v,h1,h2⟩:=A4 hT hR h (aW hg hx)
   exact ⟨v,iM h1,h2⟩
  ·cases h
 ·split at h
  ·rename_i ar ts _ _ x' t h1 h2
   have h1:=Er h1
   have h2:=Er h2
   subst h1 h2
   split at h
   ·rename_i b i hx hi
    obtain ⟨q,hq,hxv⟩:=aW hg hx
    have hu:=(hT t i hi).und
    split at h
    ·rename_i es hd hes
     rw[hd] at hu
     cases h
     obtain ⟨ms,c,hm,hb⟩:=hR.readM hes hq
     have hl:ms.length=es.length:=by
      clear hb hes
      induction es generalizing ms with
      |nil=>have hm:ms=[]:=hm;rw[hm];rfl
      |cons e es ih=>obtain ⟨e',r,rfl,_,_,h3⟩:=hm;simp[ih r h3]
     refine ⟨.int .i64 es.length,?_,Z⟩
     simp[execOp,resolve,hxv,invoke,builtin,Builtin.len_,run_underlying hu,goInt,MapKept.run_getObj_map hb,hl]
    ·cases h
   ·rename_i i hx hi
    have hxv:ev ρ x'=.map none:=aW hg hx
    have hu:=(hT t i hi).und
    split at h
    ·rename_i hd
     rw[hd] at hu
     cases h
     refine ⟨.int .i64 0,?_,Z⟩
     simp[execOp,resolve,hxv,invoke,builtin,Builtin.len_,run_underlying hu,goInt]
    ·cases h
   ·cases h
  ·cases h
 ·cases h
theorem G3 (hT:dV P T) (hg:fP φ g ρ) (hR:d4 I φ H nx F E w) {o:Oper} {x:EV} (h:ME T g H o.op=some x):∃v,(execOp (ev ρ) o).run P w=.ok (.value v) w∧bh φ x v:=Ji hT hg hR (K6 T g H o.op▸h)
end
end
section
open Go.Proofs
def xp (n:Nat) (z:List EV):List EV:=(List.replicate n z).flatten
noncomputable def K7 (T:TT) (g:Nat→EV) (k:Nat) (op:Op):Option (EV × VO):=
 match op with
 |.alloc t=>match T t with
  |some i=>some (.p k 0,.cells true i.z)
  |none=>none
 |.box _ x=>match cV g x with
  |some a=>bif a.sto&&a.cs.all EV.cell then some (.p k 0,.cells true a.cs) else none
  |none=>none
 |.buildSlice t n ps=>match T t with
  |some i=>match i.d with
   |.slice e=>match T e,sw (fun p:Nat × Operand=>cV g p.2) ps.toList with
    |some ie,some vs=>bif Nat.blt 0 (n*ie.size)&&Nat.ble (n*ie.size) 16777216 then
      match r4 (fun j=>some (j*ie.size,ie.size)) (xp n ie.z) ((ps.toList.map (·.1)).zip vs) with
      |some rs=>bif rs.all EV.cell&&Nat.beq rs.length (n*ie.size) then some (.sl k 0 n ie.size (.ex n),.cells true rs) else none
      |none=>none
     else bif Nat.beq n 0&&ps.toList.isEmpty then some (.sl k 0 0 ie.size (.ex 0),.cells true []) else none
    |_,_=>none
   |_=>none
  |none=>none
 |.makeSlice t x y=>match T t,cV g x,cV g y with
  |some i,some (.i _ l),some (.i _ c)=>match i.d,lx l,lx c with
   |.slice e,some l,some c=>match T e with
    |some ie=>bif Nat.blt 0 ie.size&&Nat.ble l c&&Nat.ble (ie.bytes*c) 281474976710656&&Nat.ble c 281474976710656 then some (.sl k 0 l ie.size (.ex c),.cells true (xp c ie.z)) else none
    |none=>none
   |_,_,_=>none
  |_,_,_=>none
 |.makeMap _ none=>some (.m k,.mp [])
 |.range t x=>match T t,cV g x with
  |some i,some (.s s)=>match i.d with
   |.string=>some (.p k 0,.it s 0)
   |_=>none
  |_,_=>none
 |_=>none
noncomputable def MF (T:TT) (k:Nat) (t:TypeId):Option (EV × VO):=match T t with
 |some i=>some (.p k 0,.cells true i.z)
 |none=>none
noncomputable def MG (g:Nat→EV) (k:Nat) (x:Operand):Option (EV × VO):=match cV g x with
 |some a=>bif a.sto&&a.cs.all EV.cell then some (.p k 0,.cells true a.cs) else none
 |none=>none
noncomputable def MH (T:TT) (g:Nat→EV) (k:Nat) (t:TypeId) (n:Nat) (ps:Array (Nat × Operand)):Option (EV × VO):=match T t with
 |some i=>match i.d with
  |.slice e=>match T e,sw (fun p:Nat × Operand=>cV g p.2) ps.toList with
   |some ie,some vs=>bif Nat.blt 0 (n*ie.size)&&Nat.ble (n*ie.size) 16777216 then
     match r4 (fun j=>some (j*ie.size,ie.size)) (xp n ie.z) ((ps.toList.map (·.1)).zip vs) with
     |some rs=>bif rs.all EV.cell&&Nat.beq rs.length (n*ie.size) then some (.sl k 0 n ie.size (.ex n),.cells true rs) else none
     |none=>none
    else bif Nat.beq n 0&&ps.toList.isEmpty then some (.sl k 0 0 ie.size (.ex 0),.cells true []) else none
   |_,_=>none
  |_=>none
 |none=>none
noncomputable def MI (T:TT) (g:Nat→EV) (k:Nat) (t:TypeId) (x y:Operand):Option (EV × VO):=match T t,cV g x,cV g y with
 |some i,some (.i _ l),some (.i _ c)=>match i.d,lx l,lx c with
  |.slice e,some l,some c=>match T e with
   |some ie=>bif Nat.blt 0 ie.size&&Nat.ble l c&&Nat.ble (ie.bytes*c) 281474976710656&&Nat.ble c 281474976710656 then some (.sl k 0 l ie.size (.ex c),.cells true (xp c ie.z)) else none
   |none=>none
  |_,_,_=>none
 |_,_,_=>none
noncomputable def MJ (k:Nat) (r:Option Operand):Option (EV × VO):=match r with
 |none=>some (.m k,.mp [])
 |_=>none
noncomputable def MK (T:TT) (g:Nat→EV) (k:Nat) (t:TypeId) (x:Operand):Option (EV × VO):=match T t,cV g x with
 |some i,some (.s s)=>match i.d with
  |.string=>some (.p k 0,.it s 0)
  |_=>none
 |_,_=>none
noncomputable def Lu (T:TT) (g:Nat→EV) (k:Nat) (op:Op):Option (EV × VO):=
 match op with
 |.alloc t=>MF T k t
 |.box _ x=>MG g k x
 |.buildSlice t n ps=>MH T g k t n ps
 |.makeSlice t x y=>MI T g k t x y
 |.makeMap _ r=>MJ k r
 |.range t x=>MK T g k t x
 |_=>none
theorem K8 (T:TT) (g:Nat→EV) (k:Nat) (op:Op):Lu T g k op=K7 T g k op:=by
 cases op<;>try rfl
 case makeMap t r=>cases r<;>rfl
section
variable {P:Program} {φ:dG} {g:Nat→EV} {ρ:cO} {w:World} {T:TT} {I:aT} {H:Hp} {k nx:Nat} {F L:List (Nat × Obj)} {E:World}
theorem nE {r:Nat} {vs:List Value} {cs:List EV} {t:TypeId} (h:RelVs φ cs vs) (h1:∀u∈vs,u.oneCell'=true) (hk:φ k=none):iJ I (φ.put k ⟨r,0,vs.length⟩) k (.cells true cs) [(r,.cells vs.toArray t (0,0))]:=
 ⟨⟨r,0,vs.length⟩,t,vs,[],q2 _ _ _,rfl,h.mono (ql hk _),by simpa using h1,by simp,fun _=>rfl,by simp⟩
theorem RelVs.flatR {z:List EV} {vs:List Value} (h:RelVs φ z vs):∀n,RelVs φ (xp n z) (List.replicate n vs).flatten
 |0=>rfl
 |n+1=>by
  unfold xp
  rw[List.replicate_succ,List.replicate_succ,List.flatten_cons,List.flatten_cons]
  exact h.append (RelVs.flatR h n)
theorem u9.cell1 {t:TypeId} {i:TI} (h:u9 P t i) {zv:Value} (hz:∀φ,RelVs φ i.z zv.cells.toList):∀u∈zv.cells.toList,u.oneCell'=true:=EV.cells_rel (hz fun _=>none) h.z1
theorem A5 {t e:TypeId} {ty:TypeId} {pos:String} {af:Array Edge} {gu:Option (Nat × Bool)} {d:Option Nat} {n:Nat} (hu:P.underlying t=some (.slice e)) (hs:∀w,(sizeOf e).run P w=.ok n w) :
  (execOp (ev ρ) (Oper.mk d (.buildSlice t 0 #[]) ty pos af gu)).run P w=.ok (.value (.slice (some ⟨w.heap.size,0,none⟩) 0 0)) (w.alloc (.cells #[] e)):=by
 simp[execOp,Instr.buildSlice,run_underlying hu,hs,Instr.fill,newRow]
 congr 2
 exact Array.eq_empty_of_size_eq_zero (by simp)
theorem Jj (hT:dV P T) (hg:fP φ g ρ) {o:Oper} {x:EV} {vo:VO} (h:K7 T g k o.op=some (x,vo)) (hk:φ k=none) (hS:SL I L E w) :
  ∃v w' q A,(execOp (ev ρ) o).run P w=.ok (.value v) w'∧bh (φ.put k q) x v∧iJ I (φ.put k q) k vo A∧SL I (A++L) E w':=by
 obtain ⟨dst,op,ty,pos,af,gu⟩:=o
 dsimp only at h
 unfold K7 at h
 split at h
 ·rename_i t
  split at h
  ·rename_i i hi
   simp only[Option.some.injEq,Prod.mk.injEq] at h
   obtain ⟨rfl,rfl⟩:=h
   obtain ⟨zv,hz,hzr,_⟩:=(hT t i hi).zero
   have hz1:=(hT t i hi).cell1 hzr
   refine ⟨.pointer (some ⟨w.heap.size,0,none⟩),w.alloc (.cells zv.cells t),⟨w.heap.size,0,zv.cells.toList.length⟩,[(w.heap.size,.cells zv.cells.toList.toArray t (0,0))],?_,⟨_,q2 _ _ _,Z⟩,nE (hzr φ) hz1 hk,?_⟩
   ·simp[execOp,Instr.alloc,hz,im]
   ·rw[Array.toArray_toList];exact hS.alloc _
  ·cases h
 ·rename_i t x'
  split at h
  ·rename_i a hx
   cases hb:(a.sto&&a.cs.all EV.cell) with
   |false=>rw[hb] at h;cases h
   |true=>
    rw[hb] at h
    simp only[cond_true,Option.some.injEq,Prod.mk.injEq] at h
    obtain ⟨rfl,rfl⟩:=h
    simp only[w9] at hb
    have hr:=EV.cs_rel (aW hg hx) hb.1
    have h1:=EV.cells_rel hr hb.2
    refine ⟨.pointer (some ⟨w.heap.size,0,none⟩),w.alloc (.cells (ev ρ x').cells t),⟨w.heap.size,0,(ev ρ x').cells.toList.length⟩,[(w.heap.size,.cells (ev ρ x').cells.toList.toArray t (0,0))],?_,⟨_,q2 _ _ _,Z⟩,nE hr h1 hk,?_⟩
    ·simp[execOp,Instr.box,im]
    ·rw[Array.toArray_toList];exact hS.alloc _
  ·cases h
 ·rename_i t n ps
  split at h
  ·rename_i i hi
   split at h
   ·rename_i e hd
    have hu:=hd▸(hT t i hi).und
    split at h
    ·rename_i ie vs hie hvs
     have hTe:=hT e ie hie
     obtain ⟨zv,hz,hzr,hzs⟩:=hTe.zero
     have hz1:=hTe.cell1 hzr
     have hpr:=lX (φ:=φ) (g:=fun p:Nat × Operand=>ev ρ p.2) (fun p a hp=>aW hg hp) ps.toList vs hvs
     have epar:(ps.map fun p=>(p.1,ev ρ p.2)).toList=ps.toList.map fun p=>(p.1,ev ρ p.2):=by simp
     cases hb:(Nat.blt 0 (n*ie.size)&&Nat.ble (n*ie.size) 16777216) with
     |true=>
      rw[hb] at h
      simp only[cond_true] at h
      simp only[w9] at hb
      have b1:0<n*ie.size:=Nat.le_of_ble_eq_true hb.1
      have b2:=Nat.le_of_ble_eq_true hb.2
      split at h
      ·rename_i rs hrs
       cases hb3:(rs.all EV.cell&&Nat.beq rs.length (n*ie.size)) with
       |false=>rw[hb3] at h;cases h
       |true=>
        rw[hb3] at h
        simp only[cond_true,Option.some.injEq,Prod.mk.injEq] at h
        obtain ⟨rfl,rfl⟩:=h
        simp only[w9] at hb3
        have b4:=Nat.eq_of_beq_eq_true hb3.2
        have hzl:zv.cells.toList.length=ie.size:=by rw[Array.length_toList];exact hzs
        have hmc:madeCells zv.cells (n*ie.size)=(List.replicate n zv.cells.toList).flatten.toArray:=by
         have:=jF zv.cells.toList n (by rw[hzl];exact Nat.pos_of_ne_zero fun e=>by rw[e,Nat.mul_zero] at b1;omega) hz1
         rw[hzl,Array.toArray_toList] at this
         exact this
        have hl:(ps.toList.map (·.1)).length=vs.length:=by have:=hpr.length;simp at this ⊢;exact this
        obtain ⟨vc,f1,f2⟩:=nD (place:=fun j=>some (j*ie.size,ie.size)) (ps.toList.map fun p=>(p.1,ev ρ p.2)) _ (xp n ie.z) (madeCells zv.cells (n*ie.size)) rs (by rw[pI _ _ hl,List.map_map];rfl) (by rw[pJ _ _ hl,List.map_map];exact hpr) (by rw[hmc];exact (hzr φ).flatR n) hrs
        have h1:=EV.cells_rel f2 hb3.1
        have hvl:vc.toList.length=n*ie.size:=by rw[f2.length,b4]
        have hrun:(Instr.buildSlice t n (ps.map fun p=>(p.1,ev ρ p.2))).run P w=.ok (.slice (some ⟨w.heap.size,0,none⟩) n n) (w.alloc (.cells vc e)):=by
         unfold Instr.buildSlice
         simp only[Sem.run_bind,Result.andThen_ok,run_underlying hu,hTe.sz]
         rw[if_neg (by omega)]
         have f1':Instr.fill (fun i=>some (i*ie.size,ie.size)) ((Array.range (n*ie.size)).map (zv.cells[·% zv.cells.size]!)) (ps.map fun p=>(p.1,ev ρ p.2)).toList=some vc:=by rw[epar];exact f1
         simp only[Sem.run_pure,Result.andThen_ok,if_neg (by omega:¬n*ie.size=0),Sem.run_bind,hz,f1',newRow]
         simp
        refine ⟨.slice (some ⟨w.heap.size,0,none⟩) n n,w.alloc (.cells vc e),⟨w.heap.size,0,vc.toList.length⟩,[(w.heap.size,.cells vc.toList.toArray e (0,0))],iM hrun,⟨_,0,n,q2 _ _ _,Z,Nat.le_refl _,fun _=>Z,Z⟩,nE f2 h1 hk,?_⟩
        rw[Array.toArray_toList];exact hS.alloc _
      ·cases h
     |false=>
      rw[hb] at h
      simp only[cond_false] at h
      cases hb3:(Nat.beq n 0&&ps.toList.isEmpty) with
      |false=>rw[hb3] at h;cases h
      |true=>
       rw[hb3] at h
       simp only[cond_true,Option.some.injEq,Prod.mk.injEq] at h
       obtain ⟨rfl,rfl⟩:=h
       simp only[w9] at hb3
       have b4:=Nat.eq_of_beq_eq_true hb3.1
       subst b4
       have hps:ps=#[]:=Array.toList_inj.1 (List.isEmpty_iff.1 hb3.2)
       subst hps
       refine ⟨.slice (some ⟨w.heap.size,0,none⟩) 0 0,w.alloc (.cells #[] e),⟨w.heap.size,0,0⟩,[(w.heap.size,.cells ([]:List Value).toArray e (0,0))],A5 hu hTe.sz,⟨_,0,0,q2 _ _ _,Z,Nat.le_refl _,fun _=>Z,Z⟩,nE (vs:=[]) Z (by simp) hk,hS.alloc _⟩
    ·cases h
   ·cases h
  ·cases h
 ·rename_i t x' y'
  split at h
  ·rename_i i k1 l k2 c hi hx hy
   have hx:ev ρ x'=.int k1 l:=aW hg hx
   have hy:ev ρ y'=.int k2 c:=aW hg hy
   split at h
   ·rename_i e l' c' hd hl hc
    have hl:=iL hl
    have hc:=iL hc
    subst hl hc
    have hu:=hd▸(hT t i hi).und
    split at h
    ·rename_i ie hie
     have hTe:=hT e ie hie
     cases hb:(Nat.blt 0 ie.size&&Nat.ble l' c'&&Nat.ble (ie.bytes*c') 281474976710656&&Nat.ble c' 281474976710656) with
     |false=>rw[hb] at h;cases h
     |true=>
      rw[hb] at h
      simp only[cond_true,Option.some.injEq,Prod.mk.injEq] at h
      obtain ⟨rfl,rfl⟩:=h
      simp only[w9] at hb
      have b1:0<ie.size:=Nat.le_of_ble_eq_true hb.1.1.1
      have b2:=Nat.le_of_ble_eq_true hb.1.1.2
      have b3:=Nat.le_of_ble_eq_true hb.1.2
      have b4:=Nat.le_of_ble_eq_true hb.2
      obtain ⟨f,zv,f1,f2,f3,f4,f5,_⟩:=hTe.inf
      have hz1:=hTe.cell1 f5
      have hzl:zv.cells.toList.length=ie.size:=by rw[(f5 φ).length,hTe.zl]
      have hrun:=run_make (P:=P) w t e f zv hu f1 f4 k1 k2 l' c' (by omega) (by omega) (by rw[f3,←Int.natCast_mul];omega) (by omega)
      have hmc:madeCells zv.cells (c'*ie.size)=(List.replicate c' zv.cells.toList).flatten.toArray:=by
       have:=jF zv.cells.toList c' (by omega) hz1
       rw[hzl,Array.toArray_toList] at this
       exact this
      rw[Int.toNat_natCast,Int.toNat_natCast,f2,hmc] at hrun
      have hr:=(f5 φ).flatR c'
      have hlen:(List.replicate c' zv.cells.toList).flatten.length=c'*ie.size:=by simp[hzl]
      refine ⟨.slice (some ⟨w.heap.size,0,none⟩) l' c',_,⟨w.heap.size,0,(List.replicate c' zv.cells.toList).flatten.length⟩,[(w.heap.size,.cells (List.replicate c' zv.cells.toList).flatten.toArray e (0,0))],?_,⟨_,0,c',q2 _ _ _,Z,b2,fun _=>Z,Z⟩,nE hr (fun u hu=>?_) hk,hS.alloc _⟩
      ·refine iM ?_
       rw[hx,hy];exact hrun
      ·obtain ⟨r,hr,hu⟩:=List.mem_flatten.1 hu
       rw[List.eq_of_mem_replicate hr] at hu
       exact hz1 u hu
    ·cases h
   ·cases h
  ·cases h
 ·simp only[Option.some.injEq,Prod.mk.injEq] at h
  obtain ⟨rfl,rfl⟩:=h
  refine ⟨.map (some w.heap.size),w.alloc (.map #[] 0),⟨w.heap.size,0,0⟩,[(w.heap.size,.map #[] 0)],?_,⟨_,q2 _ _ _,Z⟩,⟨_,[],q2 _ _ _,⟨Z,fun _ _ h=>by cases h⟩,Z⟩,hS.alloc _⟩
  simp only[execOp,Option.map_none]
  rw[Sem.run_bind,run_makeMap_plain];rfl
 ·rename_i t x'
  split at h
  ·rename_i i s hi hx
   have hx:ev ρ x'=.string s:=aW hg hx
   split at h
   ·rename_i hd
    have hu:=hd▸(hT t i hi).und
    simp only[Option.some.injEq,Prod.mk.injEq] at h
    obtain ⟨rfl,rfl⟩:=h
    refine ⟨.pointer (some ⟨w.heap.size,0,none⟩),w.alloc (.stringIter s 0),⟨w.heap.size,0,0⟩,[(w.heap.size,.stringIter s 0)],?_,⟨_,q2 _ _ _,Z⟩,⟨_,q2 _ _ _,Z,Z⟩,hS.alloc _⟩
    simp[execOp,Instr.range,hx,run_underlying hu]
   ·cases h
  ·cases h
 ·cases h
theorem G4 (hT:dV P T) (hg:fP φ g ρ) {o:Oper} {x:EV} {vo:VO} (h:Lu T g k o.op=some (x,vo)) (hk:φ k=none) (hS:SL I L E w) :
  ∃v w' q A,(execOp (ev ρ) o).run P w=.ok (.value v) w'∧bh (φ.put k q) x v∧iJ I (φ.put k q) k vo A∧SL I (A++L) E w':=Jj hT hg (K8 T g k o.op▸h) hk hS
end
end
section
open Go.Proofs
def eX (φ:dG) (I:aT) (F:List (Nat × Obj)) (E:World) (k nx:Nat) (x:EV) (H:Hp) (nx':Nat) (v:Value) (w:World):Prop:=
 ∃J ψ,I.le J∧φ.le ψ∧(∀j,j<nx→j≠k→ψ j=φ j)∧nx≤nx'∧bh ψ x v∧d4 J ψ H nx' F E w
section
variable {φ:dG} {I:aT} {H:Hp} {k nx:Nat} {F L A:List (Nat × Obj)} {E w w':World} {o:VO} {q:EK}
theorem d4.freshN (h:d4 I φ H nx F E w) (hk:φ k=none):∃L,sX I φ H k L∧SL I (L++F) E w:=by
 obtain ⟨M,L,hn,hm,hr,hS⟩:=h.ex
 refine ⟨L,⟨M,hn,fun j o'=>?_,hr⟩,hS⟩
 rw[←hm j o']
 refine ⟨fun hj=>⟨fun e=>?_,hj⟩,fun hj=>hj.2⟩
 obtain ⟨q,hq⟩:=hr.phi _ hj
 subst e
 rw[hk] at hq;cases hq
theorem mM (φ:dG) (q:EK) {j:Nat} (h:j≠k):φ.put k q j=φ j:=if_neg h
theorem nF (h:∀j,nx≤j→φ j=none) (hk:k<nx) (q:EK):∀j,nx≤j→φ.put k q j=none:=fun j hj=>by rw[mM φ q (by omega)];exact h j hj
theorem d4.addB (h:d4 I φ H nx F E w) (hk:φ k=none) (hx:k<nx) {x:EV} {v:Value} (hv:bh (φ.put k q) x v) (hb:iJ I (φ.put k q) k o A) (hS:∀L,SL I (L++F) E w→SL I (A++(L++F)) E w'):eX φ I F E k nx x (H.set k (some o)) nx v w':=by
 obtain ⟨L,hr,hS0⟩:=h.freshN hk
 exact ⟨I,φ.put k q,.refl _,ql hk q,fun j _ hj=>mM φ q hj,Nat.le_refl _,hv,qj (hr.mono (.refl _) (ql hk q)) hb (hS L hS0) (nF h.top hx q)⟩
theorem d4.stay (h:d4 I φ H nx F E w) {x:EV} {v:Value} (hv:bh φ x v):eX φ I F E k nx x H nx v w:=⟨I,φ,.refl _,.refl _,fun _ _ _=>rfl,Nat.le_refl _,hv,h⟩
end
section
variable {φ:dG} {I:aT} {H:Hp} {k b:Nat} {L:List (Nat × Obj)}
theorem sX.moved (h:sX I φ H b L) (hk:φ k=none):sX I φ (H.set b none) k L:=by
 obtain ⟨M,hn,hm,hr⟩:=h
 refine ⟨M,hn,fun j o=>?_,hr⟩
 rw[hm j o,Tr.get_set]
 constructor
 ·rintro ⟨h1,h2⟩
  refine ⟨fun e=>?_,by rw[if_neg h1];exact h2⟩
  obtain ⟨q,hq⟩:=hr.phi _ ((hm j o).2 ⟨h1,h2⟩)
  subst e
  rw[hk] at hq;cases hq
 ·rintro ⟨_,h2⟩
  by_cases e:j=b
  ·rw[if_pos e] at h2;cases h2
  ·rw[if_neg e] at h2;exact ⟨e,h2⟩
end
def nG:Nat:=140737488355328
noncomputable def Cf (H:Hp) (y:EV) (size:Nat):Option (Nat × List EV):=
 match y with
 |.ns=>some (0,[])
 |.sl b off m k _=>bif Nat.beq k size then (cellsOf H b off (m*size)).map fun l=>(m,l) else none
 |_=>none
def JW (n:Nat):Cp→Bool
 |.ex cap=>Nat.ble n cap
 |.en=>true
 |.un=>false
noncomputable def Cg (T:TT) (H:Hp) (k t:Nat) (x y:EV):Option (EV × Hp):=
 match T t with
 |some i=>match i.d with
  |.slice e=>match T e with
   |some ie=>match Cf H y ie.size with
    |some (m,news)=>match x with
     |.ns=>bif Nat.beq m 0 then some (.ns,H) else bif Nat.ble (m*ie.bytes) nG&&Nat.ble m nG then some (.sl k 0 m ie.size .en,H.set k (some (.cells false news))) else none
     |.sl b off n k' c=>bif Nat.beq m 0 then some (.sl b off n k' c,H) else
      bif Nat.beq k' ie.size&&Nat.blt 0 ie.size&&Nat.ble ((n+m)*ie.bytes) nG&&Nat.ble (n+m) nG then
       match H.get b with
       |some (.cells ex cs)=>bif JW (n+m) c&&Nat.ble (off+(n+m)*ie.size) cs.length then
         some (.sl b off (n+m) k' c,H.set b (some (.cells ex (cs.take (off+n*ie.size)++news++cs.drop (off+(n+m)*ie.size)))))
        else match c with
         |.ex cap=>bif Nat.blt cap (n+m)&&Nat.ble (off+n*ie.size) cs.length then some (.sl k 0 (n+m) ie.size .en,H.set k (some (.cells false ((cs.drop off).take (n*ie.size)++news)))) else none
         |.en=>bif Nat.beq off 0&&Nat.beq (n*ie.size) cs.length then some (.sl k 0 (n+m) ie.size .en,(H.set b none).set k (some (.cells false (cs++news)))) else none
         |.un=>none
       |some (.kn cs)=>match c with
        |.ex cap=>bif Nat.blt cap (n+m)&&Nat.ble (off+n*ie.size) cs.length then some (.sl k 0 (n+m) ie.size .en,H.set k (some (.cells false ((cs.drop off).take (n*ie.size)++news)))) else none
        |_=>none
       |_=>none
      else none
     |_=>none
    |none=>none
   |none=>none
  |_=>none
 |none=>none
section
variable {P:Program} {φ:dG} {w:World} {T:TT} {I:aT} {H:Hp} {k nx:Nat} {F:List (Nat × Obj)} {E:World} {t e ty:TypeId}
theorem sd (hR:d4 I φ H nx F E w) {y:EV} {size m:Nat} {news:List EV} (h:Cf H y size=some (m,news)) {c:Value} (hy:bh φ y c) :
  ∃sa c2 nv,c=.slice sa m c2∧RelVs φ news nv∧nv.length=m*size∧(∀u∈nv,u.oneCell'=true)∧((sa=none∧m=0)∨∃sp,sa=some sp∧∀(j:Nat) u,nv[j]?=some u→w.cell? (sp.add j)=some u):=by
 unfold Cf at h
 split at h
 ·cases h
  exact ⟨none,0,[],hy,rfl,by simp,by simp,.inl ⟨rfl,rfl⟩⟩
 ·rename_i b off m' k' cp
  cases hb:Nat.beq k' size with
  |false=>rw[hb] at h;cases h
  |true=>
   rw[hb] at h
   obtain ⟨l,hl,he⟩:=Option.map_eq_some_iff.1 h
   cases he
   obtain ⟨q,o,cap,hq,rfl,h1,h2,_⟩:=hy
   obtain ⟨vs,g1,g2,g3,g4⟩:=kE hR hl hq
   refine ⟨_,cap,vs,Z,g1,g2,g3,.inr ⟨_,Z,fun j u hj=>?_⟩⟩
   have hjl:=(List.getElem?_eq_some_iff.1 hj).1
   have hm0:cap≠0:=fun e=>by
    have:m=0:=by omega
    rw[g2,this,Nat.zero_mul] at hjl;omega
   rw[bE,h2 hm0]
   exact g4 j u hj
 ·cases h
theorem kT {i:TypeInfo} (ht:P.underlying t=some (.slice e)) (hi:P.info? e=some i) {a sa:Option Addr} {n cap c:Nat} (h:n≤cap) (h0:a=none→n=0∧cap=0) :
  (Builtin.append_ #[t,t] ty #[.slice a n cap,.slice sa 0 c]).run P w=.ok (.slice a n cap) w:=by
 cases a with
 |none=>
  obtain ⟨rfl,rfl⟩:=h0 rfl
  cases sa<;>simp[Builtin.append_,run_underlying ht,sizeOf,typeInfo,hi,Builtin.lenOf,Builtin.firstCells,loadCells,loadCellsFrom,storeCells]
 |some p=>cases sa<;>simp[Builtin.append_,run_underlying ht,sizeOf,typeInfo,hi,Builtin.lenOf,Builtin.firstCells,h,loadCells,loadCellsFrom,storeCells]
theorem j7 {i:TypeInfo} (ht:P.underlying t=some (.slice e)) (hi:P.info? e=some i) {g off n cap m c:Nat} {S:TypeId} {cur:Array Value} (hg:w.heap[g]?=some (.cells cur S (0,0))) {a:Addr} {news:List Value}
  (hl:news.length=m*i.size) (hn:∀(j:Nat) u,news[j]?=some u→w.cell? (a.add j)=some u) (h1:∀u∈news,u.oneCell'=true) (hroom:n+m≤cap) (hfit:off+n*i.size+news.length≤cur.size) :
  (Builtin.append_ #[t,t] ty #[.slice (some ⟨g,off,none⟩) n cap,.slice (some a) m c]).run P w=.ok (.slice (some ⟨g,off,none⟩) (n+m) cap) (w.setRow g (cur.toList.take (off+n*i.size)++news++cur.toList.drop (off+n*i.size+news.length)).toArray):=by
 have hf:=run_firstCells_some (P:=P) w i.size m a m c news hl hn
 have hst:=run_storeCells_at P g (off+n*i.size) S news 0 cur w hg (by simpa using hfit) h1
 simp only[Nat.add_zero] at hst
 simp[Builtin.append_,run_underlying ht,sizeOf,typeInfo,hi,Builtin.lenOf,hroom,hf,bE,hst]
theorem Ew {z:Array Value} {n:Nat}:(Builtin.zeroCells z n).size=n*z.size:=size_zeroCells z n
theorem Ch {i:TypeInfo} {zv:Value} {ie:TI} (hTe:u9 P e ie) (hi:P.info? e=some i) (hsz:i.size=ie.size) (hzr:∀φ,RelVs φ ie.z zv.cells.toList) (hR:d4 I φ H nx F E w) (hk:φ k=none) (hkx:k<nx) {cs:List EV} {vs:List Value} {cap m:Nat}
  (hr:RelVs φ cs vs) (h1:∀u∈vs,u.oneCell'=true) (hl:vs.length=m*ie.size) (hc:m≤cap):eX φ I F E k nx (.sl k 0 m ie.size .en) (H.set k (some (.cells false cs))) nx (.slice (some ⟨w.heap.size,0,none⟩) m cap) (w.drew.alloc (.cells (vs.toArray++Builtin.zeroCells zv.cells (cap - m)) e)):=by
 have hz1:=hTe.cell1 hzr
 have hzl:zv.cells.size=ie.size:=by have:=(hzr φ).length;rw[hTe.zl] at this;simpa using this
 have htot:(vs++(Builtin.zeroCells zv.cells (cap - m)).toList).length=cap*ie.size:=by
  rw[qw,hl,Array.length_toList,Ew,hzl,←Nat.add_mul];congr 1;omega
 refine hR.addB (q:=⟨w.heap.size,0,cap*ie.size⟩) (A:=[(w.heap.size,.cells (vs++(Builtin.zeroCells zv.cells (cap - m)).toList).toArray e (0,0))]) hk hkx ⟨_,0,cap,q2 _ _ _,rfl,hc,fun _=>rfl,by show 0+0+cap*ie.size=cap*ie.size;omega⟩
  ⟨_,e,vs,(Builtin.zeroCells zv.cells (cap - m)).toList,q2 _ _ _,rfl,hr.mono (ql hk _),fun u hu=>?_,htot,(fun h=>by cases h),rfl⟩ fun L hS=>?_
 ·rcases List.mem_append.1 hu with hu|hu
  ·exact h1 u hu
  ·simp only[Builtin.zeroCells] at hu
   simp at hu
   obtain ⟨a,ha,rfl⟩:=hu
   have hp:a % zv.cells.size<zv.cells.size:=Nat.mod_lt _ (Nat.pos_of_ne_zero fun e=>by rw[e,Nat.mul_zero] at ha;omega)
   rw[getElem!_pos zv.cells (a % zv.cells.size) hp]
   exact hz1 _ (by simp)
 ·have h2:=hS.drew.alloc (.cells (vs.toArray++Builtin.zeroCells zv.cells (cap - m)) e)
  have he:(vs++(Builtin.zeroCells zv.cells (cap - m)).toList).toArray=vs.toArray++Builtin.zeroCells zv.cells (cap - m):=by apply Array.toList_inj.1;simp
  rw[he]
  exact h2
theorem G5 (hT:dV P T) (hR:d4 I φ H nx F E w) (hk:φ k=none) (hkx:k<nx) {x y z:EV} {H':Hp} (h:Cg T H k t x y=some (z,H')) {a c:Value} (hx:bh φ x a) (hy:bh φ y c) :
  ∃v w',(Builtin.append_ #[t,t] ty #[a,c]).run P w=.ok v w'∧eX φ I F E k nx z H' nx v w':=by
 have hB:nG=140737488355328:=rfl
 unfold Cg at h
 split at h
 ·rename_i i hi
  split at h
  ·rename_i e hd
   have ht:=hd▸(hT t i hi).und
   split at h
   ·rename_i ie hie
    have hTe:=hT e ie hie
    obtain ⟨f,zv,f1,f2,f3,f4,f5,_⟩:=hTe.inf
    split at h
    ·rename_i m news hnews
     obtain ⟨sa,c2,nv,rfl,n1,n2,n3,n4⟩:=sd hR hnews hy
     split at h
     ·have hx:a=.slice none 0 0:=hx
      subst hx
      cases hm:Nat.beq m 0 with
      |true=>
       rw[hm] at h
       simp only[cond_true,Option.some.injEq,Prod.mk.injEq] at h
       obtain ⟨rfl,rfl⟩:=h
       have hm:=Nat.eq_of_beq_eq_true hm
       subst hm
       exact ⟨_,w,kT ht f1 (Nat.le_refl _) (fun _=>⟨rfl,rfl⟩),hR.stay rfl⟩
      |false=>
       rw[hm] at h
       simp only[cond_false] at h
       have hm0:m≠0:=fun e=>by rw[e] at hm;cases hm
       cases hb:(Nat.ble (m*ie.bytes) nG&&Nat.ble m nG) with
       |false=>rw[hb] at h;cases h
       |true=>
        rw[hb] at h
        simp only[cond_true,Option.some.injEq,Prod.mk.injEq] at h
        obtain ⟨rfl,rfl⟩:=h
        simp only[w9] at hb
        have b1:=Nat.le_of_ble_eq_true hb.1
        have b2:=Nat.le_of_ble_eq_true hb.2
        rcases n4 with ⟨_,h0⟩|⟨sp,rfl,hat⟩
        ·exact absurd h0 hm0
        ·have hrun:=run_append_nil (P:=P) w t ty e f zv ht f1 f4 sp m c2 nv (by rw[n2,f2]) hat (by omega) (by omega) (by rw[f3];omega)
         exact ⟨_,_,hrun,Ch hTe f1 f2 f5 hR hk hkx n1 n3 n2 (grownCap_ge _ _ _ _)⟩
     ·rename_i b off n k' cp
      obtain ⟨q,o,cap,hq,rfl,x1,x2,x3⟩:=hx
      cases hm:Nat.beq m 0 with
      |true=>
       rw[hm] at h
       simp only[cond_true,Option.some.injEq,Prod.mk.injEq] at h
       obtain ⟨rfl,rfl⟩:=h
       have hm:=Nat.eq_of_beq_eq_true hm
       subst hm
       exact ⟨_,w,kT ht f1 x1 (fun e=>by cases e),hR.stay ⟨q,o,cap,hq,rfl,x1,x2,x3⟩⟩
      |false=>
       rw[hm] at h
       simp only[cond_false] at h
       have hm0:m≠0:=fun e=>by rw[e] at hm;cases hm
       obtain ⟨sp,rfl,hat⟩:∃sp,sa=some sp∧∀(j:Nat) u,nv[j]?=some u→w.cell? (sp.add j)=some u:=by
        rcases n4 with ⟨_,h0⟩|h0
        ·exact absurd h0 hm0
        ·exact h0
       cases hb:(Nat.beq k' ie.size&&Nat.blt 0 ie.size&&Nat.ble ((n+m)*ie.bytes) nG&&Nat.ble (n+m) nG) with
       |false=>rw[hb] at h;cases h
       |true=>
        rw[hb] at h
        simp only[cond_true] at h
        simp only[w9] at hb
        have b0:=Nat.eq_of_beq_eq_true hb.1.1.1
        have b1:0<ie.size:=Nat.le_of_ble_eq_true hb.1.1.2
        have b2:=Nat.le_of_ble_eq_true hb.1.2
        have b3:=Nat.le_of_ble_eq_true hb.2
        subst b0
        have move:∀{cs:List EV},((H.get b).bind VO.cs?)=some cs→cap<n+m→Nat.ble (off+n*ie.size) cs.length=true →
          ∃v w',(Builtin.append_ #[t,t] ty #[.slice (some ⟨q.r,o,none⟩) n cap,.slice (some sp) m c2]).run P w=.ok v w'∧eX φ I F E k nx (.sl k 0 (n+m) ie.size .en) (H.set k (some (.cells false ((cs.drop off).take (n*ie.size)++news)))) nx v w':=fun {cs} hcs hlt hle=>by
         obtain ⟨vs,g1,g2,g3,g4⟩:=kE (n:=n*ie.size) (off:=off) (l:=(cs.drop off).take (n*ie.size)) hR (by unfold cellsOf;rw[hcs];dsimp only;rw[hle];rfl) hq
         have hrun:=run_append_grow (P:=P) w t ty e f zv ht f1 f4 ⟨q.r,o,none⟩ n cap vs (by rw[g2,f2]) (fun j v hj=>by
          have hjl:=(List.getElem?_eq_some_iff.1 hj).1
          have hn0:n≠0:=fun e=>by rw[g2,e,Nat.zero_mul] at hjl;omega
          rw[bE,x2 (by omega)]
          exact g4 j v hj) sp m c2 nv (by rw[n2,f2]) hat hlt (by omega) (growslice_fits hlt (by rw[f3];omega))
         refine ⟨_,_,hrun,?_⟩
         have he:(vs.toArray++nv.toArray:Array Value)=(vs++nv).toArray:=by simp
         rw[he]
         exact Ch hTe f1 f2 f5 hR hk hkx (g1.append n1) (fun u hu=>(List.mem_append.1 hu).elim (g3 u) (n3 u)) (by rw[qw,g2,n2,Nat.add_mul]) (grownCap_ge _ _ _ _)
        split at h
        ·rename_i ex cs hcs
         have hcs2:(H.get b).bind VO.cs?=some cs:=by rw[hcs];rfl
         cases hin:(JW (n+m) cp&&Nat.ble (off+(n+m)*ie.size) cs.length) with
         |true=>
          rw[hin] at h
          simp only[cond_true,Option.some.injEq,Prod.mk.injEq] at h
          obtain ⟨rfl,rfl⟩:=h
          simp only[w9] at hin
          have i2:=Nat.le_of_ble_eq_true hin.2
          obtain ⟨A,L,hBb,hr,hS⟩:=hR.pick hcs
          obtain ⟨q',S,vs,junk,y1,y2,y3,y4,y5,y6,rfl⟩:=hBb
          rw[hq] at y1;cases y1
          have hown:=hS.own _ (.head _)
          simp only at hown
          have hmul:(n+m)*ie.size=n*ie.size+m*ie.size:=Nat.add_mul _ _ _
          have hvl:=y3.length
          have hcap:n+m≤cap:=by
           cases cp with
           |ex c3=>
            have x3:cap=c3:=x3
            have:=Nat.le_of_ble_eq_true hin.1
            omega
           |en=>
            have x3:q.sh+off+cap*ie.size=q.κ:=x3
            rw[qw] at y5
            have:(n+m)*ie.size≤cap*ie.size:=by omega
            exact Nat.le_of_mul_le_mul_right this b1
           |un=>cases hin.1
          have ho:o=off:=by rw[x2 (by omega),y2,Nat.zero_add]
          subst ho
          have hrun:=j7 (P:=P) (ty:=ty) ht f1 (off:=o) (n:=n) (cap:=cap) (m:=m) (c:=c2) hown (by rw[n2,f2]) hat n3 hcap (by rw[f2,n2];simp;omega)
          rw[f2,n2] at hrun
          have hcells:(vs++junk).toArray.toList.take (o+n*ie.size)++nv++(vs++junk).toArray.toList.drop (o+n*ie.size+m*ie.size)=(vs.take (o+n*ie.size)++nv++vs.drop (o+(n+m)*ie.size))++junk:=by
           simp only
           rw[List.take_append_of_le_length (by omega),List.drop_append_of_le_length (by omega),hmul,Nat.add_assoc]
           simp
          rw[hcells] at hrun
          refine ⟨_,_,hrun,?_⟩
          refine ⟨I,φ,.refl _,.refl _,fun _ _ _=>Z,Nat.le_refl _,⟨q,o,cap,hq,Z,hcap,x2,x3⟩,qj hr ⟨q,S,vs.take (o+n*ie.size)++nv++vs.drop (o+(n+m)*ie.size),junk,hq,y2,((y3.take _).append n1).append (y3.drop _),fun u hu=>?_,?_,y6,Z⟩ hS.turn1 hR.top⟩
          ·rcases List.mem_append.1 hu with hu|hu
           ·rcases List.mem_append.1 hu with hu|hu
            ·rcases List.mem_append.1 hu with hu|hu
             ·exact y4 u (List.mem_append_left _ (List.mem_of_mem_take hu))
             ·exact n3 u hu
            ·exact y4 u (List.mem_append_left _ (List.mem_of_mem_drop hu))
           ·exact y4 u (List.mem_append_right _ hu)
          ·rw[←y5]
           simp only[qw,w6,List.length_drop,n2]
           omega
         |false=>
          rw[hin] at h
          simp only[cond_false] at h
          split at h
          ·rename_i c3
           have x3:cap=c3:=x3
           subst x3
           cases hb5:(Nat.blt cap (n+m)&&Nat.ble (off+n*ie.size) cs.length) with
           |false=>rw[hb5] at h;cases h
           |true=>
            rw[hb5] at h
            simp only[cond_true,Option.some.injEq,Prod.mk.injEq] at h
            obtain ⟨rfl,rfl⟩:=h
            simp only[w9] at hb5
            exact move hcs2 (Nat.le_of_ble_eq_true hb5.1) hb5.2
          ·cases hb5:(Nat.beq off 0&&Nat.beq (n*ie.size) cs.length) with
           |false=>rw[hb5] at h;cases h
           |true=>
            rw[hb5] at h
            simp only[cond_true,Option.some.injEq,Prod.mk.injEq] at h
            obtain ⟨rfl,rfl⟩:=h
            simp only[w9] at hb5
            have c1:=Nat.eq_of_beq_eq_true hb5.1
            have c4:=Nat.eq_of_beq_eq_true hb5.2
            subst c1
            obtain ⟨A,L,hBb,hr,hS⟩:=hR.pick hcs
            obtain ⟨q',S,vs,junk,y1,y2,y3,y4,y5,y6,rfl⟩:=hBb
            rw[hq] at y1;cases y1
            have hown:=hS.own _ (.head _)
            simp only at hown
            have hvl:=y3.length
            have x3:q.sh+0+cap*ie.size=q.κ:=x3
            by_cases hcap:n+m≤cap
            ·have ho:o=0:=by rw[x2 (by omega),y2]
             subst ho
             have hmul:(n+m)*ie.size=n*ie.size+m*ie.size:=Nat.add_mul _ _ _
             have hle:(n+m)*ie.size≤cap*ie.size:=Nat.mul_le_mul_right _ hcap
             have hjl:vs.length+junk.length=cap*ie.size:=by rw[←qw,y5];omega
             have hrun:=j7 (P:=P) (ty:=ty) ht f1 (off:=0) (n:=n) (cap:=cap) (m:=m) (c:=c2) hown (by rw[n2,f2]) hat n3 hcap (by rw[f2,n2];simp;omega)
             rw[f2,n2] at hrun
             have hcells:(vs++junk).toArray.toList.take (0+n*ie.size)++nv++(vs++junk).toArray.toList.drop (0+n*ie.size+m*ie.size)=(vs++nv)++junk.drop (m*ie.size):=by
              have e1:0+n*ie.size=vs.length:=by omega
              simp only[e1]
              rw[List.take_left,List.drop_append,List.drop_eq_nil_of_le (by omega:vs.length≤vs.length+m*ie.size)]
              simp
             rw[hcells] at hrun
             refine ⟨_,_,hrun,I,φ.put k ⟨q.r,0,q.κ⟩,.refl _,ql hk _,fun j _ hj=>mM φ _ hj,Nat.le_refl _,⟨_,0,cap,q2 _ _ _,rfl,hcap,fun _=>rfl,by show 0+0+cap*ie.size=q.κ;omega⟩,
              qj ((hr.moved hk).mono (.refl _) (ql hk _)) ⟨_,S,vs++nv,junk.drop (m*ie.size),q2 _ _ _,rfl,(y3.append n1).mono (ql hk _),fun u hu=>?_,?_,(fun h=>by cases h),rfl⟩ hS.turn1 (nF hR.top hkx _)⟩
             ·rcases List.mem_append.1 hu with hu|hu
              ·rcases List.mem_append.1 hu with hu|hu
               ·exact y4 u (List.mem_append_left _ hu)
               ·exact n3 u hu
              ·exact y4 u (List.mem_append_right _ (List.mem_of_mem_drop hu))
             ·show _=q.κ
              rw[←y5]
              simp only[qw,List.length_drop,n2]
              omega
            ·have hlt:cap<n+m:=by omega
             obtain ⟨us,g1,g2,g3,g4⟩:=kE (n:=n*ie.size) (off:=0) (l:=(cs.drop 0).take (n*ie.size)) hR (by unfold cellsOf;rw[hcs2];dsimp only;rw[show Nat.ble (0+n*ie.size) cs.length=true from Nat.ble_eq_true_of_le (by omega)];rfl) hq
             have e0:(cs.drop 0).take (n*ie.size)=cs:=by rw[List.drop_zero,List.take_of_length_le (by omega)]
             rw[e0] at g1
             have hrun:=run_append_grow (P:=P) w t ty e f zv ht f1 f4 ⟨q.r,o,none⟩ n cap us (by rw[g2,f2]) (fun j v hj=>by
              have hjl:=(List.getElem?_eq_some_iff.1 hj).1
              have hn0:n≠0:=fun e=>by rw[g2,e,Nat.zero_mul] at hjl;omega
              rw[bE,x2 (by omega)]
              exact g4 j v hj) sp m c2 nv (by rw[n2,f2]) hat hlt (by omega) (growslice_fits hlt (by rw[f3];omega))
             refine ⟨_,_,hrun,?_⟩
             have he:(us.toArray++nv.toArray:Array Value)=(us++nv).toArray:=by simp
             rw[he]
             have hR2:d4 I φ (H.set b none) nx F E w:=d4.gone hr hS.dropAll hR.top
             exact Ch hTe f1 f2 f5 hR2 hk hkx (g1.append n1) (fun u hu=>(List.mem_append.1 hu).elim (g3 u) (n3 u)) (by rw[qw,g2,n2,Nat.add_mul]) (grownCap_ge _ _ _ _)
          ·cases h
        ·rename_i cs hcs
         have hcs2:(H.get b).bind VO.cs?=some cs:=by rw[hcs];rfl
         split at h
         ·rename_i c3
          have x3:cap=c3:=x3
          subst x3
          cases hb5:(Nat.blt cap (n+m)&&Nat.ble (off+n*ie.size) cs.length) with
          |false=>rw[hb5] at h;cases h
          |true=>
           rw[hb5] at h
           simp only[cond_true,Option.some.injEq,Prod.mk.injEq] at h
           obtain ⟨rfl,rfl⟩:=h
           simp only[w9] at hb5
           exact move hcs2 (Nat.le_of_ble_eq_true hb5.1) hb5.2
         ·cases h
        ·cases h
     ·cases h
    ·cases h
   ·cases h
  ·cases h
 ·cases h
end
end
end Go.Proofs.YtbanfokidalbaaaGreatDoor
