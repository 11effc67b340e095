/- Rules in the form that the generator of walks uses. No conditions. -/
import Derived.WalkKit
import Derived.WalkSpells
import Derived.Laws.CopyRow
set_option linter.unusedVariables false
set_option linter.unusedSimpArgs false
set_option linter.unusedSectionVars false
namespace Go.Proofs.YtjpnhkmfhlnpcaaGreatDoor
section
abbrev bU:=Nat→Value
def upd (ρ:bU) (d:Nat) (v:Value):bU:=fun t=>bif Nat.beq t d then v else ρ t
def updO (ρ:bU) (d:Option Nat) (v:Value):bU:=match d with|some d=>upd ρ d v|none=>ρ
def ev (ρ:bU):Operand→Value
 |.tmp t=>ρ t
 |.const v=>v
 |.global g=>.pointer (some ⟨g,0,none⟩)
 |.func f=>.func (.func f) #[] #[]
theorem fT (ρ:bU) (d:Nat) (v:Value):upd ρ d v d=v:=by simp[upd]
theorem dG (ρ:bU) {d t:Nat} (v:Value) (h:t≠d):upd ρ d v t=ρ t:=by
 have:Nat.beq t d=false:=by cases hb:Nat.beq t d<;>simp_all
 simp[upd,this]
structure gE (n:Nat) (a:Act) (ρ:bU):Prop where
 size:a.tmps.size=n
 defers:a.defers=[]
 at_:∀t,a.tmps.getD t undef=ρ t
theorem gE.eval {n:Nat} {a:Act} {ρ:bU} (h:gE n a ρ):a.eval=ev ρ:=by
 funext x;cases x<;>simp[Act.eval,ev,h.at_]
theorem gE.put {n:Nat} {a:Act} {ρ:bU} (h:gE n a ρ) {d:Option Nat} (hd:d.all (fun d=>decide (d<n))=true) (v:Value):gE n (a.put d v) (updO ρ d v):=by
 cases d with
 |none=>exact h
 |some d=>
  have hd':d<a.tmps.size:=by rw[h.size];simpa using hd
  refine ⟨by simp[Act.put,h.size],h.defers,fun t=>?_⟩
  simp only[Act.put,updO]
  by_cases e:t=d
  ·subst e;rw[fT];simp[hd']
  ·rw[dG _ _ e,←h.at_ t]
   simp only[Array.getD_eq_getD_getElem?]
   rw[Array.getElem?_setIfInBounds_ne (by omega)]
def IE (n:Nat) (Q:Exit→bU→World→Prop):Exit→Act→World→Prop:=fun e a w=>∃ρ,gE n a ρ∧Q e ρ w
def WP (P:Program) (n:Nat) (c:Code) (Q:Exit→bU→World→Prop) (ρ:bU) (w:World):Prop:=
 ∀a,gE n a ρ→c.wp P (IE n Q) a w
def J3 (K:bU→World→Prop) (Q:Exit→bU→World→Prop):Exit→bU→World→Prop:=fun e ρ w=>
 match e with
 |.normal=>K ρ w
 |e=>Q e ρ w
def ve (id:Nat) (Q:Exit→bU→World→Prop):Exit→bU→World→Prop:=fun e ρ w=>
 match e with
 |.exit i=>if i=id then Q .normal ρ w else Q (.exit i) ρ w
 |e=>Q e ρ w
section
variable {P:Program} {n:Nat} {Q:Exit→bU→World→Prop} {ρ:bU} {w:World}
theorem WP.mono {c:Code} {Q':Exit→bU→World→Prop} (h:WP P n c Q ρ w) (hq:∀e ρ w,Q e ρ w→Q' e ρ w):WP P n c Q' ρ w:=
 fun a ha=>wp_mono (h a ha) fun _ _ _ ⟨ρ,h1,h2⟩=>⟨ρ,h1,hq _ _ _ h2⟩
theorem WP.skip (h:Q .normal ρ w):WP P n .skip Q ρ w:=fun _ ha=>wp_skip ⟨ρ,ha,h⟩
theorem WP.ret (h:Q .ret ρ w):WP P n .ret Q ρ w:=fun _ ha=>wp_ret ⟨ρ,ha,h⟩
theorem WP.exit {id:Nat} (h:Q (.exit id) ρ w):WP P n (.exit id) Q ρ w:=fun _ ha=>wp_exit ⟨ρ,ha,h⟩
theorem WP.seq {x y:Code} (h:WP P n x (J3 (WP P n y Q) Q) ρ w):WP P n (.seq x y) Q ρ w:=fun a ha=>
 wp_seq (wp_mono (h a ha) fun e a w ⟨ρ,h1,h2⟩=>by
  cases e<;>first|exact h2 a h1|exact ⟨ρ,h1,h2⟩)
theorem WP.cond {c:Operand} {x y:Code} {t:Bool} (hc:ev ρ c=.bool t) (h:(if t then WP P n x Q ρ w else WP P n y Q ρ w)):WP P n (.cond c x y) Q ρ w:=fun a ha=>
 wp_cond (t:=t) (by rw[ha.eval];exact hc) (by cases t<;>exact h a ha)
theorem WP.condB {c:Operand} {x y:Code} {t:Bool} (hc:ev ρ c=.bool t) (h:t=true→WP P n x Q ρ w) (h':t=false→WP P n y Q ρ w):WP P n (.cond c x y) Q ρ w:=
 WP.cond hc (by cases t<;>simp[h,h'])
theorem WP.block {id:Nat} {c:Code} (h:WP P n c (ve id Q) ρ w):WP P n (.block id c) Q ρ w:=fun a ha=>
 wp_block (wp_mono (h a ha) fun e a w ⟨ρ,h1,h2⟩=>by
  cases e<;>try exact ⟨ρ,h1,h2⟩
  rename_i i
  simp only[Exit.inBlock]
  simp only[ve] at h2
  split<;>rename_i hi
  ·rw[if_pos hi] at h2;exact ⟨ρ,h1,h2⟩
  ·rw[if_neg hi] at h2;exact ⟨ρ,h1,h2⟩)
theorem WP.loop {γ:Type} {c:Code} (I:γ→bU→World→Prop) (μ:γ→Nat) (g₀:γ) (h₀:I g₀ ρ w)
  (round:∀g ρ w,I g ρ w→WP P n c (J3 (fun ρ' w'=>∃g',I g' ρ' w'∧μ g'<μ g) Q) ρ w):WP P n (.loop c) Q ρ w:=by
 intro a ha b k cs
 have key:∀m g ρ a w,μ g=m→gE n a ρ→I g ρ w →
   ∃e a' w',IE n Q e a' w'∧Arrives P (lone (b.at a (.code c::.inLoop c::k)) cs w) b k cs e a' w':=by
  intro m
  induction m using Nat.strongRecOn with
  |_ m ih=>
   intro g ρ a w hm ha hI
   obtain ⟨e,a₁,w₁,⟨ρ₁,hq1,hq2⟩,harr⟩:=round g ρ w hI a ha b (.inLoop c::k) cs
   cases e with
   |normal=>
    obtain ⟨g',hI₁,hlt⟩:=hq2
    obtain ⟨e₂,a₂,w₂,hq₂,harr₂⟩:=ih (μ g') (hm▸hlt) g' ρ₁ a₁ w₁ rfl hq1 hI₁
    exact ⟨e₂,a₂,w₂,hq₂,.of_steps (Steps.trans harr (.one step_inLoop)) harr₂⟩
   |exit id=>exact ⟨_,a₁,w₁,⟨ρ₁,hq1,hq2⟩,.pass (x:=.inLoop c) rfl (fun _ _=>.inl (by simp)) harr⟩
   |goto l=>exact ⟨_,a₁,w₁,⟨ρ₁,hq1,hq2⟩,.pass (x:=.inLoop c) rfl (fun _ _=>.inl (by simp)) harr⟩
   |ret=>exact ⟨_,a₁,w₁,⟨ρ₁,hq1,hq2⟩,.pass (x:=.inLoop c) rfl (fun _ _=>.inl (by simp)) harr⟩
   |panic ch=>exact ⟨_,a₁,w₁,⟨ρ₁,hq1,hq2⟩,.pass (x:=.inLoop c) rfl (fun _ _=>.inl (by simp)) harr⟩
   |outgrown=>exact ⟨_,a₁,w₁,⟨ρ₁,hq1,hq2⟩,.pass (x:=.inLoop c) rfl (fun _ _=>.inl (by simp)) harr⟩
 obtain ⟨e,a',w',hq,harr⟩:=key _ g₀ ρ a w rfl ha h₀
 exact ⟨e,a',w',hq,.of_steps (.one step_loop) harr⟩
end
def ei (P:Program) (o:Oper) (ρ:bU) (w:World) (K:Value→World→Prop):Prop:=
 match (execOp (ev ρ) o).run P w with
 |.ok (.value v) w'=>K v w'
 |.ok .skip w'=>K undef w'
 |.ok (.enter f args) w'=>Calls P f args w' fun e w''=>∃v,e=.returned v∧K v w''
 |_=>False
def b8 (ops:Array Oper) (o:Oper) (ρ:bU):Bool:=
 match o.guard with
 |none=>true
 |some (j,b)=>match (ops[j]?).bind (·.dst) with
  |some s=>(match ρ s with | .bool b'=>b' == b|_=>false)
  |none=>false
def bL (P:Program) (ops:Array Oper) (K:bU→World→Prop):List Oper→bU→World→Prop
 |[],ρ,w=>K ρ w
 |o::rest,ρ,w=>
  if b8 ops o ρ then ei P o ρ w (fun v w'=>bL P ops K rest (updO ρ o.dst v) w')
  else bL P ops K rest (updO ρ o.dst undef) w
def eX (n:Nat) (l:List Oper):Bool:=l.all fun o=>o.dst.all (fun d=>decide (d<n))
theorem ei.mono {P:Program} {o:Oper} {ρ:bU} {w:World} {K K':Value→World→Prop} (h:ei P o ρ w K) (hk:∀v w,K v w→K' v w):ei P o ρ w K':=by
 unfold ei at *
 split at h
 ·exact hk _ _ h
 ·exact hk _ _ h
 ·exact h.mono fun e w ⟨v,h1,h2⟩=>⟨v,h1,hk _ _ h2⟩
 ·exact h.elim
theorem ei.wp {P:Program} {n:Nat} {o:Oper} {ρ:bU} {w:World} {K:Value→World→Prop} {a:Act} (ha:gE n a ρ)
  {next:Act→World→Prop} {Q:Exit→Act→World→Prop} (h:ei P o ρ w K) (hk:∀v w',K v w'→next (a.put o.dst v) w'):o.wp P a w next Q:=by
 unfold ei at h
 unfold Oper.wp
 rw[ha.eval]
 split at h
 ·rename_i heq;rw[heq];exact hk _ _ h
 ·rename_i heq;rw[heq];exact hk _ _ h
 ·rename_i heq;rw[heq,Oper.upon_enter]
  exact h.mono fun e w'' ⟨v,he,hK⟩=>by subst he;exact hk _ _ hK
 ·exact h.elim
theorem qU {n:Nat} {a:Act} {ρ:bU} (ha:gE n a ρ) (ops:Array Oper) (o:Oper) (hops:∀(j s:Nat),(ops[j]?).bind (fun o:Oper=>o.dst)=some s→s<n) :
  Region.wanted o (yielded ops a.tmps)=b8 ops o ρ:=by
 unfold Region.wanted b8
 split
 ·rename_i h;simp[h]
 ·rename_i j b h
  simp only[h]
  unfold yielded
  cases hd:(ops[j]?).bind (·.dst) with
  |none=>simp
  |some s=>
   have hs:=hops j s hd
   have h1:a.tmps[s]?=some (ρ s):=by
    rw[←ha.at_ s]
    simp[Array.getD_eq_getD_getElem?,ha.size,hs]
   simp only[Option.bind_some,h1]
   cases ρ s<;>simp
theorem bL.wpList {P:Program} {n:Nat} {ops:Array Oper} {K:bU→World→Prop} {Q:Exit→Act→World→Prop} (hops:∀(j s:Nat),(ops[j]?).bind (fun o:Oper=>o.dst)=some s→s<n)
  (hK:∀a ρ w,gE n a ρ→K ρ w→Q .normal a w):∀(l:List Oper) (ρ:bU) (w:World) (a:Act),eX n l=true→gE n a ρ→bL P ops K l ρ w→wpList P ops Q l a w
 |[],ρ,w,a,_,ha,h=>hK a ρ w ha h
 |o::rest,ρ,w,a,hd,ha,h=>by
  simp only[eX,List.all_cons,Bool.and_eq_true] at hd
  unfold Go.wpList
  rw[qU ha ops o hops]
  unfold bL at h
  split
  ·rename_i hw
   rw[if_pos hw] at h
   exact .inl (h.wp ha fun v w' hv=>bL.wpList hops hK rest _ _ _ hd.2 (ha.put hd.1 v) hv)
  ·rename_i hw
   rw[if_neg hw] at h
   exact bL.wpList hops hK rest _ _ _ hd.2 (ha.put hd.1 undef) h
theorem Dv {n:Nat} {l:List Oper} (hd:eX n l=true) (j s:Nat) (h:(l.toArray[j]?).bind (fun o:Oper=>o.dst)=some s):s<n:=by
 simp only[eX,List.all_eq_true] at hd
 rcases hj:l[j]? with _|o
 ·simp[hj] at h
 ·have:=hd o (List.mem_of_getElem? hj)
  simp only[List.getElem?_toArray,hj,Option.bind_some] at h
  simpa [h] using this
theorem WP.region {P:Program} {n:Nat} {Q:Exit→bU→World→Prop} {ρ:bU} {w:World} {id:Nat} {l:List Oper} (hd:eX n l=true)
  (h:bL P l.toArray (Q .normal) l ρ w):WP P n (.region id l.toArray false) Q ρ w:=fun a ha=>
 wp_region_lit (bL.wpList (Dv hd) (fun _ _ _ ha hK=>⟨_,ha,hK⟩) l ρ w a hd ha h)
section
variable {P:Program} {ops:Array Oper} {K:bU→World→Prop} {ρ:bU} {w:World} {rest:List Oper} {o:Oper}
theorem bL.nil (h:K ρ w):bL P ops K [] ρ w:=h
theorem bL.step (hg:o.guard=none) (h:ei P o ρ w (fun v w'=>bL P ops K rest (updO ρ o.dst v) w')):bL P ops K (o::rest) ρ w:=by
 unfold bL;rw[if_pos (by simp[b8,hg])];exact h
theorem bL.mono {K':bU→World→Prop} (hk:∀ρ w,K ρ w→K' ρ w):∀(l:List Oper) (ρ:bU) (w:World),bL P ops K l ρ w→bL P ops K' l ρ w
 |[],_,_,h=>hk _ _ h
 |o::rest,ρ,w,h=>by
  unfold bL at *
  split
  ·rename_i hw;rw[if_pos hw] at h;exact h.mono fun v w' hv=>bL.mono hk rest _ _ hv
  ·rename_i hw;rw[if_neg hw] at h;exact bL.mono hk rest _ _ h
end
def nj (rs:Array ResultVar) (ρ:bU) (P:Program) (w:World):Result Value:=
 ((do
  let vs ←rs.mapM fun x=>match x with
   |.tmp t=>Pure.pure (ρ t)
   |.cell a t=>do loadVar t (←asAddr (ρ a))
  Pure.pure (if h:vs.size=1 then vs[0] else Value.tuple vs)):Sem Value).run P w
theorem vf {n:Nat} {a:Act} {ρ:bU} (ha:gE n a ρ) (fn:Func) (P:Program) (w:World):(results fn a.tmps).run P w=nj fn.results ρ P w:=by
 unfold results nj
 simp only[ha.at_]
 rfl
def Fn (P:Program) (f:FuncId) (args:Array Value) (w:World) (R:Value→World→Prop):Prop:=
 (∃fn c,P.funcs[f]?=some fn∧fn.body=some c∧fn.name≠"runtime.NumGoroutine")∧Calls P f args w fun e w'=>∃v,e=.returned v∧R v w'
theorem Fn.mono {P:Program} {f:FuncId} {args:Array Value} {w:World} {R R':Value→World→Prop} (h:Fn P f args w R) (hr:∀v w,R v w→R' v w):Fn P f args w R':=
 ⟨h.1,h.2.mono fun _ _ ⟨v,h1,h2⟩=>⟨v,h1,hr _ _ h2⟩⟩
def Lk (P:Program) (rs:Array ResultVar) (R:Value→World→Prop):Exit→bU→World→Prop:=fun e ρ w=>
 match e with
 |.normal | .ret=>∃v,nj rs ρ P w=.ok v w∧R v w
 |_=>False
def vg (args:Array Value):bU:=fun t=>args.getD t undef
theorem Fn.intro {P:Program} {f:FuncId} {fn:Func} {c:Code} {args:Array Value} {w:World} {R:Value→World→Prop} (hf:P.funcs[f]?=some fn) (hb:fn.body=some c)
  (hn:fn.name≠"runtime.NumGoroutine") (hs:Nat.ble args.size fn.ntmps=true) (h:WP P fn.ntmps c (Lk P fn.results R) (vg args) w):Fn P f args w R:=by
 have hs:=Nat.le_of_ble_eq_true hs
 refine ⟨⟨fn,c,hf,hb,hn⟩,calls_of_wp hf hb (wp_mono (h _ ⟨?_,rfl,?_⟩) ?_)⟩
 ·simp;omega
 ·intro t
  simp only[vg,Array.getD_eq_getD_getElem?]
  by_cases ht:t<args.size
  ·rw[Array.getElem?_append_left ht]
  ·rw[Array.getElem?_append_right (by omega)]
   by_cases h2:t - args.size<fn.ntmps - args.size
   ·rw[Array.getElem?_replicate,if_pos h2,Array.getElem?_eq_none (by omega)];rfl
   ·rw[Array.getElem?_replicate,if_neg h2,Array.getElem?_eq_none (by omega)]
 ·rintro e a w ⟨ρ,ha,hq⟩
  cases e<;>first|exact hq.elim|(obtain ⟨v,h1,h2⟩:=hq;exact ⟨ha.defers,v,by rw[vf ha];exact h1,v,rfl,h2⟩)
end
section
inductive gF (S:Int→List Int) (p:Int→Prop) (r:Int):Int→Prop
 |refl:p r→gF S p r r
 |step {b c}:gF S p r b→c∈S b→p c→gF S p r c
theorem gF.end_ {S:Int→List Int} {p:Int→Prop} {r b:Int} (h:gF S p r b):p b:=by cases h<;>assumption
theorem gF.start {S:Int→List Int} {p:Int→Prop} {r b:Int} (h:gF S p r b):p r:=by induction h<;>assumption
theorem gF.mono {S:Int→List Int} {p q:Int→Prop} {r b:Int} (hpq:∀x,p x→q x) (h:gF S p r b):gF S q r b:=by
 induction h with
 |refl h=>exact .refl (hpq _ h)
 |step _ h1 h2 ih=>exact .step ih h1 (hpq _ h2)
theorem gF.trans {S:Int→List Int} {p:Int→Prop} {r b c:Int} (h:gF S p r b) (k:gF S p b c):gF S p r c:=by
 induction k with
 |refl _=>exact h
 |step _ h1 h2 ih=>exact .step ih h1 h2
theorem gF.self {S:Int→List Int} {p:Int→Prop} {r b:Int} (h:gF S p r b):gF S (fun x=>p x∧gF S p r x) r b:=by
 induction h with
 |refl h=>exact .refl ⟨h,.refl h⟩
 |step h0 h1 h2 ih=>exact .step ih h1 ⟨h2,.step h0 h1 h2⟩
theorem gF.last {S:Int→List Int} {p:Int→Prop} {r b:Int} (h:gF S p r b):b=r∨∃c,c∈S r∧gF S (fun x=>p x∧x≠r) c b:=by
 induction h with
 |refl h=>exact .inl rfl
 |@step b c h0 h1 h2 ih=>
  by_cases hc:c=r
  ·exact .inl hc
  ·right
   rcases ih with rfl|⟨d,hd,hw⟩
   ·exact ⟨c,h1,.refl ⟨h2,hc⟩⟩
   ·exact ⟨d,hd,.step hw h1 ⟨h2,hc⟩⟩
inductive fC (S:Int→List Int) (at_:Int→Int) (p:Int→Prop) (r:Int):Nat→Int→Prop
 |refl {k}:p r→fC S at_ p r k r
 |fwd {k b c}:fC S at_ p r k b→c∈S b→at_ b<at_ c→p c→fC S at_ p r k c
 |back {k b c}:fC S at_ p r k b→c∈S b→p c→fC S at_ p r (k+1) c
theorem fC.end_ {S:Int→List Int} {at_:Int→Int} {p:Int→Prop} {r b:Int} {k:Nat} (h:fC S at_ p r k b):p b:=by cases h<;>assumption
theorem fC.way {S:Int→List Int} {at_:Int→Int} {p:Int→Prop} {r b:Int} {k:Nat} (h:fC S at_ p r k b):gF S p r b:=by
 induction h with
 |refl h=>exact .refl h
 |fwd _ h1 _ h2 ih=>exact .step ih h1 h2
 |back _ h1 h2 ih=>exact .step ih h1 h2
theorem fC.ahead {S:Int→List Int} {at_:Int→Int} {p q:Int→Prop} {r c b:Int} {k:Nat} (h:fC S at_ q c k b) (hqp:∀x,q x→p x) (hr:p r) (hc:c∈S r):fC S at_ p r (k+1) b:=by
 induction h with
 |refl h=>exact .back (.refl hr) hc (hqp _ h)
 |fwd _ h1 h2 h3 ih=>exact .fwd ih h1 h2 (hqp _ h3)
 |back _ h1 h2 ih=>exact .back ih h1 (hqp _ h2)
theorem gF.short {S:Int→List Int} (at_:Int→Int):∀(n:Nat) (V:List Int) (p:Int→Prop) (r b:Int),V.length=n→(∀x,p x→x∈V)→gF S p r b→∃k,k+1≤n∧fC S at_ p r k b
 |0,V,p,r,b,hl,hV,h=>by
  have:=hV _ h.start
  rw[List.eq_nil_of_length_eq_zero hl] at this;cases this
 |n+1,V,p,r,b,hl,hV,h=>by
  rcases h.last with rfl|⟨c,hc,hw⟩
  ·exact ⟨0,by omega,.refl h.start⟩
  ·have hr:=hV _ h.start
   obtain ⟨k,hk,hb⟩:=gF.short at_ n (V.erase r) (fun x=>p x∧x≠r) c b (by rw[List.length_erase_of_mem hr,hl];rfl) (fun x hx=>(List.mem_erase_of_ne hx.2).2 (hV x hx.1)) hw
   exact ⟨k+1,by omega,hb.ahead (fun x hx=>hx.1) h.start hc⟩
def tj (S:Int→List Int) (b:Int):Prop:=gF S (fun _=>True) 0 b
def qV (S:Int→List Int) (a b:Int):Prop:=tj S b∧¬gF S (fun x=>x≠a) 0 b
section
variable {S:Int→List Int}
theorem qV.refl {b:Int} (h:tj S b):qV S b b:=⟨h,fun hw=>hw.end_ rfl⟩
theorem qV.pred {a b p:Int} (h:qV S a b) (hp:tj S p) (he:b∈S p) (hab:a≠b):qV S a p:=
 ⟨hp,fun hw=>h.2 (.step hw he (fun e=>hab e.symm))⟩
theorem qV.of_preds {a b:Int} (hb:tj S b) (h0:b≠0) (h:∀p,tj S p→b∈S p→qV S a p):qV S a b:=by
 refine ⟨hb,fun hw=>?_⟩
 cases hw with
 |refl _=>exact h0 rfl
 |step h1 h2 h3=>exact (h _ (h1.mono fun _ _=>trivial) h2).2 h1
end
inductive gQ (N:Int→Int):Int→Int→Prop
 |refl (x):gQ N x x
 |up {x a}:x≠0→N x≠-1→gQ N (N x) a→gQ N x a
theorem gQ.trans {N:Int→Int} {x y z:Int} (h:gQ N x y) (k:gQ N y z):gQ N x z:=by
 induction h with
 |refl=>exact k
 |up h1 h2 _ ih=>exact .up h1 h2 (ih k)
theorem gQ.cases' {N:Int→Int} {x a:Int} (h:gQ N x a):a=x∨(x≠0∧N x≠-1∧gQ N (N x) a):=by
 cases h with
 |refl=>exact .inl rfl
 |up h1 h2 h3=>exact .inr ⟨h1,h2,h3⟩
structure tk (S:Int→List Int) (at_:Int→Int) (V:List Int):Prop where
 mem:∀b,b∈V↔tj S b
 pos:∀b,b∈V↔0≤at_ b
 inj:∀a b,a∈V→b∈V→at_ a=at_ b→a=b
 zero:at_ 0=0
 fwd:∀b,b∈V→b≠0→∃p,p∈V∧b∈S p∧at_ p<at_ b
 none:∀b,b ∉ V→at_ b=-1
 nn:∀b,b∈V→0≤b
structure jI (S:Int→List Int) (at_:Int→Int) (V:List Int) (N:Int→Int):Prop where
 zero:N 0=0
 mem:∀b,N b≠-1→b∈V
 near:∀b,b≠0→N b≠-1→N b∈V∧N (N b)≠-1∧at_ (N b)<at_ b
 path:∀b,b≠0→N b≠-1→gF S (fun x=>at_ (N b)≤at_ x) (N b) b
 dom:∀b d,N b≠-1→qV S d b→gQ N b d
section
variable {S:Int→List Int} {at_:Int→Int} {V:List Int} {N:Int→Int}
theorem tk.zmem (hV:tk S at_ V):(0:Int)∈V:=(hV.mem 0).2 (.refl trivial)
theorem jI.anc (hN:jI S at_ V N) {x a:Int} (hx:N x≠-1) (h:gQ N x a):N a≠-1∧at_ a≤at_ x∧gF S (fun y=>at_ a≤at_ y) a x:=by
 induction h with
 |refl x=>exact ⟨hx,Int.le_refl _,.refl (Int.le_refl _)⟩
 |@up x a h1 h2 h3 ih=>
  obtain ⟨g1,g2,g3⟩:=hN.near x h1 h2
  obtain ⟨i1,i2,i3⟩:=ih g2
  refine ⟨i1,by omega,i3.trans ((hN.path x h1 h2).mono fun y hy=>by omega)⟩
theorem jI.antisymm (hV:tk S at_ V) (hN:jI S at_ V N) {x a:Int} (hx:N x≠-1) (h:gQ N x a) (e:at_ x≤at_ a):a=x:=by
 rcases h.cases' with h|⟨h1,h2,h3⟩
 ·exact h
 ·have g:=hN.near x h1 h2
  have:=(hN.anc g.2.1 h3).2.1
  omega
def qW (N at_:Int→Int):Nat→Int→Int→Int
 |0,a,_=>a
 |k+1,a,b=>if a=b then a else if at_ b<at_ a then qW N at_ k (N a) b else qW N at_ k a (N b)
theorem ot (hV:tk S at_ V) (hN:jI S at_ V N):∀(k:Nat) (a b:Int),N a≠-1→N b≠-1→at_ a+at_ b<k→N (qW N at_ k a b)≠-1∧∀x,gQ N (qW N at_ k a b) x↔gQ N a x∧gQ N b x
 |0,a,b,ha,hb,hk=>by
  have h1:=(hV.pos a).1 (hN.mem a ha)
  have h2:=(hV.pos b).1 (hN.mem b hb)
  exact absurd hk (by omega)
 |k+1,a,b,ha,hb,hk=>by
  have h1:=(hV.pos a).1 (hN.mem a ha)
  have h2:=(hV.pos b).1 (hN.mem b hb)
  unfold qW
  by_cases hab:a=b
  ·rw[if_pos hab];subst hab;exact ⟨ha,fun x=>⟨fun h=>⟨h,h⟩,fun h=>h.1⟩⟩
  ·rw[if_neg hab]
   by_cases hlt:at_ b<at_ a
   ·rw[if_pos hlt]
    have ha0:a≠0:=fun e=>by rw[e,hV.zero] at hlt;omega
    obtain ⟨g1,g2,g3⟩:=hN.near a ha0 ha
    obtain ⟨i1,i2⟩:=ot hV hN k (N a) b g2 hb (by omega)
    refine ⟨i1,fun x=>(i2 x).trans ⟨fun h=>⟨.up ha0 ha h.1,h.2⟩,fun h=>⟨?_,h.2⟩⟩⟩
    rcases h.1.cases' with rfl|⟨_,_,h3⟩
    ·have:=(hN.anc hb h.2).2.1;omega
    ·exact h3
   ·rw[if_neg hlt]
    have hlt2:at_ a<at_ b:=by
     have:at_ a≠at_ b:=fun e=>hab (hV.inj a b (hN.mem a ha) (hN.mem b hb) e)
     omega
    have hb0:b≠0:=fun e=>by rw[e,hV.zero] at hlt2;omega
    obtain ⟨g1,g2,g3⟩:=hN.near b hb0 hb
    obtain ⟨i1,i2⟩:=ot hV hN k a (N b) ha g2 (by omega)
    refine ⟨i1,fun x=>(i2 x).trans ⟨fun h=>⟨h.1,.up hb0 hb h.2⟩,fun h=>⟨h.1,?_⟩⟩⟩
    rcases h.2.cases' with rfl|⟨_,_,h3⟩
    ·have:=(hN.anc ha h.1).2.1;omega
    ·exact h3
def jJ (N at_:Int→Int) (K:Nat):List Int→Int→Int
 |[],m=>m
 |p::ps,m=>jJ N at_ K ps (if at_ p=-1∨N p=-1 then m else if m=-1 then p else qW N at_ K m p)
theorem ou (hV:tk S at_ V) (hN:jI S at_ V N) {K:Nat} (hK:∀a b,a∈V→b∈V→at_ a+at_ b<K):∀(ps:List Int) (m:Int),N m≠-1 →
  N (jJ N at_ K ps m)≠-1∧∀x,gQ N (jJ N at_ K ps m) x↔gQ N m x∧∀p∈ps,N p≠-1→gQ N p x
 |[],m,hm=>⟨hm,fun x=>by simp[jJ]⟩
 |p::ps,m,hm=>by
  unfold jJ
  by_cases hp:at_ p=-1∨N p=-1
  ·rw[if_pos hp]
   have hp1:N p=-1:=by
    rcases hp with hp|hp
    ·exact Classical.byContradiction fun h=>by have:=(hV.pos p).1 (hN.mem p h);omega
    ·exact hp
   obtain ⟨i1,i2⟩:=ou hV hN hK ps m hm
   refine ⟨i1,fun x=>(i2 x).trans ⟨fun h=>⟨h.1,fun q hq hqn=>?_⟩,fun h=>⟨h.1,fun q hq=>h.2 q (.tail _ hq)⟩⟩⟩
   rcases List.mem_cons.1 hq with rfl|hq
   ·exact absurd hp1 hqn
   ·exact h.2 q hq hqn
  ·rw[if_neg hp]
   have hp1:N p≠-1:=fun e=>hp (.inr e)
   have hm0:m≠-1:=fun e=>by
    have h1:=hV.nn m (hN.mem m hm)
    omega
   rw[if_neg hm0]
   obtain ⟨j1,j2⟩:=ot hV hN K m p hm hp1 (hK _ _ (hN.mem _ hm) (hN.mem _ hp1))
   obtain ⟨i1,i2⟩:=ou hV hN hK ps _ j1
   refine ⟨i1,fun x=>(i2 x).trans ⟨fun h=>⟨((j2 x).1 h.1).1,fun q hq hqn=>?_⟩,fun h=>⟨(j2 x).2 ⟨h.1,h.2 p (.head _) hp1⟩,fun q hq=>h.2 q (.tail _ hq)⟩⟩⟩
   rcases List.mem_cons.1 hq with rfl|hq
   ·exact ((j2 x).1 h.1).2
   ·exact h.2 q hq hqn
theorem qX (hV:tk S at_ V) (hN:jI S at_ V N) {K:Nat} (hK:∀a b,a∈V→b∈V→at_ a+at_ b<K):∀(ps:List Int),(∃p∈ps,N p≠-1) →
  N (jJ N at_ K ps (-1))≠-1∧∀x,gQ N (jJ N at_ K ps (-1)) x↔∀p∈ps,N p≠-1→gQ N p x
 |[],h=>by obtain ⟨_,h,_⟩:=h;cases h
 |p::ps,h=>by
  unfold jJ
  by_cases hp:at_ p=-1∨N p=-1
  ·rw[if_pos hp]
   have hp1:N p=-1:=by
    rcases hp with hp|hp
    ·exact Classical.byContradiction fun h=>by have:=(hV.pos p).1 (hN.mem p h);omega
    ·exact hp
   obtain ⟨i1,i2⟩:=qX hV hN hK ps (by
    obtain ⟨q,hq,hqn⟩:=h
    rcases List.mem_cons.1 hq with rfl|hq
    ·exact absurd hp1 hqn
    ·exact ⟨q,hq,hqn⟩)
   refine ⟨i1,fun x=>(i2 x).trans ⟨fun h q hq hqn=>?_,fun h q hq=>h q (.tail _ hq)⟩⟩
   rcases List.mem_cons.1 hq with rfl|hq
   ·exact absurd hp1 hqn
   ·exact h q hq hqn
  ·rw[if_neg hp,if_pos rfl]
   have hp1:N p≠-1:=fun e=>hp (.inr e)
   obtain ⟨i1,i2⟩:=ou hV hN hK ps p hp1
   refine ⟨i1,fun x=>(i2 x).trans ⟨fun h q hq hqn=>?_,fun h=>⟨h p (.head _) hp1,fun q hq=>h q (.tail _ hq)⟩⟩⟩
   rcases List.mem_cons.1 hq with rfl|hq
   ·exact h.1
   ·exact h.2 q hq hqn
def gZ (N:Int→Int) (b m:Int):Int→Int:=fun x=>if x=b then m else N x
theorem fN (N:Int→Int) (b m:Int):gZ N b m b=m:=by simp[gZ]
theorem dM {N:Int→Int} {b m x:Int} (h:x≠b):gZ N b m x=N x:=by simp[gZ,h]
structure iW (S:Int→List Int) (at_:Int→Int) (V:List Int) (N:Int→Int) (b m:Int):Prop where
 mem:b∈V
 ne:b≠0
 has:N m≠-1
 anc:∀x,gQ N m x↔∀p,b∈S p→N p≠-1→gQ N p x
 fwd:∃p,b∈S p∧N p≠-1∧at_ p<at_ b
variable {b m:Int}
theorem iW.lt (hN:jI S at_ V N) (h:iW S at_ V N b m):at_ m<at_ b:=by
 obtain ⟨p,h1,h2,h3⟩:=h.fwd
 have:=(hN.anc h2 ((h.anc m).1 (.refl _) p h1 h2)).2.1
 omega
theorem iW.mne (hN:jI S at_ V N) (h:iW S at_ V N b m):m≠b:=fun e=>by have:=h.lt hN;rw[e] at this;omega
theorem wS (hN:jI S at_ V N) {x a:Int} (hx:N x≠-1) (hlt:at_ x<at_ b):gQ (gZ N b m) x a↔gQ N x a:=by
 constructor
 ·intro h
  induction h with
  |refl=>exact .refl _
  |@up x a h1 h2 h3 ih=>
   have hne:x≠b:=fun e=>by rw[e] at hlt;omega
   rw[dM hne] at h2 h3 ih
   have:=hN.near x h1 hx
   exact .up h1 hx (ih this.2.1 (by omega))
 ·intro h
  induction h with
  |refl=>exact .refl _
  |@up x a h1 h2 h3 ih=>
   have hne:x≠b:=fun e=>by rw[e] at hlt;omega
   have:=hN.near x h1 hx
   exact .up h1 (by rw[dM hne];exact hx) (by rw[dM hne];exact ih this.2.1 (by omega))
theorem IF {x a:Int} (h:gQ N x a):gQ (gZ N b m) x a∨(gQ (gZ N b m) x b∧gQ N x b∧gQ N b a):=by
 induction h with
 |refl=>exact .inl (.refl _)
 |@up x a h1 h2 h3 ih=>
  by_cases hxb:x=b
  ·subst hxb;exact .inr ⟨.refl _,.refl _,.up h1 h2 h3⟩
  ·rcases ih with h|⟨h,h',h''⟩
   ·exact .inl (.up h1 (by rw[dM hxb];exact h2) (by rw[dM hxb];exact h))
   ·exact .inr ⟨.up h1 (by rw[dM hxb];exact h2) (by rw[dM hxb];exact h),.up h1 h2 h',h''⟩
theorem Dw {x a:Int} (h:gQ (gZ N b m) x a):gQ N x a∨(gQ N x b∧gQ (gZ N b m) b a):=by
 induction h with
 |refl=>exact .inl (.refl _)
 |@up x a h1 h2 h3 ih=>
  by_cases hxb:x=b
  ·subst hxb;exact .inr ⟨.refl _,.up h1 h2 h3⟩
  ·rw[dM hxb] at h2 ih
   rcases ih with h|⟨h,h'⟩
   ·exact .inl (.up h1 h2 h)
   ·exact .inr ⟨.up h1 h2 h,h'⟩
theorem iW.up (hV:tk S at_ V) (hN:jI S at_ V N) (h:iW S at_ V N b m) {a:Int}:gQ (gZ N b m) b a↔a=b∨gQ N m a:=by
 have hl:=h.lt hN
 have hm1:m≠-1:=fun e=>by have:=hV.nn m (hN.mem m h.has);omega
 constructor
 ·intro ha
  rcases ha.cases' with e|⟨_,_,h3⟩
  ·exact .inl e
  ·rw[fN] at h3;exact .inr ((wS hN h.has hl).1 h3)
 ·rintro (e|h3)
  ·subst e;exact .refl _
  ·exact .up h.ne (by rw[fN];exact hm1) (by rw[fN];exact (wS hN h.has hl).2 h3)
theorem jI.set (hV:tk S at_ V) (hN:jI S at_ V N) (h:iW S at_ V N b m):jI S at_ V (gZ N b m):=by
 have hl:=h.lt hN
 have hmb:=h.mne hN
 have hm1:m≠-1:=fun e=>by have:=hV.nn m (hN.mem m h.has);omega
 have hset:∀x,N x≠-1→gZ N b m x≠-1:=fun x hx=>by
  unfold gZ;split
  ·exact hm1
  ·exact hx
 refine ⟨by rw[dM h.ne.symm];exact hN.zero,fun x hx=>?_,fun x h0 hx=>?_,fun x h0 hx=>?_,fun x d hx hd=>?_⟩
 ·by_cases e:x=b
  ·subst e;exact h.mem
  ·rw[dM e] at hx;exact hN.mem x hx
 ·by_cases e:x=b
  ·subst e;rw[fN];exact ⟨hN.mem m h.has,hset m h.has,hl⟩
  ·rw[dM e] at hx ⊢
   have:=hN.near x h0 hx
   exact ⟨this.1,hset _ this.2.1,this.2.2⟩
 ·by_cases e:x=b
  ·subst e;rw[fN]
   obtain ⟨p,h1,h2,h3⟩:=h.fwd
   have:=(hN.anc h2 ((h.anc m).1 (.refl _) p h1 h2)).2.2
   exact .step this h1 (by omega)
  ·rw[dM e] at hx ⊢;exact hN.path x h0 hx
 ·have hb:∀d,qV S d b→gQ (gZ N b m) b d:=fun d hd=>(h.up hV hN).2 (by
   by_cases e:d=b
   ·exact .inl e
   ·exact .inr ((h.anc d).2 fun p hp hpn=>hN.dom p d hpn (hd.pred ((hV.mem p).1 (hN.mem p hpn)) hp e)))
  by_cases e:x=b
  ·subst e;exact hb d hd
  ·rw[dM e] at hx
   rcases IF (b:=b) (m:=m) (hN.dom x d hx hd) with h1|⟨h1,h2,h3⟩
   ·exact h1
   ·refine h1.trans (hb d ?_)
    have hx2:=hN.anc hx h2
    by_cases hdb:d=b
    ·subst hdb;exact .refl ((hV.mem d).1 h.mem)
    ·refine ⟨(hV.mem b).1 h.mem,fun hw=>?_⟩
     have hlt:at_ d<at_ b:=by
      rcases Int.lt_or_le (at_ d) (at_ b) with g|g
      ·exact g
      ·exact absurd (hN.antisymm hV hx2.1 h3 g) hdb
     exact hd.2 (hw.trans (hx2.2.2.mono fun y hy e=>by subst e;omega))
end
end
section
section
variable {S:Int→List Int} {at_:Int→Int} {V:List Int} {N:Int→Int} {b m:Int}
theorem fC.le {p:Int→Prop} {r x:Int} {k j:Nat} (h:fC S at_ p r k x) (hj:k≤j):fC S at_ p r j x:=by
 induction h generalizing j with
 |refl h=>exact .refl h
 |fwd _ h1 h2 h3 ih=>exact .fwd (ih hj) h1 h2 h3
 |back _ h1 h2 ih=>
  obtain ⟨i,rfl⟩:∃i,j=i+1:=⟨j - 1,by omega⟩
  exact .back (ih (by omega)) h1 h2
theorem fC.by_ {p:Int→Prop} {r x:Int} {k:Nat} (b:Int) (h:fC S at_ p r k x):fC S at_ (fun y=>p y∧y≠b) r k x∨fC S at_ p r k b:=by
 induction h with
 |@refl k h=>
  by_cases e:r=b
  ·subst e;exact .inr (.refl h)
  ·exact .inl (.refl ⟨h,e⟩)
 |@fwd k c d h0 h1 h2 h3 ih=>
  rcases ih with ih|ih
  ·by_cases e:d=b
   ·subst e;exact .inr (.fwd h0 h1 h2 h3)
   ·exact .inl (.fwd ih h1 h2 ⟨h3,e⟩)
  ·exact .inr ih
 |@back k c d h0 h1 h2 ih=>
  rcases ih with ih|ih
  ·by_cases e:d=b
   ·subst e;exact .inr (.back h0 h1 h2)
   ·exact .inl (.back ih h1 ⟨h2,e⟩)
  ·exact .inr (ih.le (by omega))
theorem fC.mono {p q:Int→Prop} {r x:Int} {k:Nat} (hpq:∀y,p y→q y) (h:fC S at_ p r k x):fC S at_ q r k x:=by
 induction h with
 |refl h=>exact .refl (hpq _ h)
 |fwd _ h1 h2 h3 ih=>exact .fwd ih h1 h2 (hpq _ h3)
 |back _ h1 h2 ih=>exact .back ih h1 (hpq _ h2)
def PB (S:Int→List Int) (at_:Int→Int) (N:Int→Int) (j:Nat) (x:Int):Prop:=∀i,i<j→∀a,gQ N x a→¬fC S at_ (fun y=>y≠a) 0 i x
theorem PB.zero (x:Int):PB S at_ N 0 x:=fun i hi=>by omega
theorem PB.root (j:Nat):PB S at_ N j 0:=fun i _ a ha hw=>by
 rcases ha.cases' with rfl|⟨h,_,_⟩
 ·exact hw.end_ rfl
 ·exact h rfl
structure nI (S:Int→List Int) (at_:Int→Int) (V:List Int) (N:Int→Int) (j:Nat) (t:Int):Prop where
 inv:jI S at_ V N
 has:∀x,x∈V→(at_ x<t∨1≤j)→N x≠-1
 done:∀x,x∈V→at_ x<t→PB S at_ N (j+1) x
 all:∀x,x∈V→PB S at_ N j x
theorem Dx (hV:tk S at_ V) {p:Int→Prop} {x:Int} {k:Nat} (h:fC S at_ p 0 k x):x∈V:=(hV.mem x).2 (h.way.mono fun _ _=>trivial)
theorem nI.self (hV:tk S at_ V) {j:Nat} (h:nI S at_ V N j (at_ b)) (hM:iW S at_ V N b m):PB S at_ (gZ N b m) (j+1) b:=fun i hi a ha hw=>by
 rcases (hM.up hV h.inv).1 ha with e|ha
 ·exact hw.end_ e.symm
 ·cases hw with
  |refl _=>exact hM.ne rfl
  |@fwd _ p _ h1 h2 h3 h4=>
   have hp:=Dx hV h1
   have hpn:=h.has p hp (.inl h3)
   exact h.done p hp h3 i hi a ((hM.anc a).1 ha p h2 hpn) h1
  |@back k p _ h1 h2 h3=>
   have hp:=Dx hV h1
   have hpn:=h.has p hp (.inr (by omega))
   exact h.all p hp k (by omega) a ((hM.anc a).1 ha p h2 hpn) h1
theorem nI.other (hV:tk S at_ V) {j:Nat} (h:nI S at_ V N j (at_ b)) (hM:iW S at_ V N b m) {x:Int} {k:Nat} (hk:k≤j+1) (hx:PB S at_ N k x):PB S at_ (gZ N b m) k x:=fun i hi a ha hw=>by
 rcases Dw ha with h1|⟨h1,h2⟩
 ·exact hx i hi a h1 hw
 ·rcases hw.by_ b with h3|h3
  ·exact hx i hi b h1 (h3.mono fun y hy=>hy.2)
  ·exact h.self hV hM i (by omega) a h2 h3
theorem nI.step (hV:tk S at_ V) {j:Nat} (h:nI S at_ V N j (at_ b)) (hM:iW S at_ V N b m):nI S at_ V (gZ N b m) j (at_ b+1):=by
 have hm1:m≠-1:=fun e=>by have:=hV.nn m (h.inv.mem m hM.has);omega
 refine ⟨h.inv.set hV hM,fun x hx hc=>?_,fun x hx hc=>?_,fun x hx=>h.other hV hM (by omega) (h.all x hx)⟩
 ·by_cases e:x=b
  ·subst e;rw[fN];exact hm1
  ·rw[dM e]
   refine h.has x hx ?_
   rcases hc with hc|hc
   ·left
    have:at_ x≠at_ b:=fun e2=>e (hV.inj x b hx hM.mem e2)
    omega
   ·exact .inr hc
 ·by_cases e:x=b
  ·subst e;exact h.self hV hM
  ·have:at_ x≠at_ b:=fun e2=>e (hV.inj x b hx hM.mem e2)
   exact h.other hV hM (Nat.le_refl _) (h.done x hx (by omega))
theorem nI.next (hV:tk S at_ V) {j:Nat} {t:Int} (h:nI S at_ V N j t) (ht:∀x,x∈V→at_ x<t):nI S at_ V N (j+1) 1:=
 ⟨h.inv,fun x hx _=>h.has x hx (.inl (ht x hx)),fun x hx h1=>by
  have:x=0:=hV.inj x 0 hx hV.zmem (by rw[hV.zero];have:=(hV.pos x).1 hx;omega)
  subst this;exact PB.root _,fun x hx=>h.done x hx (ht x hx)⟩
theorem nI.first (hV:tk S at_ V):nI S at_ V (fun x=>if x=0 then 0 else -1) 0 1:=by
 have hN:jI S at_ V (fun x=>if x=0 then 0 else -1):=by
  refine ⟨by simp,fun x hx=>?_,fun x h0 hx=>?_,fun x h0 hx=>?_,fun x d hx hd=>?_⟩
  ·by_cases e:x=0
   ·rw[e];exact hV.zmem
   ·simp[e] at hx
  ·simp[h0] at hx
  ·simp[h0] at hx
  ·by_cases e:x=0
   ·subst e
    have:d=0:=Classical.byContradiction fun hd0=>hd.2 (.refl (fun e=>hd0 e.symm))
    subst this;exact .refl _
   ·simp[e] at hx
 refine ⟨hN,fun x hx hc=>?_,fun x hx h1=>?_,fun x hx=>PB.zero x⟩
 ·rcases hc with hc|hc
  ·have:x=0:=hV.inj x 0 hx hV.zmem (by rw[hV.zero];have:=(hV.pos x).1 hx;omega)
   simp[this]
  ·omega
 ·have:x=0:=hV.inj x 0 hx hV.zmem (by rw[hV.zero];have:=(hV.pos x).1 hx;omega)
  subst this;exact PB.root _
structure tm (S:Int→List Int) (at_:Int→Int) (V:List Int) (N:Int→Int):Prop where
 inv:jI S at_ V N
 has:∀x,x∈V→N x≠-1
 anc:∀x a,x∈V→(gQ N x a↔qV S a x)
theorem nI.exact (hV:tk S at_ V) {j:Nat} {t:Int} (h:nI S at_ V N j t) (hj:V.length≤j):tm S at_ V N:=by
 have h1:1≤j:=by
  have:0<V.length:=List.length_pos_of_mem hV.zmem
  omega
 refine ⟨h.inv,fun x hx=>h.has x hx (.inr h1),fun x a hx=>⟨fun ha=>?_,fun hd=>h.inv.dom x a (h.has x hx (.inr h1)) hd⟩⟩
 refine ⟨(hV.mem x).1 hx,fun hw=>?_⟩
 obtain ⟨k,hk,hb⟩:=gF.short at_ V.length V (fun y=>y≠a∧gF S (fun y=>y≠a) 0 y) 0 x rfl (fun y hy=>(hV.mem y).2 (hy.2.mono fun _ _=>trivial)) hw.self
 exact h.all x hx k (by omega) a ha (hb.mono fun y hy=>hy.1)
theorem tm.still (hV:tk S at_ V) (h:tm S at_ V N) (hM:iW S at_ V N b m):m=N b:=by
 have hb:=h.has b hM.mem
 obtain ⟨g1,g2,g3⟩:=h.inv.near b hM.ne hb
 have hl:=hM.lt h.inv
 have h1:gQ N m (N b):=(hM.anc _).2 fun p hp hpn=>by
  have hd:qV S (N b) b:=(h.anc b (N b) hM.mem).1 (.up hM.ne hb (.refl _))
  have hp2:=h.inv.mem p hpn
  exact (h.anc p (N b) hp2).2 (hd.pred ((hV.mem p).1 hp2) hp (fun e=>by rw[e] at g3;omega))
 have h2:gQ N b m:=(h.anc b m hM.mem).2 (qV.of_preds ((hV.mem b).1 hM.mem) hM.ne fun p hp he=>by
  have hp2:=(hV.mem p).2 hp
  exact (h.anc p m hp2).1 ((hM.anc m).1 (.refl _) p he (h.has p hp2)))
 rcases h2.cases' with e|⟨_,_,h3⟩
 ·rw[e] at hl;omega
 ·have l1:=(h.inv.anc hM.has h1).2.1
  exact h.inv.antisymm hV g2 h3 (by omega)
end
end
section
def gi (l:List Int) (x:Int):Int:=if 0≤x then (l[x.toNat]?).getD (-1) else -1
theorem IG {l:List Int} {x:Int} (h0:0≤x) (h:x.toNat<l.length):l[x.toNat]?=some (gi l x):=by
 unfold gi;rw[if_pos h0,List.getElem?_eq_getElem h];rfl
theorem vh {l:List Int} {b:Int} (h0:0≤b) (h:b.toNat<l.length) (m:Int):gi (l.set b.toNat m)=gZ (gi l) b m:=by
 funext x
 unfold gi gZ
 by_cases hx:0≤x
 ·rw[if_pos hx]
  by_cases e:x=b
  ·subst e;rw[if_pos rfl,List.getElem?_set_self h];rfl
  ·rw[if_neg e,List.getElem?_set_ne (by omega)];dsimp only;rw[if_pos hx]
 ·rw[if_neg hx,if_neg (by omega)];dsimp only;rw[if_neg hx]
theorem Dy {l:List Int} {b:Int} (h0:0≤b):l.set b.toNat (gi l b)=l:=by
 by_cases h:b.toNat<l.length
 ·have:=IG h0 h
  refine List.ext_getElem? fun k=>?_
  by_cases e:k=b.toNat
  ·subst e;rw[List.getElem?_set_self h,this]
  ·rw[List.getElem?_set_ne (fun e2=>e e2.symm)]
 ·exact List.set_eq_of_length_le (by omega)
def jK (n:Nat) (V:List Int):List Int:=(V.zipIdx).foldl (fun l p=>l.set p.1.toNat (p.2:Int)) (List.replicate n (-1))
def lD (at_:List Int) (K:Nat) (preds:Int→List Int) (l:List Int) (b:Int):List Int:=l.set b.toNat (jJ (gi l) (gi at_) K (preds b) (-1))
def Dz (at_:List Int) (K:Nat) (preds:Int→List Int) (V:List Int) (l:List Int):List Int:=V.tail.foldl (lD at_ K preds) l
def passN (at_:List Int) (K:Nat) (preds:Int→List Int) (V:List Int) (l:List Int):Nat→List Int
 |0=>l
 |k+1=>Dz at_ K preds V (passN at_ K preds V l k)
def gR (n:Nat):List Int:=(List.replicate n (-1)).set 0 0
structure nJ (S:Int→List Int) (at_:List Int) (V:List Int) (preds:Int→List Int) (n:Nat):Prop where
 ord:tk S (gi at_) V
 lt:∀b∈V,b<n
 row:∀(k:Nat),k<V.length→gi at_ (V[k]?.getD 0)=k
 preds:∀b∈V,∀p,p∈preds b↔b∈S p
section
variable {S:Int→List Int} {at_ V:List Int} {preds:Int→List Int} {n:Nat}
theorem nJ.pos (h:nJ S at_ V preds n):0<V.length:=List.length_pos_of_mem h.ord.zmem
theorem nJ.at_lt (h:nJ S at_ V preds n) {b:Int} (hb:b∈V):∃k,k<V.length∧V[k]?=some b∧gi at_ b=k:=by
 obtain ⟨k,hk,e⟩:=List.mem_iff_getElem.1 hb
 have:=h.row k hk
 rw[List.getElem?_eq_getElem hk] at this
 exact ⟨k,hk,by rw[List.getElem?_eq_getElem hk,e],by rw[←e];exact this⟩
theorem nJ.K (h:nJ S at_ V preds n):∀a b,a∈V→b∈V→gi at_ a+gi at_ b<((2*V.length:Nat):Int):=fun a b ha hb=>by
 obtain ⟨j,hj,_,e1⟩:=h.at_lt ha
 obtain ⟨k,hk,_,e2⟩:=h.at_lt hb
 rw[e1,e2];omega
theorem nJ.meets (h:nJ S at_ V preds n) {l:List Int} {j:Nat} {b:Int} (hR:nI S (gi at_) V (gi l) j (gi at_ b)) (hb:b∈V) (h0:b≠0):iW S (gi at_) V (gi l) b (jJ (gi l) (gi at_) (2*V.length) (preds b) (-1)):=by
 obtain ⟨p,h1,h2,h3⟩:=h.ord.fwd b hb h0
 have hp:=hR.has p h1 (.inl h3)
 obtain ⟨g1,g2⟩:=qX h.ord hR.inv h.K (preds b) ⟨p,(h.preds b hb p).2 h2,hp⟩
 exact ⟨hb,h0,g1,fun x=>(g2 x).trans ⟨fun hh q hq=>hh q ((h.preds b hb q).2 hq),fun hh q hq=>hh q ((h.preds b hb q).1 hq)⟩,p,h2,hp,h3⟩
theorem nJ.step (h:nJ S at_ V preds n) {l:List Int} {j k:Nat} {b:Int} (hl:l.length=n) (hk:0<k) (hb:V[k]?=some b) (hR:nI S (gi at_) V (gi l) j k) :
  nI S (gi at_) V (gi (lD at_ (2*V.length) preds l b)) j ((k+1:Nat):Int)∧(V.length≤j→lD at_ (2*V.length) preds l b=l)∧gi at_ b=k∧b∈V∧b≠0:=by
 obtain ⟨hk2,e⟩:=List.getElem?_eq_some_iff.1 hb
 have hbm:b∈V:=e▸List.getElem_mem hk2
 have hat:gi at_ b=k:=by have:=h.row k hk2;rw[hb] at this;exact this
 have hb0:b≠0:=fun e2=>by rw[e2,h.ord.zero] at hat;omega
 have hnn:=h.ord.nn b hbm
 have hblt:=h.lt b hbm
 rw[←hat] at hR
 have hM:=h.meets hR hbm hb0
 have hset:=vh (l:=l) hnn (by omega) (jJ (gi l) (gi at_) (2*V.length) (preds b) (-1))
 refine ⟨?_,fun hj=>?_,hat,hbm,hb0⟩
 ·have:=hR.step h.ord hM
  unfold lD
  rw[hset]
  rw[hat] at this
  exact this
 ·have:=(hR.exact h.ord hj).still h.ord hM
  unfold lD
  rw[this,Dy hnn]
theorem qY (K:Nat) (l:List Int) (b:Int):(lD at_ K preds l b).length=l.length:=by unfold lD;rw[List.length_set]
theorem tn (K:Nat):∀(bs:List Int) (l:List Int),(bs.foldl (lD at_ K preds) l).length=l.length
 |[],_=>rfl
 |b::bs,l=>by rw[List.foldl_cons,tn K bs,qY]
theorem nJ.fold (h:nJ S at_ V preds n) {j:Nat}:∀(bs:List Int) (k:Nat) (l:List Int),l.length=n→0<k→V.drop k=bs→nI S (gi at_) V (gi l) j k →
  nI S (gi at_) V (gi (bs.foldl (lD at_ (2*V.length) preds) l)) j ((max k V.length:Nat):Int)
 |[],k,l,hl,hk,hd,hR=>by
  have:V.length≤k:=by have:=congrArg List.length hd;simp at this;omega
  rw[Nat.max_eq_left this];exact hR
 |b::bs,k,l,hl,hk,hd,hR=>by
  have hk2:k<V.length:=by have:=congrArg List.length hd;simp at this;omega
  have hb:V[k]?=some b:=by have:=congrArg (fun z:List Int=>z[0]?) hd;simpa using this
  have:=nJ.fold h bs (k+1) _ (by rw[qY,hl]) (by omega) (by rw[←List.drop_drop,hd];rfl) (h.step hl hk hb hR).1
  rw[List.foldl_cons]
  rwa [show max (k+1) V.length=max k V.length by omega] at this
theorem nJ.pass (h:nJ S at_ V preds n) {j:Nat} {l:List Int} (hl:l.length=n) (hR:nI S (gi at_) V (gi l) j 1):nI S (gi at_) V (gi (Dz at_ (2*V.length) preds V l)) (j+1) 1:=by
 have h1:=h.fold (j:=j) V.tail 1 l hl (by omega) (by rw[List.drop_one]) hR
 refine h1.next h.ord fun x hx=>?_
 obtain ⟨k,hk,_,e⟩:=h.at_lt hx
 rw[e]
 have:=h.pos
 omega
theorem BV (K:Nat) (l:List Int):(Dz at_ K preds V l).length=l.length:=tn K _ _
theorem qZ (K:Nat) (l:List Int):∀k,(passN at_ K preds V l k).length=l.length
 |0=>rfl
 |k+1=>by rw[passN,BV,qZ K l k]
theorem ov (hn:0<n):gi (gR n)=fun x=>if x=0 then 0 else -1:=by
 funext x
 unfold gR
 have:=vh (l:=List.replicate n (-1)) (b:=0) (by omega) (by simp;exact hn) 0
 rw[show (0:Int).toNat=0 from rfl] at this
 rw[this]
 unfold gZ
 split
 ·rfl
 ·unfold gi
  split
  ·rw[List.getElem?_replicate];split<;>rfl
  ·rfl
theorem nJ.npos (h:nJ S at_ V preds n):0<n:=by have:=h.lt 0 h.ord.zmem;omega
theorem nJ.begin (h:nJ S at_ V preds n):nI S (gi at_) V (gi (gR n)) 0 1:=by
 rw[ov h.npos];exact nI.first h.ord
theorem nJ.passN (h:nJ S at_ V preds n):∀k,nI S (gi at_) V (gi (passN at_ (2*V.length) preds V (gR n) k)) k 1
 |0=>h.begin
 |k+1=>h.pass (by rw[qZ];simp[gR]) (h.passN k)
def Ij (at_:List Int) (V:List Int) (preds:Int→List Int) (n:Nat):List Int:=Go.Proofs.YtjpnhkmfhlnpcaaGreatDoor.passN at_ (2*V.length) preds V (gR n) V.length
theorem nJ.near (h:nJ S at_ V preds n):tm S (gi at_) V (gi (Ij at_ V preds n)):=(h.passN V.length).exact h.ord (Nat.le_refl _)
end
end
section
abbrev FZ:=List Bool × List Int × List (Int × Nat)
def gb (l:List Bool) (x:Int):Bool:=(l[x.toNat]?).getD false
def ge (l:List Int) (k:Nat):Int:=(l[k]?).getD 0
def re (E:Int→List Int):FZ→FZ
 |(seen,out,[])=>(seen,out,[])
 |(seen,out,(b,k)::r)=>if k=(E b).length then (seen,out++[b],r) else
   if gb seen (ge (E b) k) then (seen,out,(b,k+1)::r) else (seen.set (ge (E b) k).toNat true,out,(ge (E b) k,0)::(b,k+1)::r)
theorem kX (E:Int→List Int) (seen:List Bool) (out:List Int) (b:Int) (k:Nat) (r:List (Int × Nat)):re E (seen,out,(b,k)::r)=if k=(E b).length then (seen,out++[b],r) else
   if gb seen (ge (E b) k) then (seen,out,(b,k+1)::r) else (seen.set (ge (E b) k).toNat true,out,(ge (E b) k,0)::(b,k+1)::r):=rfl
def ow (n:Nat):FZ:=((List.replicate n false).set 0 true,[],[(0,0)])
def dW (E:Int→List Int) (n:Nat):Nat→FZ
 |0=>ow n
 |k+1=>re E (dW E n k)
def aK (E:Int→List Int) (n:Nat):List Int:=(dW E n (4*n)).2.1.reverse
structure EOk (E:Int→List Int) (n:Nat):Prop where
 npos:0<n
 rng:∀b:Int,0≤b→b<n→∀c∈E b,0≤c∧c<n
 len:∀b,(E b).length≤2
def DA (E:Int→List Int):List Int→List Int→Prop
 |[],_=>True
 |v::r,s=>(v=0∨∃p,v∈E p∧(p∈r∨p∈s))∧DA E r s
structure p8 (E:Int→List Int) (n:Nat) (x:FZ):Prop where
 len:x.1.length=n
 rng:∀v,v∈x.2.1++x.2.2.map Prod.fst→0≤v∧v<n
 seen:∀v,0≤v→(gb x.1 v=true↔v∈x.2.1++x.2.2.map Prod.fst)
 nodup:(x.2.1++x.2.2.map Prod.fst).Nodup
 rch:∀v,v∈x.2.1++x.2.2.map Prod.fst→tj E v
 done:∀b∈x.2.1,∀c∈E b,c∈x.2.1++x.2.2.map Prod.fst
 part:∀q∈x.2.2,q.2≤(E q.1).length∧∀i,i<q.2→ge (E q.1) i∈x.2.1++x.2.2.map Prod.fst
 led:DA E (x.2.1++x.2.2.map Prod.fst) []
 last:(x.2.1++x.2.2.map Prod.fst).getLast?=some 0
theorem wT {E:Int→List Int}:∀{l r s:List Int},DA E (l++r) s↔DA E l (r++s)∧DA E r s
 |[],r,s=>by simp[DA]
 |v::l,r,s=>by
  rw[List.cons_append,DA,DA,wT (l:=l)]
  constructor
  ·rintro ⟨h,h1,h2⟩
   refine ⟨⟨?_,h1⟩,h2⟩
   rcases h with h|⟨p,h,h3⟩
   ·exact .inl h
   ·exact .inr ⟨p,h,by simp only[List.mem_append] at h3 ⊢;rcases h3 with (h3|h3)|h3<;>simp[h3]⟩
  ·rintro ⟨⟨h,h1⟩,h2⟩
   refine ⟨?_,h1,h2⟩
   rcases h with h|⟨p,h,h3⟩
   ·exact .inl h
   ·exact .inr ⟨p,h,by simp only[List.mem_append] at h3 ⊢;rcases h3 with h3|h3|h3<;>simp[h3]⟩
theorem DB {l:List Bool} {v:Int} (h0:0≤v) (hl:v.toNat<l.length) {x:Int} (hx:0≤x):gb (l.set v.toNat true) x=true↔x=v∨gb l x=true:=by
 unfold gb
 by_cases e:x=v
 ·subst e;rw[List.getElem?_set_self hl];simp
 ·rw[List.getElem?_set_ne (by omega)];simp[e]
theorem p8.begin {E:Int→List Int} {n:Nat} (hE:EOk E n):p8 E n (ow n):=by
 have hn:=hE.npos
 refine ⟨by simp[ow],fun v hv=>?_,fun v hv=>?_,by simp[ow],fun v hv=>?_,fun b hb=>by simp[ow] at hb,fun q hq=>?_,⟨.inl rfl,trivial⟩,rfl⟩
 ·simp[ow] at hv;omega
 ·have:=DB (l:=List.replicate n false) (v:=0) (by omega) (by simp;exact hn) hv
  show gb ((List.replicate n false).set 0 true) v=true↔v∈[]++[0]
  rw[show (0:Int).toNat=0 from rfl] at this
  rw[this]
  have h2:gb (List.replicate n false) v=false:=by unfold gb;rw[List.getElem?_replicate];split<;>rfl
  simp[h2]
 ·simp[ow] at hv;subst hv;exact .refl trivial
 ·simp[ow] at hq;subst hq;exact ⟨Nat.zero_le _,fun i hi=>by omega⟩
theorem p8.step {E:Int→List Int} {n:Nat} (hE:EOk E n) {x:FZ} (h:p8 E n x):p8 E n (re E x):=by
 obtain ⟨seen,out,st⟩:=x
 cases st with
 |nil=>exact h
 |cons q r=>
  obtain ⟨b,k⟩:=q
  obtain ⟨hlen,hrng,hseen,hnd,hrch,hdone,hpart,hled,hlast⟩:=h
  dsimp only at hlen hrng hseen hnd hrch hdone hpart hled hlast
  rw[List.map_cons] at hrng hseen hnd hrch hdone hpart hled hlast
  have hb:=hpart (b,k) (.head _)
  dsimp only at hb
  rw[kX]
  by_cases hk:k=(E b).length
  ·rw[if_pos hk]
   have e:(out++[b])++r.map Prod.fst=out++b::r.map Prod.fst:=by simp
   refine ⟨hlen,?_,?_,?_,?_,?_,?_,?_,?_⟩<;>dsimp only<;>rw[e]
   ·exact hrng
   ·exact hseen
   ·exact hnd
   ·exact hrch
   ·intro c hc
    rcases List.mem_append.1 hc with hc|hc
    ·exact hdone c hc
    ·obtain rfl:=List.mem_singleton.1 hc
     intro d hd
     obtain ⟨i,hi,rfl⟩:=List.mem_iff_getElem.1 hd
     have:=hb.2 i (by omega)
     unfold ge at this
     rwa [List.getElem?_eq_getElem hi] at this
   ·exact fun q hq=>hpart q (.tail _ hq)
   ·exact hled
   ·exact hlast
  ·rw[if_neg hk]
   have hk2:k<(E b).length:=by omega
   have hge:ge (E b) k=(E b)[k]:=by unfold ge;rw[List.getElem?_eq_getElem hk2];rfl
   have hmem:ge (E b) k∈E b:=hge▸List.getElem_mem hk2
   obtain ⟨c,hc⟩:∃c,ge (E b) k=c:=⟨_,rfl⟩
   rw[hc] at hmem ⊢
   have hbr:=hrng b (by simp)
   have hcr:=hE.rng b hbr.1 hbr.2 c hmem
   by_cases hs:gb seen c=true
   ·rw[if_pos hs]
    refine ⟨hlen,?_,?_,?_,?_,?_,fun q hq=>?_,?_,?_⟩<;>dsimp only<;>rw[List.map_cons]
    ·exact hrng
    ·exact hseen
    ·exact hnd
    ·exact hrch
    ·exact hdone
    ·rcases List.mem_cons.1 hq with rfl|hq
     ·refine ⟨hk2,fun i hi=>?_⟩
      by_cases e:i=k
      ·subst e;dsimp only;rw[hc];exact (hseen c hcr.1).1 hs
      ·exact hb.2 i (by dsimp only at hi;omega)
     ·exact hpart q (.tail _ hq)
    ·exact hled
    ·exact hlast
   ·rw[if_neg hs]
    have hnm:c ∉ out++b::r.map Prod.fst:=fun hm=>hs ((hseen c hcr.1).2 hm)
    have hmm:∀v,v∈out++(c::b::r.map Prod.fst)↔v=c∨v∈out++b::r.map Prod.fst:=fun v=>by
     simp only[List.mem_append,List.mem_cons]
     constructor
     ·rintro (h|h|h|h)<;>simp[h]
     ·rintro (h|h|h|h)<;>simp[h]
    refine ⟨by dsimp only;rw[List.length_set];exact hlen,?_,fun v hv=>?_,?_,?_,?_,fun q hq=>?_,?_,?_⟩<;>dsimp only<;>rw[List.map_cons,List.map_cons]
    ·intro v hv
     rcases (hmm v).1 hv with rfl|hv
     ·exact hcr
     ·exact hrng v hv
    ·rw[DB hcr.1 (by omega) hv,hmm,hseen v hv]
    ·have:(out++c::b::r.map Prod.fst).Perm (c::(out++b::r.map Prod.fst)):=List.perm_middle
     rw[this.nodup_iff,List.nodup_cons]
     exact ⟨hnm,hnd⟩
    ·intro v hv
     rcases (hmm v).1 hv with rfl|hv
     ·exact .step (hrch b (by simp)) hmem trivial
     ·exact hrch v hv
    ·exact fun a ha d hd=>(hmm d).2 (.inr (hdone a ha d hd))
    ·rcases List.mem_cons.1 hq with rfl|hq
     ·exact ⟨Nat.zero_le _,fun i hi=>by dsimp only at hi;omega⟩
     ·rcases List.mem_cons.1 hq with rfl|hq
      ·refine ⟨hk2,fun i hi=>(hmm _).2 ?_⟩
       by_cases e:i=k
       ·subst e;left;exact hc
       ·exact .inr (hb.2 i (by dsimp only at hi;omega))
      ·exact ⟨(hpart q (.tail _ hq)).1,fun i hi=>(hmm _).2 (.inr ((hpart q (.tail _ hq)).2 i hi))⟩
    ·rw[wT] at hled ⊢
     refine ⟨?_,.inr ⟨b,hmem,.inl (.head _)⟩,hled.2⟩
     have weak:∀(l s t:List Int),(∀x∈s,x∈t)→DA E l s→DA E l t:=fun l s t hst=>by
      induction l with
      |nil=>exact fun _=>trivial
      |cons v l ih=>
       rintro ⟨h1,h2⟩
       refine ⟨?_,ih h2⟩
       rcases h1 with h1|⟨p,h1,h3⟩
       ·exact .inl h1
       ·exact .inr ⟨p,h1,h3.imp id (hst p)⟩
     exact weak _ _ _ (fun x hx=>by simp only[List.append_nil] at hx ⊢;exact .tail _ hx) hled.1
    ·rw[List.getLast?_append,List.getLast?_cons_cons]
     rw[List.getLast?_append] at hlast
     exact hlast
def lE (x:FZ):Nat:=4*(x.1.filter (fun b=>!b)).length+(x.2.2.map fun q=>3 - q.2).sum
theorem iG:∀(l:List Bool) (i:Nat),l[i]?=some false→((l.set i true).filter (fun b=>!b)).length+1=(l.filter (fun b=>!b)).length
 |[],i,h=>by simp at h
 |b::l,0,h=>by simp at h;subst h;simp
 |b::l,i+1,h=>by
  have:=iG l i (by simpa using h)
  cases b<;>simp<;>omega
theorem p8.less {E:Int→List Int} {n:Nat} (hE:EOk E n) {x:FZ} (h:p8 E n x) (hs:x.2.2≠[]):lE (re E x)<lE x:=by
 obtain ⟨seen,out,st⟩:=x
 cases st with
 |nil=>exact absurd rfl hs
 |cons q r=>
  obtain ⟨b,k⟩:=q
  have hb:=h.part (b,k) (.head _)
  have hl2:=hE.len b
  have hbr:=h.rng b (by simp)
  dsimp only at hb
  rw[kX]
  unfold lE
  by_cases hk:k=(E b).length
  ·rw[if_pos hk];simp;omega
  ·rw[if_neg hk]
   have hk2:k<(E b).length:=by omega
   have hge:ge (E b) k=(E b)[k]:=by unfold ge;rw[List.getElem?_eq_getElem hk2];rfl
   have hcr:=hE.rng b hbr.1 hbr.2 _ (hge▸List.getElem_mem hk2)
   split
   ·simp;omega
   ·rename_i hg
    have hlt:(ge (E b) k).toNat<seen.length:=by have:=h.len;dsimp only at this;omega
    have:=iG seen (ge (E b) k).toNat (by
     unfold gb at hg
     rw[List.getElem?_eq_getElem hlt] at hg ⊢
     simpa using hg)
    simp;omega
theorem mj {E:Int→List Int} {x:FZ} (h:x.2.2=[]):re E x=x:=by
 obtain ⟨seen,out,st⟩:=x
 dsimp only at h
 subst h;rfl
section
variable {E:Int→List Int} {n:Nat} (hE:EOk E n)
include hE
theorem d7:∀k,p8 E n (dW E n k)
 |0=>p8.begin hE
 |k+1=>(d7 k).step hE
theorem IH:lE (ow n)<4*n:=by
 have hn:=hE.npos
 have:=iG (List.replicate n false) 0 (by rw[List.getElem?_replicate,if_pos hn])
 have h2:((List.replicate n false).filter fun b=>!b).length=n:=by simp
 unfold lE ow
 simp at this ⊢
 omega
theorem ox:∀k,(dW E n k).2.2=[]∨lE (dW E n k)+k<4*n
 |0=>.inr (by have:=IH hE;simpa [dW] using this)
 |k+1=>by
  rcases ox k with h|h
  ·left;rw[dW,mj h];exact h
  ·by_cases hs:(dW E n k).2.2=[]
   ·left;rw[dW,mj hs];exact hs
   ·right
    have:=(d7 hE k).less hE hs
    rw[dW];omega
theorem nK:(dW E n (4*n)).2.2=[]:=by
 rcases ox hE (4*n) with h|h
 ·exact h
 ·omega
omit hE in
theorem BW {k:Nat} (h:(dW E n k).2.2=[]) (hk:k≤4*n):dW E n (4*n)=dW E n k:=by
 have:∀j,dW E n (k+j)=dW E n k:=fun j=>by
  induction j with
  |zero=>rfl
  |succ j ih=>rw[←Nat.add_assoc,dW,ih,mj h]
 have h2:=this (4*n - k)
 rwa [show k+(4*n - k)=4*n by omega] at h2
theorem el (v:Int):v∈aK E n↔tj E v:=by
 have h:=d7 hE (4*n)
 have he:=nK hE
 unfold aK
 obtain ⟨hlen,hrng,hseen,hnd,hrch,hdone,hpart,hled,hlast⟩:=h
 rw[he] at hrng hseen hnd hrch hdone hpart hled hlast
 simp only[List.map_nil,List.append_nil] at hrng hseen hnd hrch hdone hpart hled hlast
 rw[List.mem_reverse]
 refine ⟨hrch v,fun hr=>?_⟩
 unfold tj at hr
 induction hr with
 |refl _=>exact List.mem_of_getLast? hlast
 |step _ h1 _ ih=>exact hdone _ ih _ h1
theorem bm {v:Int} (hv:v∈aK E n):0≤v∧v<n:=by
 have h:=(d7 hE (4*n)).rng
 exact h v (List.mem_append_left _ (by unfold aK at hv;exact List.mem_reverse.1 hv))
theorem jL:(aK E n).Nodup:=by
 have h:=(d7 hE (4*n)).nodup
 rw[nK hE] at h
 unfold aK
 rw[(List.reverse_perm _).nodup_iff]
 simpa using h
theorem oy:(aK E n)[0]?=some 0:=by
 have h:=(d7 hE (4*n)).last
 rw[nK hE] at h
 unfold aK
 rw[←List.head?_eq_getElem?,List.head?_reverse]
 simpa using h
theorem ml (k:Nat) (v:Int) (hk:(aK E n)[k]?=some v) (h0:v≠0):∃(j:Nat) (p:Int),j<k∧(aK E n)[j]?=some p∧v∈E p:=by
 have h:=(d7 hE (4*n)).led
 rw[nK hE] at h
 simp only[List.map_nil,List.append_nil] at h
 unfold aK at hk ⊢
 generalize (dW E n (4*n)).2.1=out at h hk ⊢
 have key:∀(out:List Int),DA E out []→∀k,out.reverse[k]?=some v→∃(j:Nat) (p:Int),j<k∧out.reverse[j]?=some p∧v∈E p:=fun out=>by
  induction out with
  |nil=>intro _ k hk;simp at hk
  |cons w out ih=>
   rintro ⟨h1,h2⟩ k hk
   rw[List.reverse_cons] at hk ⊢
   by_cases hlt:k<out.reverse.length
   ·rw[List.getElem?_append_left hlt] at hk
    obtain ⟨j,p,h3,h4,h5⟩:=ih h2 k hk
    exact ⟨j,p,h3,by rw[List.getElem?_append_left (by omega)];exact h4,h5⟩
   ·rw[List.getElem?_append_right (by omega)] at hk
    have hk0:k=out.reverse.length∧w=v:=by
     cases hq:k - out.reverse.length with
     |zero=>rw[hq] at hk;simp at hk;exact ⟨by omega,hk⟩
     |succ q=>rw[hq] at hk;simp at hk
    obtain ⟨rfl,rfl⟩:=hk0
    rcases h1 with h1|⟨p,h1,h3⟩
    ·exact absurd h1 h0
    ·have h3:p∈out.reverse:=by simpa using h3
     obtain ⟨j,hj,e⟩:=List.mem_iff_getElem.1 h3
     exact ⟨j,p,hj,by rw[List.getElem?_append_left hj,List.getElem?_eq_getElem hj,e],h1⟩
 exact key out h k hk
end
end
section
end
section
def dJ (n:Nat):List Int:=(List.range n).map Int.ofNat
theorem kY {n k:Nat} (h:k<n):(dJ n)[k]?=some (k:Int):=by unfold dJ;rw[List.getElem?_map,List.getElem?_range h];rfl
theorem eY (n:Nat):(dJ n).length=n:=by simp[dJ]
theorem iH {n:Nat} {x:Int}:x∈dJ n↔0≤x∧x<n:=by
 unfold dJ
 rw[List.mem_map]
 constructor
 ·rintro ⟨k,hk,rfl⟩;have:=List.mem_range.1 hk;exact ⟨Int.natCast_nonneg k,Int.ofNat_lt.2 this⟩
 ·rintro ⟨h0,h1⟩;exact ⟨x.toNat,List.mem_range.2 (by omega),Int.toNat_of_nonneg h0⟩
theorem tp (n:Nat):dJ (n+1)=dJ n++[(n:Int)]:=by unfold dJ;rw[List.range_succ,List.map_append];rfl
def bE (E:Int→List Int) (n:Nat) (b:Int):List Int:=(dJ n).flatMap fun i=>((E i).filter fun c=>decide (c=b)).map fun _=>i
theorem bW {E:Int→List Int} {n:Nat} {b p:Int} (hE:EOk E n) (ho:∀x:Int,¬(0≤x∧x<n)→E x=[]):p∈bE E n b↔b∈E p:=by
 unfold bE
 rw[List.mem_flatMap]
 constructor
 ·rintro ⟨i,hi,h⟩
  obtain ⟨c,hc,rfl⟩:=List.mem_map.1 h
  obtain ⟨h1,h2⟩:=List.mem_filter.1 hc
  have h2:c=b:=by simpa using h2
  exact h2▸h1
 ·intro h
  have hp:0≤p∧p<n:=Classical.byContradiction fun hn=>by rw[ho p hn] at h;cases h
  exact ⟨p,iH.2 hp,List.mem_map.2 ⟨b,List.mem_filter.2 ⟨h,by simp⟩,rfl⟩⟩
theorem vj {l:List Int} {b:Int} (h0:0≤b) (h:b.toNat<l.length) (m x:Int):gi (l.set b.toNat m) x=if x=b then m else gi l x:=by rw[vh h0 h];rfl
theorem oz (n:Nat):∀(W:List Int) (i:Nat) (l:List Int),l.length=n→W.Nodup→(∀b∈W,0≤b∧b<n) →
  ((W.zipIdx i).foldl (fun l p=>l.set p.1.toNat (p.2:Int)) l).length=n∧(∀(k:Nat) b,W[k]?=some b→gi ((W.zipIdx i).foldl (fun l p=>l.set p.1.toNat (p.2:Int)) l) b=((i+k:Nat):Int)) ∧
  ∀b,b ∉ W→gi ((W.zipIdx i).foldl (fun l p=>l.set p.1.toNat (p.2:Int)) l) b=gi l b
 |[],i,l,hl,_,_=>⟨hl,fun k b h=>by simp at h,fun b _=>rfl⟩
 |v::W,i,l,hl,hW,hr=>by
  rw[List.zipIdx_cons,List.foldl_cons]
  rw[List.nodup_cons] at hW
  have hv:=hr v (.head _)
  obtain ⟨g1,g2,g3⟩:=oz n W (i+1) (l.set v.toNat (i:Int)) (by rw[List.length_set];exact hl) hW.2 fun b hb=>hr b (.tail _ hb)
  refine ⟨g1,fun k b h=>?_,fun b hb=>?_⟩
  ·cases k with
   |zero=>
    simp at h;subst h
    rw[g3 _ hW.1,vj hv.1 (by omega),if_pos rfl];rfl
   |succ k=>
    rw[g2 k b (by simpa using h)];omega
  ·rw[g3 b (fun h=>hb (.tail _ h)),vj hv.1 (by omega),if_neg (fun e=>hb (by rw[e];exact .head _))]
theorem II (n:Nat) (x:Int):gi (List.replicate n (-1)) x=-1:=by
 unfold gi;split
 ·rw[List.getElem?_replicate];split<;>rfl
 ·rfl
structure g6 (E:Int→List Int) (n:Nat):Prop extends EOk E n where
 out:∀x:Int,¬(0≤x∧x<n)→E x=[]
section
variable {E:Int→List Int} {n:Nat} (hE:g6 E n)
include hE
theorem jM {k:Nat} {b:Int} (h:(aK E n)[k]?=some b):gi (jK n (aK E n)) b=k:=by
 have:=(oz n (aK E n) 0 (List.replicate n (-1)) (by simp) (jL hE.toEOk) fun b hb=>bm hE.toEOk hb).2.1 k b h
 rw[Nat.zero_add] at this
 exact this
theorem wU {b:Int} (h:b ∉ aK E n):gi (jK n (aK E n)) b=-1:=by
 have:=(oz n (aK E n) 0 (List.replicate n (-1)) (by simp) (jL hE.toEOk) fun b hb=>bm hE.toEOk hb).2.2 b h
 rw[II] at this
 exact this
theorem g6.gok:nJ E (jK n (aK E n)) (aK E n) (bE E n) n:=by
 have hpos:∀b,b∈aK E n↔0≤gi (jK n (aK E n)) b:=fun b=>by
  constructor
  ·intro hb
   obtain ⟨k,hk,e⟩:=List.mem_iff_getElem.1 hb
   rw[jM hE (k:=k) (by rw[List.getElem?_eq_getElem hk,e])];omega
  ·intro h
   refine Classical.byContradiction fun hb=>?_
   rw[wU hE hb] at h;omega
 refine ⟨⟨el hE.toEOk,hpos,fun a b ha hb e=>?_,jM hE (k:=0) (oy hE.toEOk),fun b hb h0=>?_,fun b hb=>wU hE hb,fun b hb=>(bm hE.toEOk hb).1⟩,fun b hb=>(bm hE.toEOk hb).2,fun k hk=>?_,fun b _ p=>bW hE.toEOk hE.out⟩
 ·obtain ⟨j,hj,e1⟩:=List.mem_iff_getElem.1 ha
  obtain ⟨k,hk,e2⟩:=List.mem_iff_getElem.1 hb
  rw[jM hE (k:=j) (by rw[List.getElem?_eq_getElem hj,e1]),jM hE (k:=k) (by rw[List.getElem?_eq_getElem hk,e2])] at e
  have:j=k:=by omega
  subst this
  rw[←e1,←e2]
 ·obtain ⟨k,hk,e⟩:=List.mem_iff_getElem.1 hb
  obtain ⟨j,p,h1,h2,h3⟩:=ml hE.toEOk k b (by rw[List.getElem?_eq_getElem hk,e]) h0
  refine ⟨p,?_,h3,?_⟩
  ·obtain ⟨hj,e2⟩:=List.getElem?_eq_some_iff.1 h2
   exact e2▸List.getElem_mem hj
  ·rw[jM hE h2,jM hE (k:=k) (by rw[List.getElem?_eq_getElem hk,e])];omega
 ·rw[List.getElem?_eq_getElem hk]
  exact jM hE (List.getElem?_eq_getElem hk)
end
def fq (E:Int→List Int) (n:Nat):List Int:=Ij (jK n (aK E n)) (aK E n) (bE E n) n
def BX (N l:List Int) (b:Int):List Int:=l.set b.toNat (gi l (gi N b)+1)
def r7 (E:Int→List Int) (n:Nat):List Int:=(aK E n).tail.foldl (BX (fq E n)) (gR n)
theorem DC (N l:List Int) (b:Int):(BX N l b).length=l.length:=by unfold BX;rw[List.length_set]
section
variable {E:Int→List Int} {n:Nat} (hE:g6 E n)
include hE
theorem g6.exact:tm E (gi (jK n (aK E n))) (aK E n) (gi (fq E n)):=hE.gok.near
theorem g6.near_mem {b:Int} (hb:b∈aK E n) (h0:b≠0):gi (fq E n) b∈aK E n∧gi (jK n (aK E n)) (gi (fq E n) b)<gi (jK n (aK E n)) b:=by
 have:=hE.exact.inv.near b h0 (hE.exact.has b hb)
 exact ⟨this.1,this.2.2⟩
structure nk (E:Int→List Int) (n:Nat) (l:List Int) (k:Nat):Prop where
 len:l.length=n
 zero:gi l 0=0
 row:∀b∈aK E n,b≠0→gi (jK n (aK E n)) b<k→gi l b=gi l (gi (fq E n) b)+1∧0≤gi l b
 none:∀b,(b∈aK E n→(k:Int)≤gi (jK n (aK E n)) b)→b≠0→gi l b=-1
omit hE in
theorem vk (n:Nat):(gR n).length=n:=by simp[gR]
theorem nk.first:nk E n (gR n) 1:=by
 have hn:=hE.npos
 refine ⟨vk n,by rw[ov hn];rfl,fun b hb h0 hlt=>?_,fun b _ h0=>by rw[ov hn];simp[h0]⟩
 have h1:=hE.gok.ord
 have:b=0:=h1.inj b 0 hb h1.zmem (by rw[h1.zero];have:=(h1.pos b).1 hb;omega)
 exact absurd this h0
theorem nk.step {l:List Int} {k:Nat} {b:Int} (hk:0<k) (hb:(aK E n)[k]?=some b) (h:nk E n l k):nk E n (BX (fq E n) l b) (k+1):=by
 have ho:=hE.gok.ord
 obtain ⟨hk2,e⟩:=List.getElem?_eq_some_iff.1 hb
 have hbm:b∈aK E n:=e▸List.getElem_mem hk2
 have hat:=jM hE hb
 have hb0:b≠0:=fun e2=>by rw[e2,ho.zero] at hat;omega
 have hr:=bm hE.toEOk hbm
 have hnr:=hE.near_mem hbm hb0
 have hnb:gi (fq E n) b≠b:=fun e2=>by rw[e2] at hnr;omega
 have hlen:=h.len
 have hst:∀x,gi (BX (fq E n) l b) x=if x=b then gi l (gi (fq E n) b)+1 else gi l x:=fun x=>vj hr.1 (by omega) _ x
 refine ⟨by rw[DC];exact h.len,by rw[hst,if_neg hb0.symm];exact h.zero,fun x hx h0 hlt=>?_,fun x hx h0=>?_⟩
 ·by_cases ex:x=b
  ·subst ex
   rw[hst,if_pos rfl,hst,if_neg hnb]
   refine ⟨rfl,?_⟩
   by_cases hn0:gi (fq E n) x=0
   ·rw[hn0,h.zero];omega
   ·have:=(h.row _ hnr.1 hn0 (by omega)).2;omega
  ·have hlt2:gi (jK n (aK E n)) x<k:=by
    have:gi (jK n (aK E n)) x≠gi (jK n (aK E n)) b:=fun e2=>ex (ho.inj x b hx hbm e2)
    omega
   have hnx:=hE.near_mem hx h0
   have hne:gi (fq E n) x≠b:=fun e2=>by rw[e2] at hnx;omega
   rw[hst,if_neg ex,hst,if_neg hne]
   exact h.row x hx h0 hlt2
 ·have ex:x≠b:=fun e2=>by subst e2;have:=hx hbm;omega
  rw[hst,if_neg ex]
  exact h.none x (fun hm=>by have:=hx hm;omega) h0
theorem nk.fold:∀(bs:List Int) (k:Nat) (l:List Int),0<k→(aK E n).drop k=bs→nk E n l k→nk E n (bs.foldl (BX (fq E n)) l) (max k (aK E n).length)
 |[],k,l,hk,hd,h=>by
  have:(aK E n).length≤k:=by have:=congrArg List.length hd;simp at this;omega
  rw[Nat.max_eq_left this];exact h
 |b::bs,k,l,hk,hd,h=>by
  have hk2:k<(aK E n).length:=by have:=congrArg List.length hd;simp at this;omega
  have hb:(aK E n)[k]?=some b:=by have:=congrArg (fun z:List Int=>z[0]?) hd;simpa using this
  have:=nk.fold bs (k+1) _ (by omega) (by rw[←List.drop_drop,hd];rfl) (h.step hE hk hb)
  rw[List.foldl_cons]
  rwa [show max (k+1) (aK E n).length=max k (aK E n).length by omega] at this
theorem g6.lev:nk E n (r7 E n) (aK E n).length:=by
 have:=nk.fold hE (aK E n).tail 1 _ (by omega) (by rw[List.drop_one]) (nk.first hE)
 rwa [Nat.max_eq_right hE.gok.pos] at this
theorem g6.at_lt {b:Int} (hb:b∈aK E n):gi (jK n (aK E n)) b<(aK E n).length:=by
 obtain ⟨k,hk,_,e⟩:=hE.gok.at_lt hb
 rw[e];omega
theorem g6.lev_near {b:Int} (hb:b∈aK E n) (h0:b≠0):gi (r7 E n) b=gi (r7 E n) (gi (fq E n) b)+1:=(hE.lev.row b hb h0 (hE.at_lt hb)).1
theorem g6.lev_nn {b:Int} (hb:b∈aK E n):0≤gi (r7 E n) b:=by
 by_cases h0:b=0
 ·rw[h0,hE.lev.zero];omega
 ·exact (hE.lev.row b hb h0 (hE.at_lt hb)).2
theorem g6.lev_none {b:Int} (hb:b ∉ aK E n):gi (r7 E n) b=-1:=hE.lev.none b (fun h=>absurd h hb) (fun e=>hb (by rw[e];exact hE.gok.ord.zmem))
theorem g6.lev_mem (b:Int):gi (r7 E n) b≠-1↔b∈aK E n:=by
 refine ⟨fun h=>Classical.byContradiction fun hb=>h (hE.lev_none hb),fun hb h=>?_⟩
 have:=hE.lev_nn hb;omega
theorem g6.dom_iff {a b:Int} (hb:b∈aK E n):qV E a b↔gQ (gi (fq E n)) b a:=(hE.exact.anc b a hb).symm
end
def r9 (N:List Int):Nat→Int→List Int
 |0,_=>[]
 |k+1,b=>b::if b=0 then[] else r9 N k (gi N b)
def IJ (E:Int→List Int) (n:Nat) (a b:Int):Bool:=decide (gi (r7 E n) b≠-1)&&(r9 (fq E n) n b).contains a
section
variable {E:Int→List Int} {n:Nat} (hE:g6 E n)
include hE
theorem mm {a:Int}:∀(k:Nat) (b:Int),b∈aK E n→gi (r7 E n) b<k→(a∈r9 (fq E n) k b↔gQ (gi (fq E n)) b a)
 |0,b,hb,hk=>by have:=hE.lev_nn hb;omega
 |k+1,b,hb,hk=>by
  unfold r9
  rw[List.mem_cons]
  by_cases h0:b=0
  ·rw[if_pos h0]
   constructor
   ·rintro (h|h)
    ·subst h;exact .refl _
    ·cases h
   ·intro h
    rcases h.cases' with e|⟨h1,_⟩
    ·exact .inl e
    ·exact absurd h0 h1
  ·rw[if_neg h0]
   have h1:=hE.near_mem hb h0
   have h2:=hE.lev_near hb h0
   rw[mm k _ h1.1 (by omega)]
   constructor
   ·rintro (h|h)
    ·subst h;exact .refl _
    ·exact .up h0 (hE.exact.has b hb) h
   ·intro h
    rcases h.cases' with e|⟨_,_,h3⟩
    ·exact .inl e
    ·exact .inr h3
theorem DD {b:Int} (hb:b∈aK E n):gi (r7 E n) b≤gi (jK n (aK E n)) b:=by
 obtain ⟨k,hk⟩:∃k:Nat,gi (jK n (aK E n)) b≤k:=⟨(gi (jK n (aK E n)) b).toNat,by omega⟩
 induction k generalizing b with
 |zero=>
  have ho:=hE.gok.ord
  have:b=0:=ho.inj b 0 hb ho.zmem (by rw[ho.zero];have:=(ho.pos b).1 hb;omega)
  rw[this,hE.lev.zero,ho.zero];omega
 |succ k ih=>
  by_cases h0:b=0
  ·rw[h0,hE.lev.zero,hE.gok.ord.zero];omega
  ·have h1:=hE.near_mem hb h0
   have h2:=hE.lev_near hb h0
   have:=ih h1.1 (by omega)
   omega
omit hE in
theorem mn:∀(l m:List Int),l.Nodup→(∀x∈l,x∈m)→l.length≤m.length
 |[],_,_,_=>Nat.zero_le _
 |x::l,m,h1,h2=>by
  rw[List.nodup_cons] at h1
  have hx:=h2 x (.head _)
  have:=mn l (m.erase x) h1.2 fun y hy=>(List.mem_erase_of_ne (fun e=>h1.1 (by rw[←e];exact hy))).2 (h2 y (.tail _ hy))
  have hp:=List.length_pos_of_mem hx
  rw[List.length_erase_of_mem hx] at this
  rw[List.length_cons];omega
theorem mo:(aK E n).length≤n:=by
 have h1:=jL hE.toEOk
 have h2:∀x∈aK E n,x∈dJ n:=fun x hx=>iH.2 (bm hE.toEOk hx)
 have:=mn _ _ h1 h2
 rwa [eY] at this
theorem g6.domB_iff (a b:Int):IJ E n a b=true↔qV E a b:=by
 unfold IJ
 rw[Bool.and_eq_true,decide_eq_true_iff,hE.lev_mem]
 constructor
 ·rintro ⟨hb,h⟩
  have h1:=DD hE hb
  have h2:=hE.at_lt hb
  have h3:=mo hE
  exact (hE.dom_iff hb).2 ((mm hE n b hb (by omega)).1 (by simpa using h))
 ·intro h
  have hb:=(el hE.toEOk b).2 h.1
  have h1:=DD hE hb
  have h2:=hE.at_lt hb
  have h3:=mo hE
  exact ⟨hb,by simpa using (mm hE n b hb (by omega)).2 ((hE.dom_iff hb).1 h)⟩
end
end
section
abbrev aP:=Nat→Option Obj
def aP.le (I J:aP):Prop:=∀b o,I b=some o→J b=some o
theorem aP.le.refl (I:aP):I.le I:=fun _ _ h=>h
theorem aP.le.trans {I J K:aP} (h:I.le J) (k:J.le K):I.le K:=fun b o hb=>k b o (h b o hb)
def aP.put (I:aP) (b:Nat) (o:Obj):aP:=fun x=>if x=b then some o else I x
theorem aP.put_same (I:aP) (b:Nat) (o:Obj):I.put b o b=some o:=by simp[aP.put]
theorem aP.le_put {I:aP} {b:Nat} {o:Obj} (h:I b=none):I.le (I.put b o):=fun x o' hx=>by
 unfold aP.put;split
 ·rename_i e;subst e;rw[h] at hx;cases hx
 ·exact hx
def tq:Obj→Prop
 |.cells _ _ f=>f=(0,0)
 |_=>True
structure SL (I:aP) (O:List (Nat × Obj)) (E:World) (w:World):Prop where
 os:w.os=E.os
 output:w.output=E.output
 tape:w.tape=E.tape
 pers:∀b o,I b=some o→w.heap[b]?=some o
 own:∀x∈O,w.heap[x.1]?=some x.2
 nodup:(O.map (·.1)).Nodup
 apart:∀x∈O,I x.1=none
 base:∀b o,E.heap[b]?=some o→I b=some o
 flat:∀b o,I b=some o→E.heap[b]?=none→tq o
 oflat:∀x∈O,tq x.2
section
variable {I J:aP} {O:List (Nat × Obj)} {E w:World}
theorem SL.drew (h:SL I O E w):SL I O E w.drew:=⟨h.os,h.output,h.tape,h.pers,h.own,h.nodup,h.apart,h.base,h.flat,h.oflat⟩
theorem cJ {w:World} {b:Nat} {o:Obj} (h:w.heap[b]?=some o):b<w.heap.size:=by
 by_cases hb:b<w.heap.size
 ·exact hb
 ·simp[Array.getElem?_eq_none (by omega:w.heap.size≤b)] at h
theorem rg {w:World} {o o':Obj} {b:Nat} (h:w.heap[b]?=some o):(w.alloc o').heap[b]?=some o:=by
 rw[Go.RowKit.Below.heap_alloc _ _ _ (cJ h)];exact h
theorem SL.fresh (h:SL I O E w):I w.heap.size=none:=by
 cases hI:I w.heap.size with
 |none=>rfl
 |some o=>have:=cJ (h.pers _ _ hI);omega
theorem SL.alloc (h:SL I O E w) (o:Obj) (ho:tq o:=by first|exact rfl|trivial):SL I ((w.heap.size,o)::O) E (w.alloc o):=by
 refine ⟨h.os,h.output,h.tape,fun b o' hb=>rg (h.pers b o' hb),?_,?_,?_,h.base,h.flat,fun x hx=>?_⟩
 ·intro x hx
  rcases List.mem_cons.1 hx with rfl|hx
  ·show (w.heap.push o)[w.heap.size]?=some o
   simp
  ·exact rg (h.own x hx)
 ·simp only[List.map_cons,List.nodup_cons]
  refine ⟨fun hm=>?_,h.nodup⟩
  obtain ⟨x,hx,e⟩:=List.mem_map.1 hm
  have:=cJ (h.own x hx)
  omega
 ·intro x hx
  rcases List.mem_cons.1 hx with rfl|hx
  ·exact h.fresh
  ·exact h.apart x hx
 ·rcases List.mem_cons.1 hx with rfl|hx
  ·exact ho
  ·exact h.oflat x hx
theorem SL.freeze {b:Nat} {o:Obj} (h:SL I ((b,o)::O) E w):I.le (I.put b o)∧SL (I.put b o) O E w:=by
 have hn:=h.nodup
 simp only[List.map_cons,List.nodup_cons] at hn
 refine ⟨aP.le_put (h.apart (b,o) (by simp)),h.os,h.output,h.tape,?_,fun x hx=>h.own x (List.mem_cons_of_mem _ hx),hn.2,?_,fun b' o' hb=>aP.le_put (h.apart (b,o) (by simp)) b' o' (h.base b' o' hb),?_,fun x hx=>h.oflat x (List.mem_cons_of_mem _ hx)⟩
 ·intro b' o' hb
  unfold aP.put at hb
  split at hb
  ·rename_i e;subst e;cases hb;exact h.own (b',o) (by simp)
  ·exact h.pers _ _ hb
 ·intro x hx
  unfold aP.put
  split
  ·rename_i e;exact absurd (e▸List.mem_map.2 ⟨x,hx,rfl⟩) hn.1
  ·exact h.apart x (List.mem_cons_of_mem _ hx)
 ·intro b' o' hb he
  unfold aP.put at hb
  split at hb
  ·cases hb;exact h.oflat (b,o) (by simp)
  ·exact h.flat b' o' hb he
theorem SL.alloc_pers (h:SL I O E w) (o:Obj) (ho:tq o:=by first|exact rfl|trivial):I.le (I.put w.heap.size o)∧SL (I.put w.heap.size o) O E (w.alloc o):=(h.alloc o ho).freeze
theorem SL.perm {O':List (Nat × Obj)} (h:SL I O E w) (hp:O'.Perm O):SL I O' E w:=
 ⟨h.os,h.output,h.tape,h.pers,fun x hx=>h.own x (hp.mem_iff.1 hx),(hp.map _).nodup_iff.2 h.nodup,fun x hx=>h.apart x (hp.mem_iff.1 hx),h.base,h.flat,fun x hx=>h.oflat x (hp.mem_iff.1 hx)⟩
theorem SL.sub {O':List (Nat × Obj)} (h:SL I O E w) (hp:O'.Sublist O):SL I O' E w:=
 ⟨h.os,h.output,h.tape,h.pers,fun x hx=>h.own x (hp.subset hx),(hp.map _).nodup h.nodup,fun x hx=>h.apart x (hp.subset hx),h.base,h.flat,fun x hx=>h.oflat x (hp.subset hx)⟩
theorem SL.dropAll {A:List (Nat × Obj)} (h:SL I (A++O) E w):SL I O E w:=h.sub (List.sublist_append_right _ _)
theorem SL.turn {b:Nat} {o o':Obj} {w':World} (h:SL I ((b,o)::O) E w) (h1:w'.os=w.os) (h2:w'.output=w.output) (h3:w'.tape=w.tape)
  (h4:w'.heap[b]?=some o') (h5:∀k,k≠b→w'.heap[k]?=w.heap[k]?) (h6:tq o':=by first|exact rfl|trivial):SL I ((b,o')::O) E w':=by
 have hn:=h.nodup
 simp only[List.map_cons,List.nodup_cons] at hn
 refine ⟨h1.trans h.os,h2.trans h.output,h3.trans h.tape,?_,?_,by simpa using h.nodup,?_,h.base,h.flat,fun x hx=>?_⟩
 ·intro k ok hk
  rw[h5 k (fun e=>?_)]
  ·exact h.pers k ok hk
  ·subst e;rw[h.apart (k,o) (by simp)] at hk;cases hk
 ·intro x hx
  rcases List.mem_cons.1 hx with rfl|hx
  ·exact h4
  ·rw[h5 x.1 (fun e=>hn.1 (e▸List.mem_map.2 ⟨x,hx,rfl⟩))]
   exact h.own x (List.mem_cons_of_mem _ hx)
 ·intro x hx
  rcases List.mem_cons.1 hx with rfl|hx
  ·exact h.apart (b,o) (by simp)
  ·exact h.apart x (List.mem_cons_of_mem _ hx)
 ·rcases List.mem_cons.1 hx with rfl|hx
  ·exact h6
  ·exact h.oflat x (List.mem_cons_of_mem _ hx)
theorem SL.set {b i:Nat} {c:Array Value} {T:TypeId} {v:Value} (h:SL I ((b,.cells c T (0,0))::O) E w) :
  SL I ((b,.cells (c.setIfInBounds i v) T (0,0))::O) E (w.setCell ⟨b,i,none⟩ v):=by
 have hb:=h.own (b,.cells c T (0,0)) (by simp)
 exact h.turn rfl rfl rfl (by simp only at hb;simp[World.setCell,Array.getElem?_modify,hb]) (fun k hk=>Go.RowKit.Below.heap_setCell _ _ _ _ (by simpa using hk))
theorem SL.cell_own {b i:Nat} {c:Array Value} {T:TypeId} {f:Nat × Nat} (h:SL I ((b,.cells c T f)::O) E w):w.cell? ⟨b,i,none⟩=c[i]?:=by
 have:=h.own (b,.cells c T f) (by simp)
 simp only at this
 simp[World.cell?,this]
theorem SL.cell_pers {b i:Nat} {c:Array Value} {T:TypeId} {f:Nat × Nat} (h:SL I O E w) (hb:I b=some (.cells c T f)):w.cell? ⟨b,i,none⟩=c[i]?:=by
 simp[World.cell?,h.pers _ _ hb]
def At (I:aP) (O:List (Nat × Obj)) (b i:Nat) (v:Value):Prop:=(∃c T f,I b=some (.cells c T f)∧c[i]?=some v)∨∃c T f,(b,Obj.cells c T f)∈O∧c[i]?=some v
theorem SL.at_ (h:SL I O E w) {b i:Nat} {v:Value} (ha:At I O b i v):w.cell? ⟨b,i,none⟩=some v:=by
 rcases ha with ⟨c,T,f,hb,hv⟩|⟨c,T,f,hm,hv⟩
 ·rw[h.cell_pers hb,hv]
 ·have:=h.own _ hm;simp only at this;simp[World.cell?,this,hv]
end
theorem bK (b o n:Nat):(⟨b,o,none⟩:Addr).add n=⟨b,o+n,none⟩:=by
 unfold Addr.add;split<;>simp_all
end
section
def ko (x:Int):Prop:=-9223372036854775808≤x∧x≤9223372036854775807
section
variable {P:Program} {ops:Array Oper} {K:bU→World→Prop} {ρ:bU} {w:World} {rest:List Oper}
variable {d ty:Nat} {pos:String} {af:Array Edge} {x y z:Operand} {t u:TypeId}
variable {I:aP} {O:List (Nat × Obj)} {E:World}
theorem bL.val {op:Op} {v:Value} (h:(execOp (ev ρ) (Oper.mk (some d) op ty pos af none)).run P w=.ok (.value v) w) (k:bL P ops K rest (upd ρ d v) w) :
  bL P ops K (Oper.mk (some d) op ty pos af none::rest) ρ w:=
 bL.step rfl (by unfold ei;rw[h];exact k)
theorem bL.guardT {dd:Option Nat} {op:Op} {j s:Nat} {b t:Bool} (hs:(ops[j]?).bind (fun o:Oper=>o.dst)=some s) (hv:ρ s=.bool t) (ht:t=b)
  (k:bL P ops K (Oper.mk dd op ty pos af none::rest) ρ w):bL P ops K (Oper.mk dd op ty pos af (some (j,b))::rest) ρ w:=by
 subst ht
 unfold bL at *
 rw[if_pos (by simp[b8])] at k
 rw[if_pos (by simp only[b8,hs,hv];simp)]
 exact k
theorem bL.guardF {dd:Option Nat} {op:Op} {j s:Nat} {b t:Bool} (hs:(ops[j]?).bind (fun o:Oper=>o.dst)=some s) (hv:ρ s=.bool t) (ht:t=!b)
  (k:bL P ops K rest (updO ρ dd undef) w):bL P ops K (Oper.mk dd op ty pos af (some (j,b))::rest) ρ w:=by
 subst ht
 unfold bL
 rw[if_neg (by simp only[b8,hs,hv];cases b<;>simp)]
 exact k
theorem bP {op:BinOp} {k:IntKind} {a b:Int} (hx:ev ρ x=.int k a) (hy:ev ρ y=.int k b) (h1:op≠.shl) (h2:op≠.shr) :
  (execOp (ev ρ) (Oper.mk (some d) (.binOp op t x y u) ty pos af none)).run P w=((binOp op t (.int k a) (.int k b)).run P w).andThen fun v w'=>.ok (.value v) w':=by
 simp only[execOp,hx,hy]
 have he:(eqGuard op t x y (.int k a) (.int k b)).run P w=.ok () w:=by
  unfold eqGuard;cases op<;>rfl
 simp[he]
theorem iX {op:BinOp} {a b:Option Addr}:(eqGuard op t x y (.pointer a) (.pointer b)).run P w=.ok () w:=by
 unfold eqGuard;cases op<;>rfl
theorem gS {op:BinOp} {a b:Option Addr} {n c n' c':Nat}:(eqGuard op t x y (.slice a n c) (.slice b n' c')).run P w=.ok () w:=by
 unfold eqGuard;cases op<;>rfl
theorem eH {op:BinOp} {a b:ByteArray}:(eqGuard op t x y (.string a) (.string b)).run P w=.ok () w:=by
 unfold eqGuard;cases op<;>rfl
theorem iI {op:BinOp} {a b:Bool}:(eqGuard op t x y (.bool a) (.bool b)).run P w=.ok () w:=by
 unfold eqGuard;cases op<;>rfl
theorem bL.eqNilS {a:Option Addr} {n c:Nat} {e:TypeId} (ht:P.underlying t=some (.slice e)) (hx:ev ρ x=.slice a n c) (hy:ev ρ y=.slice none 0 0) (h:bL P ops K rest (upd ρ d (.bool a.isNone)) w) :
  bL P ops K (Oper.mk (some d) (.binOp .eql t x y u) ty pos af none::rest) ρ w:=
 bL.val (by simp only[execOp,hx,hy];simp[gS,Lib.run_eql_slice_nil w t e a n c 0 0 ht]) h
theorem lF (a b:ByteArray):(a.toList == b.toList)=decide (a=b):=by
 rw[ByteArray.toList_eq,ByteArray.toList_eq]
 by_cases h:a=b
 ·simp[h]
 ·have:¬a.data.toList=b.data.toList:=fun e=>h (by
   obtain ⟨⟨x⟩⟩:=a;obtain ⟨⟨y⟩⟩:=b;simpa using e)
  rw[decide_eq_false h];exact beq_eq_false_iff_ne.2 this
theorem bL.load1 {b off:Nat} {v:Value} (ha:∀w,(isAgg t).run P w=.ok false w) (hS:SL I O E w) (hx:ev ρ x=.pointer (some ⟨b,off,none⟩)) (hv:At I O b off v)
  (h:bL P ops K rest (upd ρ d v) w):bL P ops K (Oper.mk (some d) (.load t x) ty pos af none::rest) ρ w:=
 bL.val (by simp[execOp,hx,Instr.loadAt,Instr.sureAddr,loadVar,ha,hS.at_ hv]) h
theorem bL.callF {f:FuncId} {args:List Operand} {tys:Array TypeId} {R:Value→World→Prop} (hc:Fn P f (args.map (ev ρ)).toArray w R) (h:∀v w',R v w'→bL P ops K rest (upd ρ d v) w') :
  bL P ops K (Oper.mk (some d) (.call { callee:=.value (.func f),args:=args.toArray,argTypes:=tys }) ty pos af none::rest) ρ w:=by
 refine bL.step rfl ?_
 obtain ⟨⟨fn,c,hf,hb,hn⟩,hcalls⟩:=hc
 unfold ei
 have:(execOp (ev ρ) (Oper.mk (some d) (.call { callee:=.value (.func f),args:=args.toArray,argTypes:=tys }) ty pos af none)).run P w=.ok (.enter f (args.map (ev ρ)).toArray) w:=by
  simp[execOp,resolve,ev,Deferred.ofValue,invoke,callFunc,hf,hb,hn]
 rw[this]
 exact hcalls.mono fun e w' ⟨v,h1,h2⟩=>⟨v,h1,h v w' h2⟩
theorem bL.callV {f:FuncId} {args:List Operand} {tys:Array TypeId} {a b:List Value} {R:Value→World→Prop} (hx:ev ρ x=.func (.func f) a.toArray b.toArray) (hc:Fn P f (a++args.map (ev ρ)++b).toArray w R) (h:∀v w',R v w'→bL P ops K rest (upd ρ d v) w') :
  bL P ops K (Oper.mk (some d) (.call { callee:=.value x,args:=args.toArray,argTypes:=tys }) ty pos af none::rest) ρ w:=by
 refine bL.step rfl ?_
 obtain ⟨⟨fn,c,hf,hb,hn⟩,hcalls⟩:=hc
 unfold ei
 have:(execOp (ev ρ) (Oper.mk (some d) (.call { callee:=.value x,args:=args.toArray,argTypes:=tys }) ty pos af none)).run P w=.ok (.enter f (a++args.map (ev ρ)++b).toArray) w:=by
  simp[execOp,resolve,hx,Deferred.ofValue,invoke,callFunc,hf,hb,hn]
 rw[this]
 exact hcalls.mono fun e w' ⟨v,h1,h2⟩=>⟨v,h1,h v w' h2⟩
end
end
section
def fD (k:Nat) (e:TypeId) (a:Option Addr) (n cap:Nat) (cs:List Value) (A:List (Nat × Obj)):Prop:=
 cs.length=n*k∧n≤cap∧((a=none∧cap=0∧A=[])∨∃b junk,a=some ⟨b,0,none⟩∧A=[(b,.cells (cs++junk).toArray e (0,0))]∧(cs++junk).length=cap*k)
theorem fD.nil (k:Nat) (e:TypeId):fD k e none 0 0 [] []:=⟨by simp,Nat.le_refl _,.inl ⟨rfl,rfl,rfl⟩⟩
theorem fD.made {k:Nat} {e:TypeId} {b n:Nat} {cs:List Value} (h:cs.length=n*k):fD k e (some ⟨b,0,none⟩) n n cs [(b,.cells cs.toArray e (0,0))]:=
 ⟨h,Nat.le_refl _,.inr ⟨b,[],rfl,by simp,by simpa using h⟩⟩
def J4 (I:aP) (O:List (Nat × Obj)) (k:Nat) (a:Option Addr) (m:Nat) (cs:List Value):Prop:=
 cs.length=m*k∧(∀u∈cs,u.oneCell'=true)∧((a=none∧m=0)∨∃p,a=some p∧∀(j:Nat) (u:Value),cs[j]?=some u→∃b off,p=⟨b,off,none⟩∧At I O b (off+j) u)
section
variable {P:Program} {ops:Array Oper} {K:bU→World→Prop} {ρ:bU} {w:World} {rest:List Oper}
variable {d ty:Nat} {pos:String} {af:Array Edge} {x y z:Operand} {t u e:TypeId}
variable {I:aP} {O A:List (Nat × Obj)} {E:World}
theorem p9 {i:TypeInfo} {z:Value} {k n m cap sc:Nat} {a sa:Option Addr} {cs news:List Value} (ht:P.underlying t=some (.slice e)) (hi:P.info? e=some i) (hz:i.zero=some z) (hk:i.size=k)
  (hzc:z.cells.size=k) (hS:SL I (A++O) E w) (hA:fD k e a n cap cs A) (hs:J4 I (A++O) k sa m news) (hb:(n+m)*i.bytes≤140737488355328) (hb2:n+m≤140737488355328) :
  ∃a' cap' A' w',(Builtin.append_ #[t,t] ty #[.slice a n cap,.slice sa m sc]).run P w=.ok (.slice a' (n+m) cap') w'∧fD k e a' (n+m) cap' (cs++news) A'∧SL I (A'++O) E w' ∧
   (a'=none→a=none∧m=0):=by
 subst hk
 obtain ⟨hcl,hnc,hA⟩:=hA
 obtain ⟨hnl,h1,hs⟩:=hs
 rcases hs with ⟨rfl,rfl⟩|⟨sp,rfl,hat⟩
 ·
  have hn:news=[]:=List.eq_nil_of_length_eq_zero (by simpa using hnl)
  subst hn
  refine ⟨a,cap,A,w,?_,⟨by simpa using hcl,by omega,by simpa using hA⟩,hS,fun h=>⟨h,rfl⟩⟩
  have hle:n≤cap:=hnc
  cases a<;>simp[Builtin.append_,run_underlying ht,sizeOf,typeInfo,hi,Builtin.lenOf,Builtin.firstCells,hle,storeCells]
 ·have hcell:∀(j:Nat) (v:Value),news[j]?=some v→w.cell? (sp.add j)=some v:=fun j v hj=>by
   obtain ⟨b,off,rfl,h⟩:=hat j v hj
   rw[bK];exact hS.at_ h
  rcases hA with ⟨rfl,rfl,rfl⟩|⟨b,junk,rfl,rfl,hjl⟩
  ·have hn0:n=0:=by omega
   subst hn0
   have hcs:cs=[]:=List.eq_nil_of_length_eq_zero (by simpa using hcl)
   subst hcs
   rcases Nat.eq_zero_or_pos m with rfl|hm
   ·have hn:news=[]:=List.eq_nil_of_length_eq_zero (by simpa using hnl)
    subst hn
    refine ⟨none,0,[],w,?_,fD.nil _ _,hS,fun _=>⟨rfl,rfl⟩⟩
    simp[Builtin.append_,run_underlying ht,sizeOf,typeInfo,hi,Builtin.lenOf,Builtin.firstCells,loadCells,loadCellsFrom]
   ·have hrun:=run_append_nil (P:=P) w t ty e i z ht hi hz sp m sc news hnl hcell hm (by omega) (by have:=hb;simp at this;omega)
    simp only[Nat.zero_add,List.nil_append] at *
    refine ⟨_,_,[(w.heap.size,.cells (news.toArray++Builtin.zeroCells z.cells (grownCap w m 0 e - m)) e (0,0))],_,hrun,⟨hnl,grownCap_ge _ _ _ _,.inr ⟨_,(Builtin.zeroCells z.cells (grownCap w m 0 e - m)).toList,rfl,?_,?_⟩⟩,(hS.drew).alloc _,fun h=>by cases h⟩
    ·congr 2;congr 1;simp
    ·have:=grownCap_ge w m 0 e
     simp only[List.length_append,hnl,Array.length_toList,size_zeroCells,hzc,←Nat.add_mul]
     congr 1;omega
  ·have hown:=hS.own (b,.cells (cs++junk).toArray e (0,0)) (by simp)
   simp only at hown
   have hjl':cs.length+junk.length=cap*i.size:=by simpa using hjl
   by_cases hroom:n+m≤cap
   ·have hmul:(n+m)*i.size≤cap*i.size:=Nat.mul_le_mul_right _ hroom
    have hrun:=run_append_room (P:=P) w t ty e i ht hi b n cap (cs++junk).toArray hown sp m sc news hnl hcell h1 hroom (by simp;rw[hnl,←Nat.add_mul];omega)
    have hshape:(List.take (n*i.size) (cs++junk).toArray.toList++news++List.drop (n*i.size+news.length) (cs++junk).toArray.toList)=(cs++news)++junk.drop news.length:=by
     have e1:n*i.size=cs.length:=hcl.symm
     simp only[e1]
     rw[List.take_left,List.drop_append,List.drop_eq_nil_of_le (by omega:cs.length≤cs.length+news.length)]
     simp
    rw[hshape] at hrun
    refine ⟨_,_,[(b,.cells ((cs++news)++junk.drop news.length).toArray e (0,0))],_,hrun,⟨by rw[List.length_append,hcl,hnl,Nat.add_mul],hroom,.inr ⟨b,_,rfl,rfl,?_⟩⟩,?_,fun h=>by cases h⟩
    ·have:news.length≤junk.length:=by
      rw[Nat.add_mul] at hmul;omega
     simp only[List.length_append,List.length_drop];omega
    ·refine SL.turn (w:=w) hS rfl rfl rfl ?_ ?_
     ·simp[World.setRow,Array.getElem?_modify,hown]
     ·intro k hk
      simp only[World.setRow,Array.getElem?_modify]
      rw[if_neg (by omega)]
   ·have hlt:cap<n+m:=by omega
    have hrun:=run_append_grow (P:=P) w t ty e i z ht hi hz ⟨b,0,none⟩ n cap cs hcl (fun j v hj=>by
     rw[bK,Nat.zero_add]
     refine hS.at_ (.inr ⟨_,_,_,List.mem_append_left _ (List.mem_singleton.2 rfl),?_⟩)
     have:=(List.getElem?_eq_some_iff.1 hj).1
     rw[List.getElem?_toArray,List.getElem?_append_left this];exact hj) sp m sc news hnl hcell hlt (by omega) (growslice_fits hlt hb)
    refine ⟨_,_,[(w.heap.size,.cells (cs.toArray++news.toArray++Builtin.zeroCells z.cells (grownCap w (n+m) cap e - (n+m))) e (0,0))],_,hrun,⟨by rw[List.length_append,hcl,hnl,Nat.add_mul],grownCap_ge _ _ _ _,.inr ⟨_,(Builtin.zeroCells z.cells (grownCap w (n+m) cap e - (n+m))).toList,rfl,?_,?_⟩⟩,?_,fun h=>by cases h⟩
    ·congr 2;congr 1;simp
    ·have:=grownCap_ge w (n+m) cap e
     simp only[List.length_append,hcl,hnl,Array.length_toList,size_zeroCells,hzc,←Nat.add_mul]
     congr 1;omega
    ·have h2:=(hS.drew).alloc (.cells (cs.toArray++news.toArray++Builtin.zeroCells z.cells (grownCap w (n+m) cap e - (n+m))) e (0,0))
     refine h2.sub ?_
     exact List.Sublist.cons_cons _ (List.sublist_cons_self _ _)
theorem bL.append {i:TypeInfo} {z:Value} {k n m cap sc:Nat} {a sa:Option Addr} {cs news:List Value} (ht:P.underlying t=some (.slice e)) (hi:P.info? e=some i) (hz:i.zero=some z) (hk:i.size=k)
  (hzc:z.cells.size=k) (hx:ev ρ x=.slice a n cap) (hy:ev ρ y=.slice sa m sc) (hS:SL I (A++O) E w) (hA:fD k e a n cap cs A) (hs:J4 I (A++O) k sa m news) (hb:(n+m)*i.bytes≤140737488355328) (hb2:n+m≤140737488355328)
  (h:∀a' cap' A' w',fD k e a' (n+m) cap' (cs++news) A'→SL I (A'++O) E w'→(a'=none→a=none∧m=0)→bL P ops K rest (upd ρ d (.slice a' (n+m) cap')) w') :
  bL P ops K (Oper.mk (some d) (.call { callee:=.builtin .append,args:=#[x,y],argTypes:=#[t,t] }) ty pos af none::rest) ρ w:=by
 obtain ⟨a',cap',A',w',hrun,h1,h2,h3⟩:=p9 (ty:=ty) (sc:=sc) ht hi hz hk hzc hS hA hs hb hb2
 refine bL.step rfl ?_
 unfold ei
 have:(execOp (ev ρ) (Oper.mk (some d) (.call { callee:=.builtin .append,args:=#[x,y],argTypes:=#[t,t] }) ty pos af none)).run P w=.ok (.value (.slice a' (n+m) cap')) w':=by
  simp[execOp,resolve,hx,hy,invoke,builtin,hrun]
 rw[this]
 exact h _ _ _ _ h1 h2 h3
theorem fU {v:Value} (w:World):(newVar t v).run P w=.ok ⟨w.heap.size,0,none⟩ (w.alloc (.cells v.cells t)):=by
 simp[newVar,newRow]
theorem bL.boxP {v:Value} (hS:SL I O E w) (hx:ev ρ x=v) (h:∀b w' J,I.le J→J b=some (.cells v.cells t (0,0))→SL J O E w'→bL P ops K rest (upd ρ d (.pointer (some ⟨b,0,none⟩))) w') :
  bL P ops K (Oper.mk (some d) (.box t x) ty pos af none::rest) ρ w:=by
 refine bL.step rfl ?_
 unfold ei
 have:(execOp (ev ρ) (Oper.mk (some d) (.box t x) ty pos af none)).run P w=.ok (.value (.pointer (some ⟨w.heap.size,0,none⟩))) (w.alloc (.cells v.cells t)):=by
  simp[execOp,hx,Instr.box,fU]
 rw[this]
 exact h _ _ _ (hS.alloc_pers _).1 (aP.put_same _ _ _) (hS.alloc_pers _).2
theorem bL.boxO {v:Value} (hS:SL I O E w) (hx:ev ρ x=v) (h:∀b w',SL I ((b,.cells v.cells t (0,0))::O) E w'→bL P ops K rest (upd ρ d (.pointer (some ⟨b,0,none⟩))) w') :
  bL P ops K (Oper.mk (some d) (.box t x) ty pos af none::rest) ρ w:=by
 refine bL.step rfl ?_
 unfold ei
 have:(execOp (ev ρ) (Oper.mk (some d) (.box t x) ty pos af none)).run P w=.ok (.value (.pointer (some ⟨w.heap.size,0,none⟩))) (w.alloc (.cells v.cells t)):=by
  simp[execOp,hx,Instr.box,fU]
 rw[this]
 exact h _ _ (hS.alloc _)
theorem bL.alloc {zv:Value} (hz:∀w,(zeroValue t).run P w=.ok zv w) (hS:SL I O E w) (h:∀b w',SL I ((b,.cells zv.cells t (0,0))::O) E w'→bL P ops K rest (upd ρ d (.pointer (some ⟨b,0,none⟩))) w') :
  bL P ops K (Oper.mk (some d) (.alloc t) ty pos af none::rest) ρ w:=by
 refine bL.step rfl ?_
 unfold ei
 have:(execOp (ev ρ) (Oper.mk (some d) (.alloc t) ty pos af none)).run P w=.ok (.value (.pointer (some ⟨w.heap.size,0,none⟩))) (w.alloc (.cells zv.cells t)):=by
  simp[execOp,Instr.alloc,hz,fU]
 rw[this]
 exact h _ _ (hS.alloc _)
theorem bL.store1 {b off:Nat} {cs:List Value} {T:TypeId} {v:Value} (hs:∀w,(sizeOf t).run P w=.ok 1 w) (hx:ev ρ x=.pointer (some ⟨b,off,none⟩)) (hy:ev ρ y=v) (hv:v.oneCell'=true) (ho:off<cs.length)
  (hS:SL I ([(b,.cells cs.toArray T (0,0))]++O) E w) (h:∀w',SL I ([(b,.cells (cs.set off v).toArray T (0,0))]++O) E w'→bL P ops K rest ρ w') :
  bL P ops K (Oper.mk none (.store t x y) ty pos af none::rest) ρ w:=by
 refine bL.step rfl ?_
 unfold ei
 have hS:SL I ((b,.cells cs.toArray T (0,0))::O) E w:=hS
 have hown:=hS.own (b,.cells cs.toArray T (0,0)) (by simp)
 simp only at hown
 have hvc:v.cells=#[v]:=by cases v<;>first|rfl|(simp[Value.oneCell'] at hv)
 have hc:w.cell? ⟨b,off,none⟩=some cs[off]:=by simp[World.cell?,hown,ho]
 have hf:w.frozen? ⟨b,off,none⟩=false:=by simp[World.frozen?,hown]
 have hst:(store (⟨b,off,none⟩:Addr) v).run P w=.ok () (w.setCell ⟨b,off,none⟩ v):=by
  rw[run_store P w ⟨b,off,none⟩ v .plain hv];simp[hc,hf]
 have:(execOp (ev ρ) (Oper.mk none (.store t x y) ty pos af none)).run P w=.ok .skip (w.setCell ⟨b,off,none⟩ v):=by
  simp[execOp,hx,hy,Instr.storeAt,Instr.sureAddr,storeVar,hs,hvc,storeCells,bK,hst]
 rw[this]
 refine h _ ?_
 have:=hS.set (i:=off) (v:=v)
 simpa using this
end
end
section
theorem nm {ρ ρ':bU} (h:ρ'=ρ) (t:Nat):∃v,ρ' t=v∧v=ρ t:=⟨ρ t,congrFun h t,rfl⟩
section
variable {P:Program} {n:Nat} {Q:Exit→bU→World→Prop} {ρ:bU} {w:World}
variable {R:Value→World→Prop}
theorem fE {b off:Nat} {T:TypeId} {cs:List Value} (ha:∀w,(isAgg T).run P w=.ok true w) (hs:∀w,(sizeOf T).run P w=.ok cs.length w) (hv:∀j v,cs[j]?=some v→w.cell? ⟨b,off+j,none⟩=some v) :
  (loadVar T ⟨b,off,none⟩).run P w=.ok (.agg cs.toArray) w:=by
 have hl:=run_loadCells_list (P:=P) w ⟨b,off,none⟩ cs (fun j v hj=>by rw[bK];exact hv j v hj)
 simp[loadVar,ha,hs,hl]
theorem nl {b off:Nat} {T:TypeId} {v:Value} (ha:∀w,(isAgg T).run P w=.ok false w) (hv:w.cell? ⟨b,off,none⟩=some v):(loadVar T ⟨b,off,none⟩).run P w=.ok v w:=by
 simp[loadVar,ha,hv]
end
section
variable {P:Program} {ops:Array Oper} {K:bU→World→Prop} {ρ:bU} {w:World} {rest:List Oper}
variable {d d2 ty ty2:Nat} {pos pos2:String} {af af2:Array Edge} {x y z:Operand} {t u e:TypeId}
variable {I:aP} {O A:List (Nat × Obj)} {E:World}
theorem tt {cs tl:List Value} {off:Nat} {v:Value} (h:cs.drop off=v::tl):cs[off]?=some v:=by
 have:=congrArg (fun l=>l[0]?) h
 simpa using this
theorem bL.buildSlice0 {i:TypeInfo} (ht:P.underlying t=some (.slice e)) (hi:P.info? e=some i) (hS:SL I O E w) (h:∀b w',SL I ([(b,.cells [].toArray e (0,0))]++O) E w'→bL P ops K rest (upd ρ d (.slice (some ⟨b,0,none⟩) 0 0)) w') :
  bL P ops K (Oper.mk (some d) (.buildSlice t 0 #[]) ty pos af none::rest) ρ w:=by
 refine bL.step rfl ?_
 unfold ei
 have:(execOp (ev ρ) (Oper.mk (some d) (.buildSlice t 0 #[]) ty pos af none)).run P w=.ok (.value (.slice (some ⟨w.heap.size,0,none⟩) 0 0)) (w.alloc (.cells #[] e)):=by
  simp[execOp,Instr.buildSlice,run_underlying ht,sizeOf,typeInfo,hi,Instr.fill,newRow]
  congr 2
  exact Array.eq_empty_of_size_eq_zero (by simp)
 rw[this]
 exact h _ _ (hS.alloc _)
end
theorem qB (z:Value) (m:Nat):madeCells #[z] m=(List.replicate m z).toArray:=by
 apply Array.ext
 ·simp[madeCells]
 ·intro i h1 h2
  simp[madeCells,Nat.mod_one]
section
variable {P:Program} {ops:Array Oper} {K:bU→World→Prop} {ρ:bU} {w:World} {rest:List Oper}
variable {d ty:Nat} {pos:String} {af:Array Edge} {x y:Operand} {t e:TypeId}
variable {I:aP} {O:List (Nat × Obj)} {E:World}
theorem bL.make1 {i:TypeInfo} {zv z1:Value} {m:Nat} {k1 k2:IntKind} {l l':Int} (ht:P.underlying t=some (.slice e)) (hi:P.info? e=some i) (hz:i.zero=some zv) (hzc:zv.cells=#[z1]) (hk:i.size=1) (hx:ev ρ x=.int k1 l) (hy:ev ρ y=.int k2 l')
  (hl:l=(m:Int)) (hl':l'=(m:Int)) (hb:(i.bytes:Int)*(m:Int)≤281474976710656) (hm:m≤281474976710656) (hS:SL I O E w)
  (h:∀b w',SL I ([(b,.cells (List.replicate m z1).toArray e (0,0))]++O) E w'→bL P ops K rest (upd ρ d (.slice (some ⟨b,0,none⟩) m m)) w') :
  bL P ops K (Oper.mk (some d) (.makeSlice t x y) ty pos af none::rest) ρ w:=by
 refine bL.step rfl ?_
 unfold ei
 subst hl hl'
 have hrun:=run_make (P:=P) w t e i zv ht hi hz k1 k2 m m (by omega) (by omega) hb (by omega)
 rw[hzc,hk,Nat.mul_one,Int.toNat_natCast,qB] at hrun
 have:(execOp (ev ρ) (Oper.mk (some d) (.makeSlice t x y) ty pos af none)).run P w=.ok (.value (.slice (some ⟨w.heap.size,0,none⟩) m m)) (w.alloc (.cells (List.replicate m z1).toArray e)):=by
  simp[execOp,hx,hy,hrun]
 rw[this]
 exact h _ _ (hS.alloc _)
end
abbrev Lg:=List (Nat × Obj)
section
variable {P:Program} {ops:Array Oper} {K:bU→World→Prop} {ρ:bU} {w:World} {rest:List Oper}
variable {d d2 ty ty2:Nat} {pos pos2:String} {af af2:Array Edge} {x y z:Operand} {t u e:TypeId}
variable {I:aP} {O A:Lg} {E:World} {α:Type} {R:aP→Lg→List Value→α→Prop} {xs:List α} {v:α}
end
set_option linter.defProp false
def q5:=@bL.mono
end
end Go.Proofs.YtjpnhkmfhlnpcaaGreatDoor
