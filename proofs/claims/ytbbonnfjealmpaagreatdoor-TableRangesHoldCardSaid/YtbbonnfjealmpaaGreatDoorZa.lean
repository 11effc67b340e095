/- A walk over slots that are told as plain data. No conditions. -/
import Derived.WalkKit
import Derived.WalkSpells
import Derived.Laws.CopyRow
import Derived.RegionTactic
import Derived.Laws.StructEq
set_option linter.unusedVariables false
set_option linter.unusedSimpArgs false
set_option linter.unusedSectionVars false
namespace Go.Proofs.YtbbonnfjealmpaaGreatDoor
section
abbrev dX:=Nat→Value
def upd (ρ:dX) (d:Nat) (v:Value):dX:=fun t=>bif Nat.beq t d then v else ρ t
def updO (ρ:dX) (d:Option Nat) (v:Value):dX:=match d with|some d=>upd ρ d v|none=>ρ
def ev (ρ:dX):Operand→Value
 |.tmp t=>ρ t
 |.const v=>v
 |.global g=>.pointer (some ⟨g,0,none⟩)
 |.func f=>.func (.func f) #[] #[]
theorem lH (ρ:dX) (d:Nat) (v:Value):upd ρ d v d=v:=by simp[upd]
theorem fV (ρ:dX) {d t:Nat} (v:Value) (h:t≠d):upd ρ d v t=ρ t:=by
 have:Nat.beq t d=false:=by cases hb:Nat.beq t d<;>simp_all
 simp[upd,this]
structure jL (n:Nat) (a:Act) (ρ:dX):Prop where
 size:a.tmps.size=n
 defers:a.defers=[]
 at_:∀t,a.tmps.getD t undef=ρ t
theorem jL.eval {n:Nat} {a:Act} {ρ:dX} (h:jL n a ρ):a.eval=ev ρ:=by
 funext x;cases x<;>simp[Act.eval,ev,h.at_]
theorem jL.put {n:Nat} {a:Act} {ρ:dX} (h:jL n a ρ) {d:Option Nat} (hd:d.all (fun d=>decide (d<n))=true) (v:Value):jL n (a.put d v) (updO ρ d v):=by
 cases d with
 |none=>exact h
 |some d=>
  have hd':d<a.tmps.size:=by rw[h.size];simpa using hd
  refine ⟨by simp[Act.put,h.size],h.defers,fun t=>?_⟩
  simp only[Act.put,updO]
  by_cases e:t=d
  ·subst e;rw[lH];simp[hd']
  ·rw[fV _ _ e,←h.at_ t]
   simp only[Array.getD_eq_getD_getElem?]
   rw[Array.getElem?_setIfInBounds_ne (by omega)]
def Jh (n:Nat) (Q:Exit→dX→World→Prop):Exit→Act→World→Prop:=fun e a w=>∃ρ,jL n a ρ∧Q e ρ w
def WP (P:Program) (n:Nat) (c:Code) (Q:Exit→dX→World→Prop) (ρ:dX) (w:World):Prop:=
 ∀a,jL n a ρ→c.wp P (Jh n Q) a w
def KQ (K:dX→World→Prop) (Q:Exit→dX→World→Prop):Exit→dX→World→Prop:=fun e ρ w=>
 match e with
 |.normal=>K ρ w
 |e=>Q e ρ w
def Ab (id:Nat) (Q:Exit→dX→World→Prop):Exit→dX→World→Prop:=fun e ρ w=>
 match e with
 |.exit i=>if i=id then Q .normal ρ w else Q (.exit i) ρ w
 |e=>Q e ρ w
section
variable {P:Program} {n:Nat} {Q:Exit→dX→World→Prop} {ρ:dX} {w:World}
theorem WP.mono {c:Code} {Q':Exit→dX→World→Prop} (h:WP P n c Q ρ w) (hq:∀e ρ w,Q e ρ w→Q' e ρ w):WP P n c Q' ρ w:=
 fun a ha=>wp_mono (h a ha) fun _ _ _ ⟨ρ,h1,h2⟩=>⟨ρ,h1,hq _ _ _ h2⟩
theorem WP.skip (h:Q .normal ρ w):WP P n .skip Q ρ w:=fun _ ha=>wp_skip ⟨ρ,ha,h⟩
theorem WP.ret (h:Q .ret ρ w):WP P n .ret Q ρ w:=fun _ ha=>wp_ret ⟨ρ,ha,h⟩
theorem WP.exit {id:Nat} (h:Q (.exit id) ρ w):WP P n (.exit id) Q ρ w:=fun _ ha=>wp_exit ⟨ρ,ha,h⟩
theorem WP.seq {x y:Code} (h:WP P n x (KQ (WP P n y Q) Q) ρ w):WP P n (.seq x y) Q ρ w:=fun a ha=>
 wp_seq (wp_mono (h a ha) fun e a w ⟨ρ,h1,h2⟩=>by
  cases e<;>first|exact h2 a h1|exact ⟨ρ,h1,h2⟩)
theorem WP.cond {c:Operand} {x y:Code} {t:Bool} (hc:ev ρ c=.bool t) (h:(if t then WP P n x Q ρ w else WP P n y Q ρ w)):WP P n (.cond c x y) Q ρ w:=fun a ha=>
 wp_cond (t:=t) (by rw[ha.eval];exact hc) (by cases t<;>exact h a ha)
theorem WP.condB {c:Operand} {x y:Code} {t:Bool} (hc:ev ρ c=.bool t) (h:t=true→WP P n x Q ρ w) (h':t=false→WP P n y Q ρ w):WP P n (.cond c x y) Q ρ w:=
 WP.cond hc (by cases t<;>simp[h,h'])
theorem WP.block {id:Nat} {c:Code} (h:WP P n c (Ab id Q) ρ w):WP P n (.block id c) Q ρ w:=fun a ha=>
 wp_block (wp_mono (h a ha) fun e a w ⟨ρ,h1,h2⟩=>by
  cases e<;>try exact ⟨ρ,h1,h2⟩
  rename_i i
  simp only[Exit.inBlock]
  simp only[Ab] at h2
  split<;>rename_i hi
  ·rw[if_pos hi] at h2;exact ⟨ρ,h1,h2⟩
  ·rw[if_neg hi] at h2;exact ⟨ρ,h1,h2⟩)
theorem WP.loop {γ:Type} {c:Code} (I:γ→dX→World→Prop) (μ:γ→Nat) (g₀:γ) (h₀:I g₀ ρ w)
  (round:∀g ρ w,I g ρ w→WP P n c (KQ (fun ρ' w'=>∃g',I g' ρ' w'∧μ g'<μ g) Q) ρ w):WP P n (.loop c) Q ρ w:=by
 intro a ha b k cs
 have key:∀m g ρ a w,μ g=m→jL n a ρ→I g ρ w →
   ∃e a' w',Jh n Q e a' w'∧Arrives P (lone (b.at a (.code c::.inLoop c::k)) cs w) b k cs e a' w':=by
  intro m
  induction m using Nat.strongRecOn with
  |_ m ih=>
   intro g ρ a w hm ha hI
   obtain ⟨e,a₁,w₁,⟨ρ₁,hq1,hq2⟩,harr⟩:=round g ρ w hI a ha b (.inLoop c::k) cs
   cases e with
   |normal=>
    obtain ⟨g',hI₁,hlt⟩:=hq2
    obtain ⟨e₂,a₂,w₂,hq₂,harr₂⟩:=ih (μ g') (hm▸hlt) g' ρ₁ a₁ w₁ rfl hq1 hI₁
    exact ⟨e₂,a₂,w₂,hq₂,.of_steps (Steps.trans harr (.one step_inLoop)) harr₂⟩
   |exit id=>exact ⟨_,a₁,w₁,⟨ρ₁,hq1,hq2⟩,.pass (x:=.inLoop c) rfl (fun _ _=>.inl (by simp)) harr⟩
   |goto l=>exact ⟨_,a₁,w₁,⟨ρ₁,hq1,hq2⟩,.pass (x:=.inLoop c) rfl (fun _ _=>.inl (by simp)) harr⟩
   |ret=>exact ⟨_,a₁,w₁,⟨ρ₁,hq1,hq2⟩,.pass (x:=.inLoop c) rfl (fun _ _=>.inl (by simp)) harr⟩
   |panic ch=>exact ⟨_,a₁,w₁,⟨ρ₁,hq1,hq2⟩,.pass (x:=.inLoop c) rfl (fun _ _=>.inl (by simp)) harr⟩
   |outgrown=>exact ⟨_,a₁,w₁,⟨ρ₁,hq1,hq2⟩,.pass (x:=.inLoop c) rfl (fun _ _=>.inl (by simp)) harr⟩
 obtain ⟨e,a',w',hq,harr⟩:=key _ g₀ ρ a w rfl ha h₀
 exact ⟨e,a',w',hq,.of_steps (.one step_loop) harr⟩
end
def lG (P:Program) (o:Oper) (ρ:dX) (w:World) (K:Value→World→Prop):Prop:=
 match (execOp (ev ρ) o).run P w with
 |.ok (.value v) w'=>K v w'
 |.ok .skip w'=>K undef w'
 |.ok (.enter f args) w'=>Calls P f args w' fun e w''=>∃v,e=.returned v∧K v w''
 |_=>False
def eJ (ops:Array Oper) (o:Oper) (ρ:dX):Bool:=
 match o.guard with
 |none=>true
 |some (j,b)=>match (ops[j]?).bind (·.dst) with
  |some s=>(match ρ s with | .bool b'=>b' == b|_=>false)
  |none=>false
def bY (P:Program) (ops:Array Oper) (K:dX→World→Prop):List Oper→dX→World→Prop
 |[],ρ,w=>K ρ w
 |o::rest,ρ,w=>
  if eJ ops o ρ then lG P o ρ w (fun v w'=>bY P ops K rest (updO ρ o.dst v) w')
  else bY P ops K rest (updO ρ o.dst undef) w
def ic (n:Nat) (l:List Oper):Bool:=l.all fun o=>o.dst.all (fun d=>decide (d<n))
theorem lG.mono {P:Program} {o:Oper} {ρ:dX} {w:World} {K K':Value→World→Prop} (h:lG P o ρ w K) (hk:∀v w,K v w→K' v w):lG P o ρ w K':=by
 unfold lG at *
 split at h
 ·exact hk _ _ h
 ·exact hk _ _ h
 ·exact h.mono fun e w ⟨v,h1,h2⟩=>⟨v,h1,hk _ _ h2⟩
 ·exact h.elim
theorem lG.wp {P:Program} {n:Nat} {o:Oper} {ρ:dX} {w:World} {K:Value→World→Prop} {a:Act} (ha:jL n a ρ)
  {next:Act→World→Prop} {Q:Exit→Act→World→Prop} (h:lG P o ρ w K) (hk:∀v w',K v w'→next (a.put o.dst v) w'):o.wp P a w next Q:=by
 unfold lG at h
 unfold Oper.wp
 rw[ha.eval]
 split at h
 ·rename_i heq;rw[heq];exact hk _ _ h
 ·rename_i heq;rw[heq];exact hk _ _ h
 ·rename_i heq;rw[heq,Oper.upon_enter]
  exact h.mono fun e w'' ⟨v,he,hK⟩=>by subst he;exact hk _ _ hK
 ·exact h.elim
theorem ua {n:Nat} {a:Act} {ρ:dX} (ha:jL n a ρ) (ops:Array Oper) (o:Oper) (hops:∀(j s:Nat),(ops[j]?).bind (fun o:Oper=>o.dst)=some s→s<n) :
  Region.wanted o (yielded ops a.tmps)=eJ ops o ρ:=by
 unfold Region.wanted eJ
 split
 ·rename_i h;simp[h]
 ·rename_i j b h
  simp only[h]
  unfold yielded
  cases hd:(ops[j]?).bind (·.dst) with
  |none=>simp
  |some s=>
   have hs:=hops j s hd
   have h1:a.tmps[s]?=some (ρ s):=by
    rw[←ha.at_ s]
    simp[Array.getD_eq_getD_getElem?,ha.size,hs]
   simp only[Option.bind_some,h1]
   cases ρ s<;>simp
theorem bY.wpList {P:Program} {n:Nat} {ops:Array Oper} {K:dX→World→Prop} {Q:Exit→Act→World→Prop} (hops:∀(j s:Nat),(ops[j]?).bind (fun o:Oper=>o.dst)=some s→s<n)
  (hK:∀a ρ w,jL n a ρ→K ρ w→Q .normal a w):∀(l:List Oper) (ρ:dX) (w:World) (a:Act),ic n l=true→jL n a ρ→bY P ops K l ρ w→wpList P ops Q l a w
 |[],ρ,w,a,_,ha,h=>hK a ρ w ha h
 |o::rest,ρ,w,a,hd,ha,h=>by
  simp only[ic,List.all_cons,Bool.and_eq_true] at hd
  unfold Go.wpList
  rw[ua ha ops o hops]
  unfold bY at h
  split
  ·rename_i hw
   rw[if_pos hw] at h
   exact .inl (h.wp ha fun v w' hv=>bY.wpList hops hK rest _ _ _ hd.2 (ha.put hd.1 v) hv)
  ·rename_i hw
   rw[if_neg hw] at h
   exact bY.wpList hops hK rest _ _ _ hd.2 (ha.put hd.1 undef) h
theorem Ej {n:Nat} {l:List Oper} (hd:ic n l=true) (j s:Nat) (h:(l.toArray[j]?).bind (fun o:Oper=>o.dst)=some s):s<n:=by
 simp only[ic,List.all_eq_true] at hd
 rcases hj:l[j]? with _|o
 ·simp[hj] at h
 ·have:=hd o (List.mem_of_getElem? hj)
  simp only[List.getElem?_toArray,hj,Option.bind_some] at h
  simpa [h] using this
theorem WP.region {P:Program} {n:Nat} {Q:Exit→dX→World→Prop} {ρ:dX} {w:World} {id:Nat} {l:List Oper} (hd:ic n l=true)
  (h:bY P l.toArray (Q .normal) l ρ w):WP P n (.region id l.toArray false) Q ρ w:=fun a ha=>
 wp_region_lit (bY.wpList (Ej hd) (fun _ _ _ ha hK=>⟨_,ha,hK⟩) l ρ w a hd ha h)
section
variable {P:Program} {ops:Array Oper} {K:dX→World→Prop} {ρ:dX} {w:World} {rest:List Oper} {o:Oper}
theorem bY.nil (h:K ρ w):bY P ops K [] ρ w:=h
theorem bY.step (hg:o.guard=none) (h:lG P o ρ w (fun v w'=>bY P ops K rest (updO ρ o.dst v) w')):bY P ops K (o::rest) ρ w:=by
 unfold bY;rw[if_pos (by simp[eJ,hg])];exact h
theorem bY.mono {K':dX→World→Prop} (hk:∀ρ w,K ρ w→K' ρ w):∀(l:List Oper) (ρ:dX) (w:World),bY P ops K l ρ w→bY P ops K' l ρ w
 |[],_,_,h=>hk _ _ h
 |o::rest,ρ,w,h=>by
  unfold bY at *
  split
  ·rename_i hw;rw[if_pos hw] at h;exact h.mono fun v w' hv=>bY.mono hk rest _ _ hv
  ·rename_i hw;rw[if_neg hw] at h;exact bY.mono hk rest _ _ h
end
def tn (rs:Array ResultVar) (ρ:dX) (P:Program) (w:World):Result Value:=
 ((do
  let vs ←rs.mapM fun x=>match x with
   |.tmp t=>Pure.pure (ρ t)
   |.cell a t=>do loadVar t (←asAddr (ρ a))
  Pure.pure (if h:vs.size=1 then vs[0] else Value.tuple vs)):Sem Value).run P w
theorem Ac {n:Nat} {a:Act} {ρ:dX} (ha:jL n a ρ) (fn:Func) (P:Program) (w:World):(results fn a.tmps).run P w=tn fn.results ρ P w:=by
 unfold results tn
 simp only[ha.at_]
 rfl
def Fn (P:Program) (f:FuncId) (args:Array Value) (w:World) (R:Value→World→Prop):Prop:=
 (∃fn c,P.funcs[f]?=some fn∧fn.body=some c∧fn.name≠"runtime.NumGoroutine")∧Calls P f args w fun e w'=>∃v,e=.returned v∧R v w'
theorem Fn.mono {P:Program} {f:FuncId} {args:Array Value} {w:World} {R R':Value→World→Prop} (h:Fn P f args w R) (hr:∀v w,R v w→R' v w):Fn P f args w R':=
 ⟨h.1,h.2.mono fun _ _ ⟨v,h1,h2⟩=>⟨v,h1,hr _ _ h2⟩⟩
def L7 (P:Program) (rs:Array ResultVar) (R:Value→World→Prop):Exit→dX→World→Prop:=fun e ρ w=>
 match e with
 |.normal | .ret=>∃v,tn rs ρ P w=.ok v w∧R v w
 |_=>False
def Hb (args:Array Value):dX:=fun t=>args.getD t undef
theorem Fn.intro {P:Program} {f:FuncId} {fn:Func} {c:Code} {args:Array Value} {w:World} {R:Value→World→Prop} (hf:P.funcs[f]?=some fn) (hb:fn.body=some c)
  (hn:fn.name≠"runtime.NumGoroutine") (hs:Nat.ble args.size fn.ntmps=true) (h:WP P fn.ntmps c (L7 P fn.results R) (Hb args) w):Fn P f args w R:=by
 have hs:=Nat.le_of_ble_eq_true hs
 refine ⟨⟨fn,c,hf,hb,hn⟩,calls_of_wp hf hb (wp_mono (h _ ⟨?_,rfl,?_⟩) ?_)⟩
 ·simp;omega
 ·intro t
  simp only[Hb,Array.getD_eq_getD_getElem?]
  by_cases ht:t<args.size
  ·rw[Array.getElem?_append_left ht]
  ·rw[Array.getElem?_append_right (by omega)]
   by_cases h2:t - args.size<fn.ntmps - args.size
   ·rw[Array.getElem?_replicate,if_pos h2,Array.getElem?_eq_none (by omega)];rfl
   ·rw[Array.getElem?_replicate,if_neg h2,Array.getElem?_eq_none (by omega)]
 ·rintro e a w ⟨ρ,ha,hq⟩
  cases e<;>first|exact hq.elim|(obtain ⟨v,h1,h2⟩:=hq;exact ⟨ha.defers,v,by rw[Ac ha];exact h1,v,rfl,h2⟩)
end
section
abbrev bK:=Nat→Option Obj
def bK.le (I J:bK):Prop:=∀b o,I b=some o→J b=some o
theorem bK.le.refl (I:bK):I.le I:=fun _ _ h=>h
theorem bK.le.trans {I J K:bK} (h:I.le J) (k:J.le K):I.le K:=fun b o hb=>k b o (h b o hb)
def bK.put (I:bK) (b:Nat) (o:Obj):bK:=fun x=>if x=b then some o else I x
theorem bK.put_same (I:bK) (b:Nat) (o:Obj):I.put b o b=some o:=by simp[bK.put]
theorem bK.le_put {I:bK} {b:Nat} {o:Obj} (h:I b=none):I.le (I.put b o):=fun x o' hx=>by
 unfold bK.put;split
 ·rename_i e;subst e;rw[h] at hx;cases hx
 ·exact hx
def wo:Obj→Prop
 |.cells _ _ f=>f=(0,0)
 |_=>True
structure SL (I:bK) (O:List (Nat × Obj)) (E:World) (w:World):Prop where
 os:w.os=E.os
 output:w.output=E.output
 tape:w.tape=E.tape
 pers:∀b o,I b=some o→w.heap[b]?=some o
 own:∀x∈O,w.heap[x.1]?=some x.2
 nodup:(O.map (·.1)).Nodup
 apart:∀x∈O,I x.1=none
 base:∀b o,E.heap[b]?=some o→I b=some o
 flat:∀b o,I b=some o→E.heap[b]?=none→wo o
 oflat:∀x∈O,wo x.2
section
variable {I J:bK} {O:List (Nat × Obj)} {E w:World}
theorem SL.drew (h:SL I O E w):SL I O E w.drew:=⟨h.os,h.output,h.tape,h.pers,h.own,h.nodup,h.apart,h.base,h.flat,h.oflat⟩
theorem d8 {w:World} {b:Nat} {o:Obj} (h:w.heap[b]?=some o):b<w.heap.size:=by
 by_cases hb:b<w.heap.size
 ·exact hb
 ·simp[Array.getElem?_eq_none (by omega:w.heap.size≤b)] at h
theorem ub {w:World} {o o':Obj} {b:Nat} (h:w.heap[b]?=some o):(w.alloc o').heap[b]?=some o:=by
 rw[Go.RowKit.Below.heap_alloc _ _ _ (d8 h)];exact h
theorem SL.fresh (h:SL I O E w):I w.heap.size=none:=by
 cases hI:I w.heap.size with
 |none=>rfl
 |some o=>have:=d8 (h.pers _ _ hI);omega
theorem SL.alloc (h:SL I O E w) (o:Obj) (ho:wo o:=by first|exact rfl|trivial):SL I ((w.heap.size,o)::O) E (w.alloc o):=by
 refine ⟨h.os,h.output,h.tape,fun b o' hb=>ub (h.pers b o' hb),?_,?_,?_,h.base,h.flat,fun x hx=>?_⟩
 ·intro x hx
  rcases List.mem_cons.1 hx with rfl|hx
  ·show (w.heap.push o)[w.heap.size]?=some o
   simp
  ·exact ub (h.own x hx)
 ·simp only[List.map_cons,List.nodup_cons]
  refine ⟨fun hm=>?_,h.nodup⟩
  obtain ⟨x,hx,e⟩:=List.mem_map.1 hm
  have:=d8 (h.own x hx)
  omega
 ·intro x hx
  rcases List.mem_cons.1 hx with rfl|hx
  ·exact h.fresh
  ·exact h.apart x hx
 ·rcases List.mem_cons.1 hx with rfl|hx
  ·exact ho
  ·exact h.oflat x hx
theorem SL.freeze {b:Nat} {o:Obj} (h:SL I ((b,o)::O) E w):I.le (I.put b o)∧SL (I.put b o) O E w:=by
 have hn:=h.nodup
 simp only[List.map_cons,List.nodup_cons] at hn
 refine ⟨bK.le_put (h.apart (b,o) (by simp)),h.os,h.output,h.tape,?_,fun x hx=>h.own x (List.mem_cons_of_mem _ hx),hn.2,?_,fun b' o' hb=>bK.le_put (h.apart (b,o) (by simp)) b' o' (h.base b' o' hb),?_,fun x hx=>h.oflat x (List.mem_cons_of_mem _ hx)⟩
 ·intro b' o' hb
  unfold bK.put at hb
  split at hb
  ·rename_i e;subst e;cases hb;exact h.own (b',o) (by simp)
  ·exact h.pers _ _ hb
 ·intro x hx
  unfold bK.put
  split
  ·rename_i e;exact absurd (e▸List.mem_map.2 ⟨x,hx,rfl⟩) hn.1
  ·exact h.apart x (List.mem_cons_of_mem _ hx)
 ·intro b' o' hb he
  unfold bK.put at hb
  split at hb
  ·cases hb;exact h.oflat (b,o) (by simp)
  ·exact h.flat b' o' hb he
theorem SL.alloc_pers (h:SL I O E w) (o:Obj) (ho:wo o:=by first|exact rfl|trivial):I.le (I.put w.heap.size o)∧SL (I.put w.heap.size o) O E (w.alloc o):=(h.alloc o ho).freeze
theorem SL.perm {O':List (Nat × Obj)} (h:SL I O E w) (hp:O'.Perm O):SL I O' E w:=
 ⟨h.os,h.output,h.tape,h.pers,fun x hx=>h.own x (hp.mem_iff.1 hx),(hp.map _).nodup_iff.2 h.nodup,fun x hx=>h.apart x (hp.mem_iff.1 hx),h.base,h.flat,fun x hx=>h.oflat x (hp.mem_iff.1 hx)⟩
theorem SL.sub {O':List (Nat × Obj)} (h:SL I O E w) (hp:O'.Sublist O):SL I O' E w:=
 ⟨h.os,h.output,h.tape,h.pers,fun x hx=>h.own x (hp.subset hx),(hp.map _).nodup h.nodup,fun x hx=>h.apart x (hp.subset hx),h.base,h.flat,fun x hx=>h.oflat x (hp.subset hx)⟩
theorem SL.dropAll {A:List (Nat × Obj)} (h:SL I (A++O) E w):SL I O E w:=h.sub (List.sublist_append_right _ _)
theorem SL.turn {b:Nat} {o o':Obj} {w':World} (h:SL I ((b,o)::O) E w) (h1:w'.os=w.os) (h2:w'.output=w.output) (h3:w'.tape=w.tape)
  (h4:w'.heap[b]?=some o') (h5:∀k,k≠b→w'.heap[k]?=w.heap[k]?) (h6:wo o':=by first|exact rfl|trivial):SL I ((b,o')::O) E w':=by
 have hn:=h.nodup
 simp only[List.map_cons,List.nodup_cons] at hn
 refine ⟨h1.trans h.os,h2.trans h.output,h3.trans h.tape,?_,?_,by simpa using h.nodup,?_,h.base,h.flat,fun x hx=>?_⟩
 ·intro k ok hk
  rw[h5 k (fun e=>?_)]
  ·exact h.pers k ok hk
  ·subst e;rw[h.apart (k,o) (by simp)] at hk;cases hk
 ·intro x hx
  rcases List.mem_cons.1 hx with rfl|hx
  ·exact h4
  ·rw[h5 x.1 (fun e=>hn.1 (e▸List.mem_map.2 ⟨x,hx,rfl⟩))]
   exact h.own x (List.mem_cons_of_mem _ hx)
 ·intro x hx
  rcases List.mem_cons.1 hx with rfl|hx
  ·exact h.apart (b,o) (by simp)
  ·exact h.apart x (List.mem_cons_of_mem _ hx)
 ·rcases List.mem_cons.1 hx with rfl|hx
  ·exact h6
  ·exact h.oflat x (List.mem_cons_of_mem _ hx)
theorem SL.set {b i:Nat} {c:Array Value} {T:TypeId} {v:Value} (h:SL I ((b,.cells c T (0,0))::O) E w) :
  SL I ((b,.cells (c.setIfInBounds i v) T (0,0))::O) E (w.setCell ⟨b,i,none⟩ v):=by
 have hb:=h.own (b,.cells c T (0,0)) (by simp)
 exact h.turn rfl rfl rfl (by simp only at hb;simp[World.setCell,Array.getElem?_modify,hb]) (fun k hk=>Go.RowKit.Below.heap_setCell _ _ _ _ (by simpa using hk))
theorem SL.cell_own {b i:Nat} {c:Array Value} {T:TypeId} {f:Nat × Nat} (h:SL I ((b,.cells c T f)::O) E w):w.cell? ⟨b,i,none⟩=c[i]?:=by
 have:=h.own (b,.cells c T f) (by simp)
 simp only at this
 simp[World.cell?,this]
theorem SL.cell_pers {b i:Nat} {c:Array Value} {T:TypeId} {f:Nat × Nat} (h:SL I O E w) (hb:I b=some (.cells c T f)):w.cell? ⟨b,i,none⟩=c[i]?:=by
 simp[World.cell?,h.pers _ _ hb]
def At (I:bK) (O:List (Nat × Obj)) (b i:Nat) (v:Value):Prop:=(∃c T f,I b=some (.cells c T f)∧c[i]?=some v)∨∃c T f,(b,Obj.cells c T f)∈O∧c[i]?=some v
theorem SL.at_ (h:SL I O E w) {b i:Nat} {v:Value} (ha:At I O b i v):w.cell? ⟨b,i,none⟩=some v:=by
 rcases ha with ⟨c,T,f,hb,hv⟩|⟨c,T,f,hm,hv⟩
 ·rw[h.cell_pers hb,hv]
 ·have:=h.own _ hm;simp only at this;simp[World.cell?,this,hv]
end
theorem dP (b o n:Nat):(⟨b,o,none⟩:Addr).add n=⟨b,o+n,none⟩:=by
 unfold Addr.add;split<;>simp_all
end
section
def lz (x:Int):Prop:=-9223372036854775808≤x∧x≤9223372036854775807
section
variable {P:Program} {ops:Array Oper} {K:dX→World→Prop} {ρ:dX} {w:World} {rest:List Oper}
variable {d ty:Nat} {pos:String} {af:Array Edge} {x y z:Operand} {t u:TypeId}
variable {I:bK} {O:List (Nat × Obj)} {E:World}
theorem bY.val {op:Op} {v:Value} (h:(execOp (ev ρ) (Oper.mk (some d) op ty pos af none)).run P w=.ok (.value v) w) (k:bY P ops K rest (upd ρ d v) w) :
  bY P ops K (Oper.mk (some d) op ty pos af none::rest) ρ w:=
 bY.step rfl (by unfold lG;rw[h];exact k)
theorem bY.guardT {dd:Option Nat} {op:Op} {j s:Nat} {b t:Bool} (hs:(ops[j]?).bind (fun o:Oper=>o.dst)=some s) (hv:ρ s=.bool t) (ht:t=b)
  (k:bY P ops K (Oper.mk dd op ty pos af none::rest) ρ w):bY P ops K (Oper.mk dd op ty pos af (some (j,b))::rest) ρ w:=by
 subst ht
 unfold bY at *
 rw[if_pos (by simp[eJ])] at k
 rw[if_pos (by simp only[eJ,hs,hv];simp)]
 exact k
theorem bY.guardF {dd:Option Nat} {op:Op} {j s:Nat} {b t:Bool} (hs:(ops[j]?).bind (fun o:Oper=>o.dst)=some s) (hv:ρ s=.bool t) (ht:t=!b)
  (k:bY P ops K rest (updO ρ dd undef) w):bY P ops K (Oper.mk dd op ty pos af (some (j,b))::rest) ρ w:=by
 subst ht
 unfold bY
 rw[if_neg (by simp only[eJ,hs,hv];cases b<;>simp)]
 exact k
theorem cJ {op:BinOp} {k:IntKind} {a b:Int} (hx:ev ρ x=.int k a) (hy:ev ρ y=.int k b) (h1:op≠.shl) (h2:op≠.shr) :
  (execOp (ev ρ) (Oper.mk (some d) (.binOp op t x y u) ty pos af none)).run P w=((binOp op t (.int k a) (.int k b)).run P w).andThen fun v w'=>.ok (.value v) w':=by
 simp only[execOp,hx,hy]
 have he:(eqGuard op t x y (.int k a) (.int k b)).run P w=.ok () w:=by
  unfold eqGuard;cases op<;>rfl
 simp[he]
theorem tq {op:BinOp} {a b:Option Addr} {n c n' c':Nat}:(eqGuard op t x y (.slice a n c) (.slice b n' c')).run P w=.ok () w:=by
 unfold eqGuard;cases op<;>rfl
theorem lI {op:BinOp} {a b:ByteArray}:(eqGuard op t x y (.string a) (.string b)).run P w=.ok () w:=by
 unfold eqGuard;cases op<;>rfl
theorem nE {op:BinOp} {a b:Bool}:(eqGuard op t x y (.bool a) (.bool b)).run P w=.ok () w:=by
 unfold eqGuard;cases op<;>rfl
theorem bY.eqNilS {a:Option Addr} {n c:Nat} {e:TypeId} (ht:P.underlying t=some (.slice e)) (hx:ev ρ x=.slice a n c) (hy:ev ρ y=.slice none 0 0) (h:bY P ops K rest (upd ρ d (.bool a.isNone)) w) :
  bY P ops K (Oper.mk (some d) (.binOp .eql t x y u) ty pos af none::rest) ρ w:=
 bY.val (by simp only[execOp,hx,hy];simp[tq,Lib.run_eql_slice_nil w t e a n c 0 0 ht]) h
theorem wq (a b:ByteArray):(a.toList == b.toList)=decide (a=b):=by
 rw[ByteArray.toList_eq,ByteArray.toList_eq]
 by_cases h:a=b
 ·simp[h]
 ·have:¬a.data.toList=b.data.toList:=fun e=>h (by
   obtain ⟨⟨x⟩⟩:=a;obtain ⟨⟨y⟩⟩:=b;simpa using e)
  rw[decide_eq_false h];exact beq_eq_false_iff_ne.2 this
theorem bY.load1 {b off:Nat} {v:Value} (ha:∀w,(isAgg t).run P w=.ok false w) (hS:SL I O E w) (hx:ev ρ x=.pointer (some ⟨b,off,none⟩)) (hv:At I O b off v)
  (h:bY P ops K rest (upd ρ d v) w):bY P ops K (Oper.mk (some d) (.load t x) ty pos af none::rest) ρ w:=
 bY.val (by simp[execOp,hx,Instr.loadAt,Instr.sureAddr,loadVar,ha,hS.at_ hv]) h
theorem bY.callF {f:FuncId} {args:List Operand} {tys:Array TypeId} {R:Value→World→Prop} (hc:Fn P f (args.map (ev ρ)).toArray w R) (h:∀v w',R v w'→bY P ops K rest (upd ρ d v) w') :
  bY P ops K (Oper.mk (some d) (.call { callee:=.value (.func f),args:=args.toArray,argTypes:=tys }) ty pos af none::rest) ρ w:=by
 refine bY.step rfl ?_
 obtain ⟨⟨fn,c,hf,hb,hn⟩,hcalls⟩:=hc
 unfold lG
 have:(execOp (ev ρ) (Oper.mk (some d) (.call { callee:=.value (.func f),args:=args.toArray,argTypes:=tys }) ty pos af none)).run P w=.ok (.enter f (args.map (ev ρ)).toArray) w:=by
  simp[execOp,resolve,ev,Deferred.ofValue,invoke,callFunc,hf,hb,hn]
 rw[this]
 exact hcalls.mono fun e w' ⟨v,h1,h2⟩=>⟨v,h1,h v w' h2⟩
theorem bY.callV {f:FuncId} {args:List Operand} {tys:Array TypeId} {a b:List Value} {R:Value→World→Prop} (hx:ev ρ x=.func (.func f) a.toArray b.toArray) (hc:Fn P f (a++args.map (ev ρ)++b).toArray w R) (h:∀v w',R v w'→bY P ops K rest (upd ρ d v) w') :
  bY P ops K (Oper.mk (some d) (.call { callee:=.value x,args:=args.toArray,argTypes:=tys }) ty pos af none::rest) ρ w:=by
 refine bY.step rfl ?_
 obtain ⟨⟨fn,c,hf,hb,hn⟩,hcalls⟩:=hc
 unfold lG
 have:(execOp (ev ρ) (Oper.mk (some d) (.call { callee:=.value x,args:=args.toArray,argTypes:=tys }) ty pos af none)).run P w=.ok (.enter f (a++args.map (ev ρ)++b).toArray) w:=by
  simp[execOp,resolve,hx,Deferred.ofValue,invoke,callFunc,hf,hb,hn]
 rw[this]
 exact hcalls.mono fun e w' ⟨v,h1,h2⟩=>⟨v,h1,h v w' h2⟩
end
end
section
def fe (k:Nat) (e:TypeId) (a:Option Addr) (n cap:Nat) (cs:List Value) (A:List (Nat × Obj)):Prop:=
 cs.length=n*k∧n≤cap∧((a=none∧cap=0∧A=[])∨∃b junk,a=some ⟨b,0,none⟩∧A=[(b,.cells (cs++junk).toArray e (0,0))]∧(cs++junk).length=cap*k)
theorem fe.nil (k:Nat) (e:TypeId):fe k e none 0 0 [] []:=⟨by simp,Nat.le_refl _,.inl ⟨rfl,rfl,rfl⟩⟩
theorem fe.made {k:Nat} {e:TypeId} {b n:Nat} {cs:List Value} (h:cs.length=n*k):fe k e (some ⟨b,0,none⟩) n n cs [(b,.cells cs.toArray e (0,0))]:=
 ⟨h,Nat.le_refl _,.inr ⟨b,[],rfl,by simp,by simpa using h⟩⟩
def KR (I:bK) (O:List (Nat × Obj)) (k:Nat) (a:Option Addr) (m:Nat) (cs:List Value):Prop:=
 cs.length=m*k∧(∀u∈cs,u.oneCell'=true)∧((a=none∧m=0)∨∃p,a=some p∧∀(j:Nat) (u:Value),cs[j]?=some u→∃b off,p=⟨b,off,none⟩∧At I O b (off+j) u)
section
variable {P:Program} {ops:Array Oper} {K:dX→World→Prop} {ρ:dX} {w:World} {rest:List Oper}
variable {d ty:Nat} {pos:String} {af:Array Edge} {x y z:Operand} {t u e:TypeId}
variable {I:bK} {O A:List (Nat × Obj)} {E:World}
theorem tt {i:TypeInfo} {z:Value} {k n m cap sc:Nat} {a sa:Option Addr} {cs news:List Value} (ht:P.underlying t=some (.slice e)) (hi:P.info? e=some i) (hz:i.zero=some z) (hk:i.size=k)
  (hzc:z.cells.size=k) (hS:SL I (A++O) E w) (hA:fe k e a n cap cs A) (hs:KR I (A++O) k sa m news) (hb:(n+m)*i.bytes≤140737488355328) (hb2:n+m≤140737488355328) :
  ∃a' cap' A' w',(Builtin.append_ #[t,t] ty #[.slice a n cap,.slice sa m sc]).run P w=.ok (.slice a' (n+m) cap') w'∧fe k e a' (n+m) cap' (cs++news) A'∧SL I (A'++O) E w' ∧
   (a'=none→a=none∧m=0):=by
 subst hk
 obtain ⟨hcl,hnc,hA⟩:=hA
 obtain ⟨hnl,h1,hs⟩:=hs
 rcases hs with ⟨rfl,rfl⟩|⟨sp,rfl,hat⟩
 ·
  have hn:news=[]:=List.eq_nil_of_length_eq_zero (by simpa using hnl)
  subst hn
  refine ⟨a,cap,A,w,?_,⟨by simpa using hcl,by omega,by simpa using hA⟩,hS,fun h=>⟨h,rfl⟩⟩
  have hle:n≤cap:=hnc
  cases a<;>simp[Builtin.append_,run_underlying ht,sizeOf,typeInfo,hi,Builtin.lenOf,Builtin.firstCells,hle,storeCells]
 ·have hcell:∀(j:Nat) (v:Value),news[j]?=some v→w.cell? (sp.add j)=some v:=fun j v hj=>by
   obtain ⟨b,off,rfl,h⟩:=hat j v hj
   rw[dP];exact hS.at_ h
  rcases hA with ⟨rfl,rfl,rfl⟩|⟨b,junk,rfl,rfl,hjl⟩
  ·have hn0:n=0:=by omega
   subst hn0
   have hcs:cs=[]:=List.eq_nil_of_length_eq_zero (by simpa using hcl)
   subst hcs
   rcases Nat.eq_zero_or_pos m with rfl|hm
   ·have hn:news=[]:=List.eq_nil_of_length_eq_zero (by simpa using hnl)
    subst hn
    refine ⟨none,0,[],w,?_,fe.nil _ _,hS,fun _=>⟨rfl,rfl⟩⟩
    simp[Builtin.append_,run_underlying ht,sizeOf,typeInfo,hi,Builtin.lenOf,Builtin.firstCells,loadCells,loadCellsFrom]
   ·have hrun:=run_append_nil (P:=P) w t ty e i z ht hi hz sp m sc news hnl hcell hm (by omega) (by have:=hb;simp at this;omega)
    simp only[Nat.zero_add,List.nil_append] at *
    refine ⟨_,_,[(w.heap.size,.cells (news.toArray++Builtin.zeroCells z.cells (grownCap w m 0 e - m)) e (0,0))],_,hrun,⟨hnl,grownCap_ge _ _ _ _,.inr ⟨_,(Builtin.zeroCells z.cells (grownCap w m 0 e - m)).toList,rfl,?_,?_⟩⟩,(hS.drew).alloc _,fun h=>by cases h⟩
    ·congr 2;congr 1;simp
    ·have:=grownCap_ge w m 0 e
     simp only[List.length_append,hnl,Array.length_toList,size_zeroCells,hzc,←Nat.add_mul]
     congr 1;omega
  ·have hown:=hS.own (b,.cells (cs++junk).toArray e (0,0)) (by simp)
   simp only at hown
   have hjl':cs.length+junk.length=cap*i.size:=by simpa using hjl
   by_cases hroom:n+m≤cap
   ·have hmul:(n+m)*i.size≤cap*i.size:=Nat.mul_le_mul_right _ hroom
    have hrun:=run_append_room (P:=P) w t ty e i ht hi b n cap (cs++junk).toArray hown sp m sc news hnl hcell h1 hroom (by simp;rw[hnl,←Nat.add_mul];omega)
    have hshape:(List.take (n*i.size) (cs++junk).toArray.toList++news++List.drop (n*i.size+news.length) (cs++junk).toArray.toList)=(cs++news)++junk.drop news.length:=by
     have e1:n*i.size=cs.length:=hcl.symm
     simp only[e1]
     rw[List.take_left,List.drop_append,List.drop_eq_nil_of_le (by omega:cs.length≤cs.length+news.length)]
     simp
    rw[hshape] at hrun
    refine ⟨_,_,[(b,.cells ((cs++news)++junk.drop news.length).toArray e (0,0))],_,hrun,⟨by rw[List.length_append,hcl,hnl,Nat.add_mul],hroom,.inr ⟨b,_,rfl,rfl,?_⟩⟩,?_,fun h=>by cases h⟩
    ·have:news.length≤junk.length:=by
      rw[Nat.add_mul] at hmul;omega
     simp only[List.length_append,List.length_drop];omega
    ·refine SL.turn (w:=w) hS rfl rfl rfl ?_ ?_
     ·simp[World.setRow,Array.getElem?_modify,hown]
     ·intro k hk
      simp only[World.setRow,Array.getElem?_modify]
      rw[if_neg (by omega)]
   ·have hlt:cap<n+m:=by omega
    have hrun:=run_append_grow (P:=P) w t ty e i z ht hi hz ⟨b,0,none⟩ n cap cs hcl (fun j v hj=>by
     rw[dP,Nat.zero_add]
     refine hS.at_ (.inr ⟨_,_,_,List.mem_append_left _ (List.mem_singleton.2 rfl),?_⟩)
     have:=(List.getElem?_eq_some_iff.1 hj).1
     rw[List.getElem?_toArray,List.getElem?_append_left this];exact hj) sp m sc news hnl hcell hlt (by omega) (growslice_fits hlt hb)
    refine ⟨_,_,[(w.heap.size,.cells (cs.toArray++news.toArray++Builtin.zeroCells z.cells (grownCap w (n+m) cap e - (n+m))) e (0,0))],_,hrun,⟨by rw[List.length_append,hcl,hnl,Nat.add_mul],grownCap_ge _ _ _ _,.inr ⟨_,(Builtin.zeroCells z.cells (grownCap w (n+m) cap e - (n+m))).toList,rfl,?_,?_⟩⟩,?_,fun h=>by cases h⟩
    ·congr 2;congr 1;simp
    ·have:=grownCap_ge w (n+m) cap e
     simp only[List.length_append,hcl,hnl,Array.length_toList,size_zeroCells,hzc,←Nat.add_mul]
     congr 1;omega
    ·have h2:=(hS.drew).alloc (.cells (cs.toArray++news.toArray++Builtin.zeroCells z.cells (grownCap w (n+m) cap e - (n+m))) e (0,0))
     refine h2.sub ?_
     exact List.Sublist.cons_cons _ (List.sublist_cons_self _ _)
theorem bY.append {i:TypeInfo} {z:Value} {k n m cap sc:Nat} {a sa:Option Addr} {cs news:List Value} (ht:P.underlying t=some (.slice e)) (hi:P.info? e=some i) (hz:i.zero=some z) (hk:i.size=k)
  (hzc:z.cells.size=k) (hx:ev ρ x=.slice a n cap) (hy:ev ρ y=.slice sa m sc) (hS:SL I (A++O) E w) (hA:fe k e a n cap cs A) (hs:KR I (A++O) k sa m news) (hb:(n+m)*i.bytes≤140737488355328) (hb2:n+m≤140737488355328)
  (h:∀a' cap' A' w',fe k e a' (n+m) cap' (cs++news) A'→SL I (A'++O) E w'→(a'=none→a=none∧m=0)→bY P ops K rest (upd ρ d (.slice a' (n+m) cap')) w') :
  bY P ops K (Oper.mk (some d) (.call { callee:=.builtin .append,args:=#[x,y],argTypes:=#[t,t] }) ty pos af none::rest) ρ w:=by
 obtain ⟨a',cap',A',w',hrun,h1,h2,h3⟩:=tt (ty:=ty) (sc:=sc) ht hi hz hk hzc hS hA hs hb hb2
 refine bY.step rfl ?_
 unfold lG
 have:(execOp (ev ρ) (Oper.mk (some d) (.call { callee:=.builtin .append,args:=#[x,y],argTypes:=#[t,t] }) ty pos af none)).run P w=.ok (.value (.slice a' (n+m) cap')) w':=by
  simp[execOp,resolve,hx,hy,invoke,builtin,hrun]
 rw[this]
 exact h _ _ _ _ h1 h2 h3
theorem mX {v:Value} (w:World):(newVar t v).run P w=.ok ⟨w.heap.size,0,none⟩ (w.alloc (.cells v.cells t)):=by
 simp[newVar,newRow]
theorem bY.boxP {v:Value} (hS:SL I O E w) (hx:ev ρ x=v) (h:∀b w' J,I.le J→J b=some (.cells v.cells t (0,0))→SL J O E w'→bY P ops K rest (upd ρ d (.pointer (some ⟨b,0,none⟩))) w') :
  bY P ops K (Oper.mk (some d) (.box t x) ty pos af none::rest) ρ w:=by
 refine bY.step rfl ?_
 unfold lG
 have:(execOp (ev ρ) (Oper.mk (some d) (.box t x) ty pos af none)).run P w=.ok (.value (.pointer (some ⟨w.heap.size,0,none⟩))) (w.alloc (.cells v.cells t)):=by
  simp[execOp,hx,Instr.box,mX]
 rw[this]
 exact h _ _ _ (hS.alloc_pers _).1 (bK.put_same _ _ _) (hS.alloc_pers _).2
theorem bY.boxO {v:Value} (hS:SL I O E w) (hx:ev ρ x=v) (h:∀b w',SL I ((b,.cells v.cells t (0,0))::O) E w'→bY P ops K rest (upd ρ d (.pointer (some ⟨b,0,none⟩))) w') :
  bY P ops K (Oper.mk (some d) (.box t x) ty pos af none::rest) ρ w:=by
 refine bY.step rfl ?_
 unfold lG
 have:(execOp (ev ρ) (Oper.mk (some d) (.box t x) ty pos af none)).run P w=.ok (.value (.pointer (some ⟨w.heap.size,0,none⟩))) (w.alloc (.cells v.cells t)):=by
  simp[execOp,hx,Instr.box,mX]
 rw[this]
 exact h _ _ (hS.alloc _)
theorem bY.alloc {zv:Value} (hz:∀w,(zeroValue t).run P w=.ok zv w) (hS:SL I O E w) (h:∀b w',SL I ((b,.cells zv.cells t (0,0))::O) E w'→bY P ops K rest (upd ρ d (.pointer (some ⟨b,0,none⟩))) w') :
  bY P ops K (Oper.mk (some d) (.alloc t) ty pos af none::rest) ρ w:=by
 refine bY.step rfl ?_
 unfold lG
 have:(execOp (ev ρ) (Oper.mk (some d) (.alloc t) ty pos af none)).run P w=.ok (.value (.pointer (some ⟨w.heap.size,0,none⟩))) (w.alloc (.cells zv.cells t)):=by
  simp[execOp,Instr.alloc,hz,mX]
 rw[this]
 exact h _ _ (hS.alloc _)
theorem bY.store1 {b off:Nat} {cs:List Value} {T:TypeId} {v:Value} (hs:∀w,(sizeOf t).run P w=.ok 1 w) (hx:ev ρ x=.pointer (some ⟨b,off,none⟩)) (hy:ev ρ y=v) (hv:v.oneCell'=true) (ho:off<cs.length)
  (hS:SL I ([(b,.cells cs.toArray T (0,0))]++O) E w) (h:∀w',SL I ([(b,.cells (cs.set off v).toArray T (0,0))]++O) E w'→bY P ops K rest ρ w') :
  bY P ops K (Oper.mk none (.store t x y) ty pos af none::rest) ρ w:=by
 refine bY.step rfl ?_
 unfold lG
 have hS:SL I ((b,.cells cs.toArray T (0,0))::O) E w:=hS
 have hown:=hS.own (b,.cells cs.toArray T (0,0)) (by simp)
 simp only at hown
 have hvc:v.cells=#[v]:=by cases v<;>first|rfl|(simp[Value.oneCell'] at hv)
 have hc:w.cell? ⟨b,off,none⟩=some cs[off]:=by simp[World.cell?,hown,ho]
 have hf:w.frozen? ⟨b,off,none⟩=false:=by simp[World.frozen?,hown]
 have hst:(store (⟨b,off,none⟩:Addr) v).run P w=.ok () (w.setCell ⟨b,off,none⟩ v):=by
  rw[run_store P w ⟨b,off,none⟩ v .plain hv];simp[hc,hf]
 have:(execOp (ev ρ) (Oper.mk none (.store t x y) ty pos af none)).run P w=.ok .skip (w.setCell ⟨b,off,none⟩ v):=by
  simp[execOp,hx,hy,Instr.storeAt,Instr.sureAddr,storeVar,hs,hvc,storeCells,dP,hst]
 rw[this]
 refine h _ ?_
 have:=hS.set (i:=off) (v:=v)
 simpa using this
end
end
section
section
variable {P:Program} {n:Nat} {Q:Exit→dX→World→Prop} {ρ:dX} {w:World}
variable {R:Value→World→Prop}
theorem k9 {b off:Nat} {T:TypeId} {cs:List Value} (ha:∀w,(isAgg T).run P w=.ok true w) (hs:∀w,(sizeOf T).run P w=.ok cs.length w) (hv:∀j v,cs[j]?=some v→w.cell? ⟨b,off+j,none⟩=some v) :
  (loadVar T ⟨b,off,none⟩).run P w=.ok (.agg cs.toArray) w:=by
 have hl:=run_loadCells_list (P:=P) w ⟨b,off,none⟩ cs (fun j v hj=>by rw[dP];exact hv j v hj)
 simp[loadVar,ha,hs,hl]
end
section
variable {P:Program} {ops:Array Oper} {K:dX→World→Prop} {ρ:dX} {w:World} {rest:List Oper}
variable {d d2 ty ty2:Nat} {pos pos2:String} {af af2:Array Edge} {x y z:Operand} {t u e:TypeId}
variable {I:bK} {O A:List (Nat × Obj)} {E:World}
theorem wt {cs tl:List Value} {off:Nat} {v:Value} (h:cs.drop off=v::tl):cs[off]?=some v:=by
 have:=congrArg (fun l=>l[0]?) h
 simpa using this
theorem bY.buildSlice0 {i:TypeInfo} (ht:P.underlying t=some (.slice e)) (hi:P.info? e=some i) (hS:SL I O E w) (h:∀b w',SL I ([(b,.cells [].toArray e (0,0))]++O) E w'→bY P ops K rest (upd ρ d (.slice (some ⟨b,0,none⟩) 0 0)) w') :
  bY P ops K (Oper.mk (some d) (.buildSlice t 0 #[]) ty pos af none::rest) ρ w:=by
 refine bY.step rfl ?_
 unfold lG
 have:(execOp (ev ρ) (Oper.mk (some d) (.buildSlice t 0 #[]) ty pos af none)).run P w=.ok (.value (.slice (some ⟨w.heap.size,0,none⟩) 0 0)) (w.alloc (.cells #[] e)):=by
  simp[execOp,Instr.buildSlice,run_underlying ht,sizeOf,typeInfo,hi,Instr.fill,newRow]
  congr 2
  exact Array.eq_empty_of_size_eq_zero (by simp)
 rw[this]
 exact h _ _ (hS.alloc _)
end
theorem tu (z:Value) (m:Nat):madeCells #[z] m=(List.replicate m z).toArray:=by
 apply Array.ext
 ·simp[madeCells]
 ·intro i h1 h2
  simp[madeCells,Nat.mod_one]
section
variable {P:Program} {ops:Array Oper} {K:dX→World→Prop} {ρ:dX} {w:World} {rest:List Oper}
variable {d ty:Nat} {pos:String} {af:Array Edge} {x y:Operand} {t e:TypeId}
variable {I:bK} {O:List (Nat × Obj)} {E:World}
theorem bY.make1 {i:TypeInfo} {zv z1:Value} {m:Nat} {k1 k2:IntKind} {l l':Int} (ht:P.underlying t=some (.slice e)) (hi:P.info? e=some i) (hz:i.zero=some zv) (hzc:zv.cells=#[z1]) (hk:i.size=1) (hx:ev ρ x=.int k1 l) (hy:ev ρ y=.int k2 l')
  (hl:l=(m:Int)) (hl':l'=(m:Int)) (hb:(i.bytes:Int)*(m:Int)≤281474976710656) (hm:m≤281474976710656) (hS:SL I O E w)
  (h:∀b w',SL I ([(b,.cells (List.replicate m z1).toArray e (0,0))]++O) E w'→bY P ops K rest (upd ρ d (.slice (some ⟨b,0,none⟩) m m)) w') :
  bY P ops K (Oper.mk (some d) (.makeSlice t x y) ty pos af none::rest) ρ w:=by
 refine bY.step rfl ?_
 unfold lG
 subst hl hl'
 have hrun:=run_make (P:=P) w t e i zv ht hi hz k1 k2 m m (by omega) (by omega) hb (by omega)
 rw[hzc,hk,Nat.mul_one,Int.toNat_natCast,tu] at hrun
 have:(execOp (ev ρ) (Oper.mk (some d) (.makeSlice t x y) ty pos af none)).run P w=.ok (.value (.slice (some ⟨w.heap.size,0,none⟩) m m)) (w.alloc (.cells (List.replicate m z1).toArray e)):=by
  simp[execOp,hx,hy,hrun]
 rw[this]
 exact h _ _ (hS.alloc _)
end
abbrev LU:=List (Nat × Obj)
section
variable {P:Program} {ops:Array Oper} {K:dX→World→Prop} {ρ:dX} {w:World} {rest:List Oper}
variable {d d2 ty ty2:Nat} {pos pos2:String} {af af2:Array Edge} {x y z:Operand} {t u e:TypeId}
variable {I:bK} {O A:LU} {E:World} {α:Type} {R:bK→LU→List Value→α→Prop} {xs:List α} {v:α}
end
end
section
section
variable {P:Program} {ρ:dX} {w:World}
variable {d ty:Nat} {pos:String} {af:Array Edge} {x y z:Operand} {t u e:TypeId}
variable {I:bK} {O:LU} {E:World}
theorem Run.pickT {b:Bool} {v:Value} (hc:ev ρ x=.bool b) (hb:b=true) (hy:ev ρ y=v) :
  (execOp (ev ρ) (Oper.mk (some d) (.pick x y z) ty pos af none)).run P w=.ok (.value (v)) w:=
 (by subst hb;simp[execOp,hc,hy,asBool])
theorem Run.pickF {b:Bool} {v:Value} (hc:ev ρ x=.bool b) (hb:b=false) (hz:ev ρ z=v) :
  (execOp (ev ρ) (Oper.mk (some d) (.pick x y z) ty pos af none)).run P w=.ok (.value (v)) w:=
 (by subst hb;simp[execOp,hc,hz,asBool])
theorem Run.lss {k:IntKind} {a b:Int} (hx:ev ρ x=.int k a) (hy:ev ρ y=.int k b) :
  (execOp (ev ρ) (Oper.mk (some d) (.binOp .lss t x y u) ty pos af none)).run P w=.ok (.value ((.bool (decide (a<b))))) w:=
 (by rw[cJ hx hy (by decide) (by decide)];simp[binOp,Op.intCmp])
theorem Run.leq {k:IntKind} {a b:Int} (hx:ev ρ x=.int k a) (hy:ev ρ y=.int k b) :
  (execOp (ev ρ) (Oper.mk (some d) (.binOp .leq t x y u) ty pos af none)).run P w=.ok (.value ((.bool (decide (a≤b))))) w:=
 (by rw[cJ hx hy (by decide) (by decide)];simp[binOp,Op.intCmp])
theorem Run.gtr {k:IntKind} {a b:Int} (hx:ev ρ x=.int k a) (hy:ev ρ y=.int k b) :
  (execOp (ev ρ) (Oper.mk (some d) (.binOp .gtr t x y u) ty pos af none)).run P w=.ok (.value ((.bool (decide (b<a))))) w:=
 (by rw[cJ hx hy (by decide) (by decide)];simp[binOp,Op.intCmp])
theorem Run.geq {k:IntKind} {a b:Int} (hx:ev ρ x=.int k a) (hy:ev ρ y=.int k b) :
  (execOp (ev ρ) (Oper.mk (some d) (.binOp .geq t x y u) ty pos af none)).run P w=.ok (.value ((.bool (decide (b≤a))))) w:=
 (by rw[cJ hx hy (by decide) (by decide)];simp[binOp,Op.intCmp])
theorem Run.eqlI {k:IntKind} {a b:Int} (hx:ev ρ x=.int k a) (hy:ev ρ y=.int k b) :
  (execOp (ev ρ) (Oper.mk (some d) (.binOp .eql t x y u) ty pos af none)).run P w=.ok (.value ((.bool (decide (a=b))))) w:=
 (by
  rw[cJ hx hy (by decide) (by decide)]
  have e:(decide (a=b))=(a == b):=by by_cases h:a=b<;>simp[h]
  rw[e];simp[binOp,Op.intCmp])
theorem Run.neqI {k:IntKind} {a b:Int} (hx:ev ρ x=.int k a) (hy:ev ρ y=.int k b) :
  (execOp (ev ρ) (Oper.mk (some d) (.binOp .neq t x y u) ty pos af none)).run P w=.ok (.value ((.bool (decide (a≠b))))) w:=
 (by
  rw[cJ hx hy (by decide) (by decide)]
  have e:(decide (a≠b))=(a != b):=by by_cases h:a=b<;>simp[h]
  rw[e];simp[binOp,Op.intCmp])
theorem Run.add {a b:Int} (hx:ev ρ x=.int .i64 a) (hy:ev ρ y=.int .i64 b) (hr:lz (a+b)) :
  (execOp (ev ρ) (Oper.mk (some d) (.binOp .add t x y u) ty pos af none)).run P w=.ok (.value ((.int .i64 (a+b)))) w:=
 (by rw[cJ hx hy (by decide) (by decide)];simp[binOp,Op.intArith,IntWalk.i64_in _ hr])
theorem Run.sub {a b:Int} (hx:ev ρ x=.int .i64 a) (hy:ev ρ y=.int .i64 b) (hr:lz (a - b)) :
  (execOp (ev ρ) (Oper.mk (some d) (.binOp .sub t x y u) ty pos af none)).run P w=.ok (.value ((.int .i64 (a - b)))) w:=
 (by rw[cJ hx hy (by decide) (by decide)];simp[binOp,Op.intArith,IntWalk.i64_in _ hr])
theorem Run.mul {a b:Int} (hx:ev ρ x=.int .i64 a) (hy:ev ρ y=.int .i64 b) (hr:lz (a*b)) :
  (execOp (ev ρ) (Oper.mk (some d) (.binOp .mul t x y u) ty pos af none)).run P w=.ok (.value ((.int .i64 (a*b)))) w:=
 (by rw[cJ hx hy (by decide) (by decide)];simp[binOp,Op.intArith,IntWalk.i64_in _ hr])
theorem Run.addW {k:IntKind} {a b:Int} (hx:ev ρ x=.int k a) (hy:ev ρ y=.int k b) :
  (execOp (ev ρ) (Oper.mk (some d) (.binOp .add t x y u) ty pos af none)).run P w=.ok (.value ((.int k (k.wrap (a+b))))) w:=
 (by rw[cJ hx hy (by decide) (by decide)];simp[binOp,Op.intArith])
theorem Run.subW {k:IntKind} {a b:Int} (hx:ev ρ x=.int k a) (hy:ev ρ y=.int k b) :
  (execOp (ev ρ) (Oper.mk (some d) (.binOp .sub t x y u) ty pos af none)).run P w=.ok (.value ((.int k (k.wrap (a - b))))) w:=
 (by rw[cJ hx hy (by decide) (by decide)];simp[binOp,Op.intArith])
theorem Run.mulW {k:IntKind} {a b:Int} (hx:ev ρ x=.int k a) (hy:ev ρ y=.int k b) :
  (execOp (ev ρ) (Oper.mk (some d) (.binOp .mul t x y u) ty pos af none)).run P w=.ok (.value ((.int k (k.wrap (a*b))))) w:=
 (by rw[cJ hx hy (by decide) (by decide)];simp[binOp,Op.intArith])
theorem Run.not {b:Bool} (hx:ev ρ x=.bool b) :
  (execOp (ev ρ) (Oper.mk (some d) (.unOp .not t x) ty pos af none)).run P w=.ok (.value ((.bool (!b)))) w:=
 (by simp[execOp,hx,unary_not])
theorem Run.extract {vs:Array Value} {ix:Nat} {v:Value} (hx:ev ρ x=.tuple vs) (hv:vs[ix]?=some v) :
  (execOp (ev ρ) (Oper.mk (some d) (.extract x ix) ty pos af none)).run P w=.ok (.value (v)) w:=
 (by simp[execOp,hx,Instr.extract,hv])
theorem Run.nilCheck {a:Addr} (hx:ev ρ x=.pointer (some a)) :
  (execOp (ev ρ) (Oper.mk (some d) (.nilCheck x) ty pos af none)).run P w=.ok (.value ((.pointer (some a)))) w:=
 (by simp[execOp,hx])
theorem Run.lenS {a:Option Addr} {n c:Nat} {e:TypeId} (ht:P.underlying t=some (.slice e)) (hx:ev ρ x=.slice a n c) :
  (execOp (ev ρ) (Oper.mk (some d) (.call { callee:=.builtin .len,args:=#[x],argTypes:=#[t] }) ty pos af none)).run P w=.ok (.value ((.int .i64 n))) w:=
 (by simp[execOp,resolve,hx,invoke,builtin,Builtin.len_,run_underlying ht,goInt])
theorem Run.lenT {s:ByteArray} (ht:P.underlying t=some .string) (hx:ev ρ x=.string s) :
  (execOp (ev ρ) (Oper.mk (some d) (.call { callee:=.builtin .len,args:=#[x],argTypes:=#[t] }) ty pos af none)).run P w=.ok (.value ((.int .i64 s.size))) w:=
 (by simp[execOp,resolve,hx,invoke,builtin,Builtin.len_,run_underlying ht,goInt])
theorem Run.eqlT {a b:ByteArray} (hx:ev ρ x=.string a) (hy:ev ρ y=.string b) :
  (execOp (ev ρ) (Oper.mk (some d) (.binOp .eql t x y u) ty pos af none)).run P w=.ok (.value ((.bool (decide (a=b))))) w:=
 (by
  rw[←wq];simp only[execOp,hx,hy];simp[lI,binOp_string_eql])
theorem Run.neqT {a b:ByteArray} (hx:ev ρ x=.string a) (hy:ev ρ y=.string b) :
  (execOp (ev ρ) (Oper.mk (some d) (.binOp .neq t x y u) ty pos af none)).run P w=.ok (.value ((.bool (!decide (a=b))))) w:=
 (by
  rw[←wq];simp only[execOp,hx,hy];simp[lI,binOp_string_neq])
theorem Run.eqlB {a b:Bool} (ht:P.underlying t=some .bool) (hx:ev ρ x=.bool a) (hy:ev ρ y=.bool b) :
  (execOp (ev ρ) (Oper.mk (some d) (.binOp .eql t x y u) ty pos af none)).run P w=.ok (.value ((.bool (a == b)))) w:=
 (by simp only[execOp,hx,hy];simp[nE,run_eql_bool w t a b ht])
theorem Run.neqB {a b:Bool} (ht:P.underlying t=some .bool) (hx:ev ρ x=.bool a) (hy:ev ρ y=.bool b) :
  (execOp (ev ρ) (Oper.mk (some d) (.binOp .neq t x y u) ty pos af none)).run P w=.ok (.value ((.bool (!(a == b))))) w:=
 (by simp only[execOp,hx,hy];simp[nE,run_neq_bool w t a b ht])
theorem Run.load1 {b off:Nat} {v:Value} (ha:∀w,(isAgg t).run P w=.ok false w) (hS:SL I O E w) (hx:ev ρ x=.pointer (some ⟨b,off,none⟩)) (hv:At I O b off v)
  :
  (execOp (ev ρ) (Oper.mk (some d) (.load t x) ty pos af none)).run P w=.ok (.value (v)) w:=
 (by simp[execOp,hx,Instr.loadAt,Instr.sureAddr,loadVar,ha,hS.at_ hv])
theorem Run.loadA {b off:Nat} {cs:List Value} (ha:∀w,(isAgg t).run P w=.ok true w) (hs:∀w,(sizeOf t).run P w=.ok cs.length w) (hS:SL I O E w) (hx:ev ρ x=.pointer (some ⟨b,off,none⟩))
  (hv:∀j v,cs[j]?=some v→At I O b (off+j) v) :
  (execOp (ev ρ) (Oper.mk (some d) (.load t x) ty pos af none)).run P w=.ok (.value ((.agg cs.toArray))) w:=
 (by
  have hl:=run_loadCells_list (P:=P) w ⟨b,off,none⟩ cs (fun j v hj=>by rw[dP];exact hS.at_ (hv j v hj))
  simp[execOp,hx,Instr.loadAt,Instr.sureAddr,loadVar,ha,hs,hl])
theorem Run.idx {b off n c j k:Nat} {e:TypeId} {i:Int} (ht:P.underlying t=some (.slice e)) (hs:∀w,(sizeOf e).run P w=.ok k w) (hx:ev ρ x=.slice (some ⟨b,off,none⟩) n c)
  (hy:ev ρ y=.int .i64 i) (hi:i=(j:Int)) (hj:j<n) :
  (execOp (ev ρ) (Oper.mk (some d) (.indexAddr t x y) ty pos af none)).run P w=.ok (.value ((.pointer (some ⟨b,off+j*k,none⟩)))) w:=
 (by
  subst hi
  simp[execOp,hx,hy,Instr.indexAt,asIntOf,run_underlying ht,hs,hj,dP])
theorem Run.field {fs:Array Field} {f:Field} {i:Nat} {b off r:Nat} {sz:Nat} (ht:P.underlying t=some (.struct fs)) (hf:fs[i]?=some f) (hs:∀w,(sizeOf f.type).run P w=.ok sz w) (hz:sz≠0)
  (hx:ev ρ x=.pointer (some ⟨b,off,none⟩)) (hr:off+f.offset=r) :
  (execOp (ev ρ) (Oper.mk (some d) (.fieldAddr t x i) ty pos af none)).run P w=.ok (.value ((.pointer (some ⟨b,r,none⟩)))) w:=
 (by subst hr;simp[execOp,hx,Instr.fieldAt,run_underlying ht,hf,Instr.sureAddr,fieldPlace,hs,hz,dP])
end
def fE (W:Nat→Bool) (listed:Array Bool):Prop:=∃j,listed.getD j false=true∧W j=true
theorem mY {W:Nat→Bool} {listed:Array Bool} {i:Nat} (h:fE W listed):fE W (listed.setIfInBounds i true):=by
 obtain ⟨j,h1,h2⟩:=h
 refine ⟨j,?_,h2⟩
 rw[Array.getD_eq_getD_getElem?] at h1 ⊢
 rw[Array.getElem?_setIfInBounds]
 split
 ·rename_i e;subst e
  split
  ·rfl
  ·rename_i hn;rw[Array.getElem?_eq_none (by omega)] at h1;cases h1
 ·exact h1
theorem uc {W:Nat→Bool} {listed:Array Bool} {i:Nat} (hi:W i=false) (h:fE W (listed.setIfInBounds i true)):fE W listed:=by
 obtain ⟨j,h1,h2⟩:=h
 refine ⟨j,?_,h2⟩
 rw[Array.getD_eq_getD_getElem?] at h1 ⊢
 rw[Array.getElem?_setIfInBounds] at h1
 split at h1
 ·rename_i e;subst e;rw[hi] at h2;cases h2
 ·exact h1
def cV (P:Program) (ops:Array Oper) (S0 S:World→Prop) (W:Nat→Bool) (Q:dX→World→Prop):Nat→Array Bool→dX→World→Prop
 |0,listed,ρ,w=>Region.ready .any ops listed=[]∧Q ρ w
 |fuel+1,listed,ρ,w=>(Region.ready .any ops listed=[]→Q ρ w) ∧
   ∀i∈Region.ready .any ops listed,∀o,ops[i]?=some o→bY P ops (fun ρ' w'=>(S0 w'∧(fE W (listed.setIfInBounds i true)∨S w'))∧cV P ops S0 S W Q fuel (listed.setIfInBounds i true) ρ' w') [o] ρ w
theorem cV.any {P:Program} {n:Nat} {l:List Oper} {S0 S:World→Prop} {W:Nat→Bool} {Q:Exit→dX→World→Prop} (hd:ic n l=true):∀(fuel:Nat) (listed:Array Bool) (ρ:dX) (w:World) (a:Act),jL n a ρ →
  cV P l.toArray S0 S W (Q .normal) fuel listed ρ w→wpAny P .any l.toArray (Jh n Q) fuel listed a w
 |0,_,ρ,_,_,ha,h=>⟨h.1,ρ,ha,h.2⟩
 |fuel+1,listed,ρ,w,a,ha,h=>by
  refine ⟨fun h0=>⟨ρ,ha,h.1 h0⟩,fun i hi=>?_⟩
  obtain ⟨_,o,ho,_⟩:=mem_ready.1 hi
  have h2:=h.2 i hi o ho
  have hdo:o.dst.all (fun d=>decide (d<n))=true:=List.all_eq_true.1 hd _ (by simpa using Array.mem_of_getElem? ho)
  unfold wpOp
  simp only[ho]
  rw[ua ha _ _ (Ej hd)]
  unfold bY at h2
  split
  ·rename_i hw;rw[if_pos hw] at h2
   exact .inl (h2.wp ha fun v w' ⟨_,h3⟩=>cV.any hd fuel _ _ _ _ (ha.put hdo v) h3)
  ·rename_i hw;rw[if_neg hw] at h2
   exact cV.any hd fuel _ _ _ _ (ha.put hdo undef) h2.2
theorem CC (ρ:dX) {x y:Option Nat} (v u:Value) (h:∀d,x=some d→y≠some d):updO (updO ρ x v) y u=updO (updO ρ y u) x v:=by
 cases x with
 |none=>rfl
 |some d=>
  cases y with
  |none=>rfl
  |some e=>
   have hne:d≠e:=fun he=>h d rfl (he▸rfl)
   funext t
   simp only[updO]
   by_cases h1:t=d
   ·subst h1;rw[fV _ _ hne,lH,lH]
   ·rw[fV _ _ h1]
    by_cases h2:t=e
    ·subst h2;rw[lH,lH]
    ·rw[fV _ _ h2,fV _ _ h2,fV _ _ h1]
theorem BF {ρ:dX} {ops:Array Oper} {o:Oper} {d:Option Nat} {v:Value} (h:∀e,d=some e→e ∉ o.looksAt ops):∀x∈o.op.operands,ev (updO ρ d v) x=ev ρ x:=by
 intro x hx
 cases d with
 |none=>rfl
 |some e=>
  cases x with
  |tmp t=>
   have:t≠e:=fun he=>h e rfl (by
    subst he
    exact List.mem_append_left _ (List.mem_filterMap.2 ⟨.tmp t,by simpa using hx,rfl⟩))
   exact fV _ _ this
  |_=>rfl
theorem nF {ρ:dX} {ops:Array Oper} {o:Oper} {d:Option Nat} {v:Value} (h:∀e,d=some e→e ∉ o.looksAt ops):eJ ops o (updO ρ d v)=eJ ops o ρ:=by
 cases d with
 |none=>rfl
 |some e=>
  unfold eJ
  cases hg:o.guard with
  |none=>rfl
  |some gw=>
   obtain ⟨g,want⟩:=gw
   dsimp only
   cases ht:(ops[g]?).bind (fun o:Oper=>o.dst) with
   |none=>rfl
   |some t=>
    have hne:t≠e:=fun he=>h e rfl (by subst he;simp[Oper.looksAt,hg,ht])
    have:updO ρ (some e) v t=ρ t:=fV _ _ hne
    simp only[this]
def wu (P:Program) (ops:Array Oper) (S:World→Prop) (o:Oper) (v:Value) (ρ:dX):Prop:=
 (eJ ops o ρ=true∧∀w,S w→(execOp (ev ρ) o).run P w=.ok (.value v) w)∨(eJ ops o ρ=false∧v=undef)
theorem wu.ops {P:Program} {ops:Array Oper} {S:World→Prop} {o:Oper} {v:Value} {ρ:dX} {K:dX→World→Prop} {w:World} (h:wu P ops S o v ρ) (hS:S w) (hK:K (updO ρ o.dst v) w):bY P ops K [o] ρ w:=by
 unfold bY
 rcases h with ⟨h1,h2⟩|⟨h1,rfl⟩
 ·rw[if_pos h1];unfold lG;rw[h2 w hS];exact hK
 ·rw[if_neg (by simp[h1])];exact hK
theorem cV.first {P:Program} {ops:Array Oper} {S0 S:World→Prop} {W:Nat→Bool} {Q:dX→World→Prop} {i:Nat} {oi:Oper} {v:Value} (hi:ops[i]?=some oi) (hsel:∀(j:Nat) (o:Oper) cs b,ops[j]?=some o→o.op≠.select cs b)
  {Sx:World→Prop} {C:Array Bool→Prop} (hWi:W i=false)
  (hC:∀listed (j:Nat) oj,C listed→ops[j]?=some oj→j≠i→(∀e∈oj.after,Region.binds .any e=true→e.on≠i)→C (listed.setIfInBounds j true)) (hX:∀listed w,C listed→S0 w→(fE W listed∨S w)→Sx w) :
  ∀(fuel:Nat) (listed:Array Bool) (ρ:dX) (w:World),
   (∀j oj,ops[j]?=some oj→j≠i→listed.getD j true=false→(∀e∈oj.after,Region.binds .any e=true→e.on≠i)→oi.apart ops oj=true) →
   i∈Region.ready .any ops listed→wu P ops Sx oi v ρ→C listed→S0 w→(fE W listed∨S w) →
   cV P ops S0 S W Q fuel (listed.setIfInBounds i true) (updO ρ oi.dst v) w→cV P ops S0 S W Q (fuel+1) listed ρ w:=by
 intro fuel
 induction fuel with
 |zero=>
  intro listed ρ w _ hr hy hCl hS0 hS H
  refine ⟨fun h=>(by rw[h] at hr;cases hr),fun j hj o ho=>?_⟩
  by_cases hji:j=i
  ·subst hji
   rw[hi] at ho;cases ho
   exact hy.ops (hX _ _ hCl hS0 hS) ⟨⟨hS0,hS.imp mY id⟩,H⟩
  ·have:=ready_mono hj hji
   rw[H.1] at this
   cases this
 |succ fuel ih=>
  intro listed ρ w hfree hr hy hCl hS0 hS H
  refine ⟨fun h=>(by rw[h] at hr;cases hr),fun j hj oj hoj=>?_⟩
  by_cases hji:j=i
  ·subst hji
   rw[hi] at hoj;cases hoj
   exact hy.ops (hX _ _ hCl hS0 hS) ⟨⟨hS0,hS.imp mY id⟩,H⟩
  ·obtain ⟨hjun,oj',hoj',hall⟩:=mem_ready.1 hj
   rw[hoj] at hoj';cases hoj'
   have hnot:∀e∈oj.after,Region.binds .any e=true→e.on≠i:=fun e he hb heq=>by
    have h1:=hall e he hb
    have h0:=(mem_ready.1 hr).1
    rw[heq] at h1
    rcases Nat.lt_or_ge i listed.size with h'|h'
    ·simp[h'] at h0 h1;rw[h0] at h1;cases h1
    ·simp[Array.getElem?_eq_none h'] at h1
   have h1:=H.2 j (ready_mono hj hji) oj hoj
   obtain ⟨a1,a2,a3⟩:=Oper.apart_spec (hfree j oj hoj hji hjun hnot)
   have hwt:=nF (ρ:=ρ) (v:=v) (ops:=ops) (o:=oj) (d:=oi.dst) a1
   have hex:execOp (ev (updO ρ oi.dst v)) oj=execOp (ev ρ) oj:=execOp_congr oj (fun cs b=>hsel j oj cs b hoj) (BF a1)
   have hfree':∀k ok,ops[k]?=some ok→k≠i→(listed.setIfInBounds j true).getD k true=false →
     (∀e∈ok.after,Region.binds .any e=true→e.on≠i)→oi.apart ops ok=true:=fun k ok hk hki hun hno=>by
    refine hfree k ok hk hki ?_ hno
    by_cases hjk:j=k
    ·subst hjk;exact hjun
    ·rw[getD_set_ne true hjk] at hun;exact hun
   have keep:∀u,wu P ops Sx oi v (updO ρ oj.dst u):=fun u=>by
    unfold wu at *
    rw[nF a3,execOp_congr oi (fun cs b=>hsel i oi cs b hi) (BF a3)]
    exact hy
   have next:∀u w',((S0 w'∧(fE W ((listed.setIfInBounds i true).setIfInBounds j true)∨S w'))∧cV P ops S0 S W Q fuel ((listed.setIfInBounds i true).setIfInBounds j true) (updO (updO ρ oi.dst v) oj.dst u) w') →
     (S0 w'∧(fE W (listed.setIfInBounds j true)∨S w'))∧cV P ops S0 S W Q (fuel+1) (listed.setIfInBounds j true) (updO ρ oj.dst u) w':=by
    rintro u w' ⟨h2,h3⟩
    have hS':fE W (listed.setIfInBounds j true)∨S w':=h2.2.imp (fun h=>by
     rw[Array.setIfInBounds_comm _ _ (Ne.symm hji)] at h
     exact uc hWi h) id
    refine ⟨⟨h2.1,hS'⟩,ih _ _ _ hfree' (ready_mono hr (Ne.symm hji)) (keep u) (hC _ _ _ hCl hoj hji hnot) h2.1 hS' ?_⟩
    rw[←CC ρ v u a2,Array.setIfInBounds_comm _ _ hji]
    exact h3
   unfold bY at h1 ⊢
   rw[hwt] at h1
   split
   ·rename_i hw;rw[if_pos hw] at h1
    unfold lG at h1 ⊢
    rw[hex] at h1
    split
    ·rename_i heq;rw[heq] at h1;exact next _ _ h1
    ·rename_i heq;rw[heq] at h1;exact next _ _ h1
    ·rename_i heq;rw[heq] at h1
     exact h1.mono fun e w'' ⟨u,he,hK⟩=>⟨u,he,next _ _ hK⟩
    ·rename_i h4 h5 h6
     split at h1
     ·rename_i heq;exact (h4 _ _ heq).elim
     ·rename_i heq;exact (h5 _ heq).elim
     ·rename_i heq;exact (h6 _ _ _ heq).elim
     ·exact h1
   ·rename_i hw;rw[if_neg hw] at h1
    exact next _ _ h1
def iR (l:List Oper) (i:Nat) (W:Nat→Bool):Bool:=(List.range l.length).all fun j=>j == i||!W j||(match l[j]? with|some oj=>oj.after.any (fun e=>Region.binds .any e&&e.on == i)|none=>true)
theorem wv {l:List Oper} {i:Nat} {W:Nat→Bool} (h:iR l i W=true) (j:Nat) (oj:Oper) (hj:l.toArray[j]?=some oj) (hne:j≠i) (hw:W j=true):∃e∈oj.after,Region.binds .any e=true∧e.on=i:=by
 simp only[iR,List.all_eq_true,List.mem_range] at h
 have hj':l[j]?=some oj:=by simpa using hj
 have:=h j (List.getElem?_eq_some_iff.1 hj').1
 simp only[hj',hw,Bool.not_true,Bool.or_false,Bool.or_eq_true,beq_iff_eq,hne,false_or] at this
 obtain ⟨e,he,hb⟩:=Array.any_eq_true'.1 this
 simp only[Bool.and_eq_true,beq_iff_eq] at hb
 exact ⟨e,he,hb.1,hb.2⟩
def gz (W:Nat→Bool) (listed:Array Bool):Bool:=(List.range listed.size).all fun j=>!(listed.getD j false&&W j)
theorem lJ {W:Nat→Bool} {listed:Array Bool} (h:gz W listed=true):¬fE W listed:=fun ⟨j,h1,h2⟩=>by
 have hj:j<listed.size:=by
  rcases Nat.lt_or_ge j listed.size with h|h
  ·exact h
  ·rw[Array.getD_eq_getD_getElem?,Array.getElem?_eq_none h] at h1;cases h1
 have:=List.all_eq_true.1 h j (List.mem_range.2 hj)
 rw[h1,h2] at this;cases this
theorem lK {l:List Oper} {i:Nat} {W:Nat→Bool} (hW:iR l i W=true) (listed:Array Bool) (j:Nat) (oj:Oper) (hc:¬fE W listed) (hj:l.toArray[j]?=some oj) (hne:j≠i) (hno:∀e∈oj.after,Region.binds .any e=true→e.on≠i):¬fE W (listed.setIfInBounds j true):=fun h=>by
 refine hc (uc ?_ h)
 cases hw:W j with
 |false=>rfl
 |true=>
  obtain ⟨e,he,hb,hon⟩:=wv hW j oj hj hne hw
  exact absurd hon (hno e he hb)
section
variable {P:Program} {n:Nat} {l:List Oper} {S0 S:World→Prop} {W:Nat→Bool} {Q:dX→World→Prop} {fuel:Nat} {listed:Array Bool} {ρ:dX} {w:World}
variable {d ty:Nat} {op:Op} {pos:String} {af:Array Edge}
theorem WP.regionDraw (S0 S:World→Prop) (W:Nat→Bool) {Q:Exit→dX→World→Prop} {id:Nat} (hm:P.follows .mixedOrders=true) (hd:ic n l=true) (h:∀w',w'=w.drew→cV P l.toArray S0 S W (Q .normal) l.length (Array.replicate l.length false) ρ w'):WP P n (.region id l.toArray true) Q ρ w:=fun a ha=>
 wp_region_any hm (by have:=cV.any (S0:=S0) (S:=S) (W:=W) hd _ _ _ _ a ha (h _ rfl);simpa using this)
theorem cV.take {i:Nat} {v:Value} (hi:l[i]?=some (Oper.mk (some d) op ty pos af none)) (hs:Region.noSelect l.toArray=true) (hf:Region.free .any l.toArray listed i=true)
  (hr:(Region.ready .any l.toArray listed).contains i=true) (hW:iR l i W=true) (hWi:W i=false) (hcl:gz W listed=true) (hS0:S0 w) (hS:S w) (hy:∀w,S w→(execOp (ev ρ) (Oper.mk (some d) op ty pos af none)).run P w=.ok (.value v) w)
  (h:cV P l.toArray S0 S W Q fuel (listed.setIfInBounds i true) (upd ρ d v) w):cV P l.toArray S0 S W Q (fuel+1) listed ρ w:=
 cV.first (oi:=Oper.mk (some d) op ty pos af none) (by simpa using hi) (Region.noSelect_spec hs) (Sx:=S) (C:=fun listed=>¬fE W listed) hWi (lK hW) (fun _ _ h1 _ h2=>h2.resolve_left h1) fuel listed ρ w (Region.free_spec (by simpa using hi) hf) (by simpa using hr) (.inl ⟨rfl,hy⟩) (lJ hcl) hS0 (.inr hS) h
theorem cV.takeK {i:Nat} {v:Value} (hi:l[i]?=some (Oper.mk (some d) op ty pos af none)) (hs:Region.noSelect l.toArray=true) (hf:Region.free .any l.toArray listed i=true)
  (hr:(Region.ready .any l.toArray listed).contains i=true) (hWi:W i=false) (hS0:S0 w) (hS:fE W listed∨S w) (hy:∀w,S0 w→(execOp (ev ρ) (Oper.mk (some d) op ty pos af none)).run P w=.ok (.value v) w)
  (h:cV P l.toArray S0 S W Q fuel (listed.setIfInBounds i true) (upd ρ d v) w):cV P l.toArray S0 S W Q (fuel+1) listed ρ w:=
 cV.first (oi:=Oper.mk (some d) op ty pos af none) (by simpa using hi) (Region.noSelect_spec hs) (Sx:=S0) (C:=fun _=>True) hWi (fun _ _ _ _ _ _ _=>trivial) (fun _ _ _ h _=>h) fuel listed ρ w (Region.free_spec (by simpa using hi) hf) (by simpa using hr) (.inl ⟨rfl,hy⟩) trivial hS0 hS h
theorem cV.takeT {i j s:Nat} {b t:Bool} {v:Value} (hi:l[i]?=some (Oper.mk (some d) op ty pos af (some (j,b)))) (hg:(l[j]?).bind (fun o:Oper=>o.dst)=some s) (hv:ρ s=.bool t) (ht:t=b) (hs:Region.noSelect l.toArray=true) (hf:Region.free .any l.toArray listed i=true)
  (hr:(Region.ready .any l.toArray listed).contains i=true) (hW:iR l i W=true) (hWi:W i=false) (hcl:gz W listed=true) (hS0:S0 w) (hS:S w) (hy:∀w,S w→(execOp (ev ρ) (Oper.mk (some d) op ty pos af none)).run P w=.ok (.value v) w)
  (h:cV P l.toArray S0 S W Q fuel (listed.setIfInBounds i true) (upd ρ d v) w):cV P l.toArray S0 S W Q (fuel+1) listed ρ w:=
 cV.first (oi:=Oper.mk (some d) op ty pos af (some (j,b))) (by simpa using hi) (Region.noSelect_spec hs) (Sx:=S) (C:=fun listed=>¬fE W listed) hWi (lK hW) (fun _ _ h1 _ h2=>h2.resolve_left h1) fuel listed ρ w (Region.free_spec (by simpa using hi) hf) (by simpa using hr)
  (.inl ⟨by simp only[eJ,List.getElem?_toArray,hg,hv,ht];simp,hy⟩) (lJ hcl) hS0 (.inr hS) h
theorem cV.takeF {i j s:Nat} {b t:Bool} (hi:l[i]?=some (Oper.mk (some d) op ty pos af (some (j,b)))) (hg:(l[j]?).bind (fun o:Oper=>o.dst)=some s) (hv:ρ s=.bool t) (ht:t=!b) (hs:Region.noSelect l.toArray=true) (hf:Region.free .any l.toArray listed i=true)
  (hr:(Region.ready .any l.toArray listed).contains i=true) (hW:iR l i W=true) (hWi:W i=false) (hcl:gz W listed=true) (hS0:S0 w) (hS:S w)
  (h:cV P l.toArray S0 S W Q fuel (listed.setIfInBounds i true) (upd ρ d undef) w):cV P l.toArray S0 S W Q (fuel+1) listed ρ w:=
 cV.first (oi:=Oper.mk (some d) op ty pos af (some (j,b))) (by simpa using hi) (Region.noSelect_spec hs) (Sx:=S) (C:=fun listed=>¬fE W listed) hWi (lK hW) (fun _ _ h1 _ h2=>h2.resolve_left h1) fuel listed ρ w (Region.free_spec (by simpa using hi) hf) (by simpa using hr)
  (.inr ⟨by simp only[eJ,List.getElem?_toArray,hg,hv,ht];cases b<;>simp,rfl⟩) (lJ hcl) hS0 (.inr hS) h
theorem cV.one {i:Nat} {o:Oper} (hi:l[i]?=some o) (hr:Region.ready .any l.toArray listed=[i])
  (h:bY P l.toArray (fun ρ' w'=>(S0 w'∧(fE W (listed.setIfInBounds i true)∨S w'))∧cV P l.toArray S0 S W Q fuel (listed.setIfInBounds i true) ρ' w') [o] ρ w):cV P l.toArray S0 S W Q (fuel+1) listed ρ w:=by
 refine ⟨fun h0=>(by rw[hr] at h0;cases h0),fun j hj o' ho'=>?_⟩
 rw[hr,List.mem_singleton] at hj
 subst hj
 have:o'=o:=by
  rw[List.getElem?_toArray,hi] at ho'
  exact (Option.some.inj ho').symm
 subst this
 exact h
theorem cV.done (hr:Region.ready .any l.toArray listed=[]) (h:Q ρ w):cV P l.toArray S0 S W Q fuel listed ρ w:=by
 cases fuel with
 |zero=>exact ⟨hr,h⟩
 |succ fuel=>exact ⟨fun _=>h,by rw[hr];intro i hi;cases hi⟩
end
end
section
section
variable {P:Program} {ops:Array Oper} {K:dX→World→Prop} {ρ:dX} {w:World} {rest:List Oper}
variable {d ty:Nat} {pos:String} {af:Array Edge} {x y:Operand} {t e:TypeId} {I:bK} {O:LU} {E:World}
theorem Fn.ofCalls {f:FuncId} {fn:Func} {c:Code} {args:Array Value} {R:Value→World→Prop} (hf:P.funcs[f]?=some fn) (hb:fn.body=some c) (hn:fn.name≠"runtime.NumGoroutine")
  (h:Calls P f args w fun e w'=>∃v,e=.returned v∧R v w'):Fn P f args w R:=⟨⟨fn,c,hf,hb,hn⟩,h⟩
theorem SL.below {w':World} (h:SL I O E w) (hb:Go.RowKit.Below w.heap.size w w'):SL I O E w':=
 ⟨hb.os.trans h.os,hb.output.trans h.output,hb.tape.trans h.tape,fun b o hI=>by rw[hb.block b (d8 (h.pers b o hI))];exact h.pers b o hI,
  fun x hx=>by rw[hb.block x.1 (d8 (h.own x hx))];exact h.own x hx,h.nodup,h.apart,h.base,h.flat,h.oflat⟩
theorem bY.rangeT {s:ByteArray} (ht:P.underlying t=some .string) (hS:SL I O E w) (hx:ev ρ x=.string s)
  (h:∀b w',SL I ((b,.stringIter s 0)::O) E w'→bY P ops K rest (upd ρ d (.pointer (some ⟨b,0,none⟩))) w'):bY P ops K (Oper.mk (some d) (.range t x) ty pos af none::rest) ρ w:=by
 refine bY.step rfl ?_
 unfold lG
 have:(execOp (ev ρ) (Oper.mk (some d) (.range t x) ty pos af none)).run P w=.ok (.value (.pointer (some ⟨w.heap.size,0,none⟩))) (w.alloc (.stringIter s 0)):=by
  simp[execOp,Instr.range,hx,run_underlying ht]
 rw[this]
 exact h _ _ (hS.alloc _)
theorem lL {s:ByteArray} {p b:Nat} (hb:w.heap[b]?=some (.stringIter s p)):(getObj b).run P w=.ok (.stringIter s p) w:=by
 unfold getObj;rw[Sem.run,hb];rfl
theorem qL {s:ByteArray} {p b:Nat} (hb:w.heap[b]?=some (.stringIter s p)) (o:Obj):(setObj b o).run P w=.ok () { w with heap:=w.heap.setIfInBounds b o }:=by
 unfold setObj;rw[Sem.run,hb];rfl
theorem bY.nextT {s:ByteArray} {p b:Nat} (hS:SL I ((b,.stringIter s p)::O) E w) (hx:ev ρ x=.pointer (some ⟨b,0,none⟩)) (hp:p<s.size)
  (h:∀w',SL I ((b,.stringIter s (p+(Utf8.decode s p).2))::O) E w'→bY P ops K rest (upd ρ d (.tuple [.bool true,.int .i64 p,.int .i32 (Utf8.decode s p).1].toArray)) w'):bY P ops K (Oper.mk (some d) (.next x true) ty pos af none::rest) ρ w:=by
 have hb:=hS.own _ (.head _)
 simp only at hb
 refine bY.step rfl ?_
 unfold lG
 have:(execOp (ev ρ) (Oper.mk (some d) (.next x true) ty pos af none)).run P w=.ok (.value (.tuple [.bool true,.int .i64 p,.int .i32 (Utf8.decode s p).1].toArray)) { w with heap:=w.heap.setIfInBounds b (.stringIter s (p+(Utf8.decode s p).2)) }:=by
  simp[execOp,Instr.next,hx,lL hb,qL hb,Result.andThen,hp,goInt]
 rw[this]
 refine h _ (hS.turn rfl rfl rfl ?_ ?_)
 ·simp[d8 hb]
 ·intro k hk;simp[Array.getElem?_setIfInBounds,Ne.symm hk]
theorem bY.nextTover {s:ByteArray} {p b:Nat} (hS:SL I ((b,.stringIter s p)::O) E w) (hx:ev ρ x=.pointer (some ⟨b,0,none⟩)) (hp:¬p<s.size)
  (h:bY P ops K rest (upd ρ d (.tuple [.bool false].toArray)) w):bY P ops K (Oper.mk (some d) (.next x true) ty pos af none::rest) ρ w:=by
 have hb:=hS.own _ (.head _)
 simp only at hb
 refine bY.step rfl ?_
 unfold lG
 have:(execOp (ev ρ) (Oper.mk (some d) (.next x true) ty pos af none)).run P w=.ok (.value (.tuple [.bool false].toArray)) w:=by
  simp[execOp,Instr.next,hx,lL hb,Result.andThen,hp]
 rw[this]
 exact h
section
variable {n:Nat} {R:Value→World→Prop}
end
theorem uV {s:ByteArray} {p:Nat} {b:UInt8} (h:s.data[p]?=some b) (hb:b<128):Utf8.decode s p=(b.toNat,1):=by
 unfold Utf8.decode
 have h1:s.get! p=b:=by
  show s.data[p]! = b
  rw[getElem!_def,h]
 have h2:b.toNat<128:=hb
 simp[h1,h2]
theorem bY.guardU {dd:Option Nat} {op:Op} {j s:Nat} {b:Bool} (hs:(ops[j]?).bind (fun o:Oper=>o.dst)=some s) (hv:ρ s=undef)
  (k:bY P ops K rest (updO ρ dd undef) w):bY P ops K (Oper.mk dd op ty pos af (some (j,b))::rest) ρ w:=by
 unfold bY
 rw[if_neg (by simp only[eJ,hs,hv];simp[undef])]
 exact k
theorem SL.more {w':World} (h:SL I O E w) (h1:w'.os=w.os) (h2:w'.output=w.output) (h3:w'.tape=w.tape) (h4:∀k,k<w.heap.size→w'.heap[k]?=w.heap[k]?):SL I O E w':=
 ⟨h1.trans h.os,h2.trans h.output,h3.trans h.tape,fun b o hI=>by rw[h4 b (d8 (h.pers b o hI))];exact h.pers b o hI,
  fun x hx=>by rw[h4 x.1 (d8 (h.own x hx))];exact h.own x hx,h.nodup,h.apart,h.base,h.flat,h.oflat⟩
end
end
section
inductive AV where
 |any
 |bool (b:Bool)
 |int (k:IntKind) (n:Int)
 |str (s:ByteArray)
 |agg (cs:List AV)
 |tup (vs:List AV)
 |fro (k:Nat) (rows:List (List AV))
 |own (id n:Nat)
 |po (id off:Nat)
 |os (id off n:Nat)
 |pf (cs:List AV)
 |raw (v:Value)
 |fn (f:FuncId) (first captured:List AV)
 |ifc (t:TypeId) (v:AV)
 |ext (p:bK→Value→Prop)
 deriving Inhabited
abbrev AV.n:AV:=.raw (.slice none 0 0)
abbrev AV.e:AV:=.str ⟨#[]⟩
abbrev AV.i (n:Int):AV:=.int .i64 n
structure G where
 k:bK
 h:Nat→Option (Option Nat × Nat)
structure G.le (I J:G):Prop where
 k:I.k.le J.k
 h:∀i x,I.h i=some x→J.h i=some x
theorem G.le.refl (I:G):I.le I:=⟨bK.le.refl _,fun _ _ h=>h⟩
theorem G.le.trans {I J K:G} (h:I.le J) (k:J.le K):I.le K:=⟨h.k.trans k.k,fun i x hi=>k.h i x (h.h i x hi)⟩
def Ef (I:bK) (b i:Nat) (v:Value):Prop:=∃c T f,I b=some (.cells c T f)∧c[i]?=some v
theorem Ef.mono {I J:bK} (h:I.le J) {b i:Nat} {v:Value} (hk:Ef I b i v):Ef J b i v:=let ⟨c,T,f,h1,h2⟩:=hk;⟨c,T,f,h _ _ h1,h2⟩
theorem Ef.at_ {I:bK} {b i:Nat} {v:Value} (h:Ef I b i v) (O:List (Nat × Obj)):At I O b i v:=.inl h
def adr (b:Option Nat):Option Addr:=b.map fun b=>⟨b,0,none⟩
mutual
def cC (I:G):AV→Value→Prop
 |.any,_=>True
 |.bool b,v=>v=.bool b
 |.int k n,v=>v=.int k n
 |.str s,v=>v=.string s
 |.agg cs,v=>∃vs:List Value,v=.agg vs.toArray∧RepL I cs vs
 |.tup cs,v=>∃vs:List Value,v=.tuple vs.toArray∧RepL I cs vs
 |.fro k rows,v=>∃a n c,v=.slice a n c∧n=rows.length∧n≤c∧(a=none→c=0)∧RepR I k a 0 rows
 |.own id n,v=>∃b c,I.h id=some (b,c)∧v=.slice (adr b) n c
 |.po id off,v=>∃b c,I.h id=some (some b,c)∧v=.pointer (some ⟨b,off,none⟩)
 |.os id off n,v=>∃b c,I.h id=some (some b,c)∧v=.slice (some ⟨b,off,none⟩) n n
 |.pf cs,v=>∃b off vs,v=.pointer (some ⟨b,off,none⟩)∧RepL I cs vs∧∀(j:Nat) u,vs[j]?=some u→Ef I.k b (off+j) u
 |.raw w,v=>v=w
 |.fn f a c,v=>∃vs us:List Value,v=.func (.func f) vs.toArray us.toArray∧RepL I a vs∧RepL I c us
 |.ifc t x,v=>∃u,v=.iface t u∧cC I x u
 |.ext p,v=>v.oneCell'=true∧∀J:bK,I.k.le J→p J v
def RepL (I:G):List AV→List Value→Prop
 |[],vs=>vs=[]
 |x::xs,vs=>∃v us,vs=v::us∧cC I x v∧RepL I xs us
def RepR (I:G) (k:Nat) (a:Option Addr) (j:Nat):List (List AV)→Prop
 |[]=>True
 |r::rs=>(∃b off vs,a=some ⟨b,off,none⟩∧vs.length=k∧RepL I r vs∧∀(i:Nat) u,vs[i]?=some u→Ef I.k b (off+j*k+i) u)∧RepR I k a (j+1) rs
end
mutual
theorem cC.mono {I J:G} (h:I.le J):∀(x:AV) (v:Value),cC I x v→cC J x v
 |.any,_,_=>trivial
 |.bool _,_,e=>e
 |.int _ _,_,e=>e
 |.str _,_,e=>e
 |.agg cs,_,⟨vs,e,h1⟩=>⟨vs,e,RepL.mono h cs vs h1⟩
 |.tup cs,_,⟨vs,e,h1⟩=>⟨vs,e,RepL.mono h cs vs h1⟩
 |.fro k rows,_,⟨a,n,c,e,h1,h2,h3,h4⟩=>⟨a,n,c,e,h1,h2,h3,RepR.mono h k a 0 rows h4⟩
 |.own id _,_,⟨b,c,h1,e⟩=>⟨b,c,h.h _ _ h1,e⟩
 |.po id _,_,⟨b,c,h1,e⟩=>⟨b,c,h.h _ _ h1,e⟩
 |.os id _ _,_,⟨b,c,h1,e⟩=>⟨b,c,h.h _ _ h1,e⟩
 |.pf cs,_,⟨b,off,vs,e,h1,h2⟩=>⟨b,off,vs,e,RepL.mono h cs vs h1,fun j u hj=>(h2 j u hj).mono h.k⟩
 |.raw _,_,e=>e
 |.fn _ a c,_,⟨vs,us,e,h1,h2⟩=>⟨vs,us,e,RepL.mono h a vs h1,RepL.mono h c us h2⟩
 |.ifc _ x,_,⟨u,e,h1⟩=>⟨u,e,cC.mono h x u h1⟩
 |.ext _,_,⟨h1,h2⟩=>⟨h1,fun J hJ=>h2 J (h.k.trans hJ)⟩
theorem RepL.mono {I J:G} (h:I.le J):∀(x:List AV) (v:List Value),RepL I x v→RepL J x v
 |[],_,e=>e
 |x::xs,_,⟨v,us,e,h1,h2⟩=>⟨v,us,e,cC.mono h x v h1,RepL.mono h xs us h2⟩
theorem RepR.mono {I J:G} (h:I.le J) (k:Nat) (a:Option Addr) (j:Nat):∀(rows:List (List AV)),RepR I k a j rows→RepR J k a j rows
 |[],_=>trivial
 |r::rs,⟨⟨b,off,vs,e,h1,h2,h3⟩,h4⟩=>⟨⟨b,off,vs,e,h1,RepL.mono h r vs h2,fun i u hi=>(h3 i u hi).mono h.k⟩,RepR.mono h k a (j+1) rs h4⟩
end
theorem RepL.length {I:G}:∀{xs:List AV} {vs:List Value},RepL I xs vs→vs.length=xs.length
 |[],_,e=>by simp[RepL] at e;simp[e]
 |x::xs,_,⟨v,us,e,_,h2⟩=>by subst e;simp[RepL.length h2]
theorem RepL.get {I:G}:∀{xs:List AV} {vs:List Value},RepL I xs vs→∀{j:Nat} {x:AV},xs[j]?=some x→∃v,vs[j]?=some v∧cC I x v
 |[],_,_,j,x,hj=>by simp at hj
 |y::ys,_,⟨v,us,e,h1,h2⟩,j,x,hj=>by
  subst e
  cases j with
  |zero=>simp at hj;subst hj;exact ⟨v,rfl,h1⟩
  |succ j=>simp at hj;simpa using RepL.get h2 hj
theorem RepL.take {I:G}:∀{xs:List AV} {vs:List Value},RepL I xs vs→∀n,RepL I (xs.take n) (vs.take n)
 |[],_,e,n=>by simp[RepL] at e;simp[e,RepL]
 |y::ys,_,⟨v,us,e,h1,h2⟩,n=>by
  subst e
  cases n with
  |zero=>simp[RepL]
  |succ n=>exact ⟨v,us.take n,by simp,h1,RepL.take h2 n⟩
theorem RepL.drop {I:G}:∀{xs:List AV} {vs:List Value},RepL I xs vs→∀n,RepL I (xs.drop n) (vs.drop n)
 |[],_,e,n=>by simp[RepL] at e;simp[e,RepL]
 |y::ys,_,⟨v,us,e,h1,h2⟩,n=>by
  subst e
  cases n with
  |zero=>exact ⟨v,us,rfl,h1,h2⟩
  |succ n=>simpa using RepL.drop h2 n
theorem RepL.append {I:G}:∀{xs ys:List AV} {vs us:List Value},RepL I xs vs→RepL I ys us→RepL I (xs++ys) (vs++us)
 |[],_,_,_,e,h=>by simp[RepL] at e;simpa [e] using h
 |y::ys,_,_,_,⟨v,us,e,h1,h2⟩,h=>by subst e;exact ⟨v,_,rfl,h1,RepL.append h2 h⟩
theorem RepR.get {I:G} {k:Nat} {a:Option Addr}:∀{rows:List (List AV)} {j0:Nat},RepR I k a j0 rows→∀{j:Nat} {r:List AV},rows[j]?=some r →
  ∃b off vs,a=some ⟨b,off,none⟩∧vs.length=k∧RepL I r vs∧∀(i:Nat) u,vs[i]?=some u→Ef I.k b (off+(j0+j)*k+i) u
 |[],_,_,j,r,hj=>by simp at hj
 |r::rs,j0,⟨h1,h2⟩,j,r',hj=>by
  cases j with
  |zero=>simp at hj;subst hj;simpa using h1
  |succ j=>
   simp at hj
   have:=RepR.get h2 hj
   have e:j0+1+j=j0+(j+1):=by omega
   rwa [e] at this
theorem RepR.intro {I:G} {k:Nat} {a:Option Addr}:∀{rows:List (List AV)} {j0:Nat},(∀(j:Nat) (r:List AV),rows[j]?=some r →
  ∃b off vs,a=some ⟨b,off,none⟩∧vs.length=k∧RepL I r vs∧∀(i:Nat) u,vs[i]?=some u→Ef I.k b (off+(j0+j)*k+i) u)→RepR I k a j0 rows
 |[],_,_=>trivial
 |r::rs,j0,h=>⟨by simpa using h 0 r rfl,RepR.intro fun j r' hj=>by
   have:=h (j+1) r' (by simpa using hj)
   have e:j0+1+j=j0+(j+1):=by omega
   rwa [e]⟩
theorem RepL.one {I:G} {x:AV} {v:Value} (h:cC I x v):RepL I [x] [v]:=⟨v,[],rfl,h,rfl⟩
def AV.cell:AV→Bool
 |.any | .agg _ | .tup _=>false
 |.raw v=>v.oneCell'
 |_=>true
theorem AV.cell_rep {I:G} {x:AV} {v:Value} (h:cC I x v) (hc:x.cell=true):v.oneCell'=true:=by
 cases x<;>simp only[cC,AV.cell] at h hc
 all_goals first
  |(cases hc;done)
  |exact h.1
  |(subst h;first|rfl|exact hc)
  |(obtain ⟨_,_,_,e,_⟩:=h;subst e;rfl)
  |(obtain ⟨_,_,e,_⟩:=h;subst e;rfl)
  |(obtain ⟨_,_,_,e⟩:=h;subst e;rfl)
  |(obtain ⟨_,e,_⟩:=h;subst e;rfl)
abbrev aT:=Nat→AV
def eW (I:G) (e:aT) (ρ:dX):Prop:=∀t,cC I (e t) (ρ t)
def bz (e:aT) (d:Nat) (v:AV):aT:=fun t=>bif Nat.beq t d then v else e t
def Ek (e:aT) (d:Option Nat) (v:AV):aT:=match d with|some d=>bz e d v|none=>e
def bc (e:aT):Operand→AV
 |.tmp t=>e t
 |.const (.bool b)=>.bool b
 |.const (.int k n)=>.int k n
 |.const (.string s)=>.str s
 |.const v=>.raw v
 |.global g=>.raw (.pointer (some ⟨g,0,none⟩))
 |.func f=>.fn f [] []
theorem eW.upd {I:G} {e:aT} {ρ:dX} (h:eW I e ρ) (d:Nat) {x:AV} {v:Value} (hx:cC I x v):eW I (bz e d x) (upd ρ d v):=fun t=>by
 unfold bz Go.Proofs.YtbbonnfjealmpaaGreatDoor.upd
 cases Nat.beq t d
 ·exact h t
 ·exact hx
theorem eW.updO {I:G} {e:aT} {ρ:dX} (h:eW I e ρ) (d:Option Nat) {x:AV} {v:Value} (hx:cC I x v):eW I (Ek e d x) (updO ρ d v):=by
 cases d with
 |none=>exact h
 |some d=>exact h.upd d hx
theorem eW.ev {I:G} {e:aT} {ρ:dX} (h:eW I e ρ):∀x,cC I (bc e x) (ev ρ x)
 |.tmp t=>h t
 |.const v=>by cases v<;>exact rfl
 |.global _=>rfl
 |.func _=>⟨[],[],rfl,rfl,rfl⟩
theorem eW.mono {I J:G} {e:aT} {ρ:dX} (hl:I.le J) (h:eW I e ρ):eW J e ρ:=fun t=>cC.mono hl _ _ (h t)
theorem eW.evs {I:G} {e:aT} {ρ:dX} (h:eW I e ρ):∀l:List Operand,RepL I (l.map (bc e)) (l.map (Go.Proofs.YtbbonnfjealmpaaGreatDoor.ev ρ))
 |[]=>rfl
 |x::l=>⟨_,_,rfl,h.ev x,h.evs l⟩
inductive bC where
 |cells (T:TypeId) (cs:List AV)
 |grow (k:Nat) (T:TypeId) (cs:List AV)
 |iter (s:ByteArray) (p:Nat)
 |heap (p:List (Nat × Obj)→Prop)
 |heapG (p:G→List (Nat × Obj)→Prop) (hp:∀I J L,G.le I J→p I L→p J L)
 deriving Inhabited
abbrev OL:=List (Nat × bC)
def qM (I:G) (x:Nat × bC) (L:List (Nat × Obj)):Prop:=
 match x.2 with
 |.cells T cs=>∃b c vs,I.h x.1=some (some b,c)∧RepL I cs vs∧(∀u∈vs,u.oneCell'=true)∧L=[(b,.cells vs.toArray T (0,0))]
 |.grow k T cs=>∃b c n vs,I.h x.1=some (b,c)∧RepL I cs vs∧(∀u∈vs,u.oneCell'=true)∧fe k T (adr b) n c vs L
 |.iter s p=>∃b c,I.h x.1=some (some b,c)∧L=[(b,.stringIter s p)]
 |.heap p=>p L
 |.heapG p _=>p I L
def cD (I:G):OL→List (Nat × Obj)→Prop
 |[],L=>L=[]
 |x::xs,L=>∃A B,L=A++B∧qM I x A∧cD I xs B
theorem qM.mono {I J:G} (h:I.le J) {x:Nat × bC} {L:List (Nat × Obj)} (hx:qM I x L):qM J x L:=by
 obtain ⟨i,o⟩:=x
 cases o<;>simp only[qM] at *
 ·obtain ⟨b,c,vs,h1,h2,h3⟩:=hx;exact ⟨b,c,vs,h.h _ _ h1,RepL.mono h _ _ h2,h3⟩
 ·obtain ⟨b,c,n,vs,h1,h2,h3⟩:=hx;exact ⟨b,c,n,vs,h.h _ _ h1,RepL.mono h _ _ h2,h3⟩
 ·obtain ⟨b,c,h1,h2⟩:=hx;exact ⟨b,c,h.h _ _ h1,h2⟩
 ·exact hx
 ·rename_i p hp;exact hp _ _ _ h hx
theorem cD.mono {I J:G} (h:I.le J):∀{O:OL} {L:List (Nat × Obj)},cD I O L→cD J O L
 |[],_,e=>e
 |_::_,_,⟨A,B,e,h1,h2⟩=>⟨A,B,e,h1.mono h,cD.mono h h2⟩
theorem cD.append {I:G}:∀{O O':OL} {L:List (Nat × Obj)},cD I (O++O') L↔∃A B,L=A++B∧cD I O A∧cD I O' B
 |[],O',L=>⟨fun h=>⟨[],L,rfl,rfl,h⟩,fun ⟨A,B,e,h1,h2⟩=>by
   have h1:A=[]:=h1
   subst h1;subst e;exact h2⟩
 |x::O,O',L=>by
  constructor
  ·rintro ⟨A,B,e,h1,h2⟩
   obtain ⟨C,D,e2,h3,h4⟩:=cD.append.1 h2
   exact ⟨A++C,D,by simp[e,e2],⟨A,C,rfl,h1,h3⟩,h4⟩
  ·rintro ⟨A,B,e,⟨C,D,e2,h1,h2⟩,h3⟩
   exact ⟨C,D++B,by simp[e,e2],h1,cD.append.2 ⟨D,B,rfl,h2,h3⟩⟩
def iB (I:G) (O:OL) (F:List (Nat × Obj)) (E w:World):Prop:=
 (∃top,∀i,top≤i→I.h i=none)∧∃L,cD I O L∧SL I.k (L++F) E w
inductive dH:OL→Nat→bC→OL→Prop
 |head {i o O}:dH ((i,o)::O) i o O
 |tail {x O i o O'}:dH O i o O'→dH (x::O) i o (x::O')
inductive fF:OL→Nat→bC→bC→OL→Prop
 |head {i o o' O}:fF ((i,o)::O) i o o' ((i,o')::O)
 |tail {x O i o o' O'}:fF O i o o' O'→fF (x::O) i o o' (x::O')
theorem dH.rep {I:G} {O O':OL} {i:Nat} {o:bC} (h:dH O i o O'):∀{L},cD I O L→∃A B,L.Perm (A++B)∧qM I (i,o) A∧cD I O' B:=by
 induction h with
 |head=>rintro L ⟨A,B,e,h1,h2⟩;exact ⟨A,B,e▸.refl _,h1,h2⟩
 |tail h ih=>
  rintro L ⟨A,B,e,h1,h2⟩
  obtain ⟨C,D,hp,h3,h4⟩:=ih h2
  refine ⟨C,A++D,?_,h3,⟨A,D,rfl,h1,h4⟩⟩
  subst e
  refine (hp.append_left A).trans ?_
  rw[←List.append_assoc,←List.append_assoc]
  exact List.perm_append_comm.append_right D
theorem fF.rep {I:G} {O O':OL} {i:Nat} {o o':bC} (h:fF O i o o' O'):∀{L},cD I O L→∃A B,L.Perm (A++B)∧qM I (i,o) A ∧
  ∀{J:G} {A'},I.le J→qM J (i,o') A'→∃L',cD J O' L'∧L'.Perm (A'++B):=by
 induction h with
 |head=>rintro L ⟨A,B,e,h1,h2⟩;exact ⟨A,B,e▸.refl _,h1,fun {J A'} hl h=>⟨A'++B,⟨A',B,rfl,h,h2.mono hl⟩,.refl _⟩⟩
 |tail h ih=>
  rintro L ⟨A,B,e,h1,h2⟩
  obtain ⟨C,D,hp,h3,h4⟩:=ih h2
  refine ⟨C,A++D,?_,h3,fun {J A'} hl h=>?_⟩
  ·subst e
   refine (hp.append_left A).trans ?_
   rw[←List.append_assoc,←List.append_assoc]
   exact List.perm_append_comm.append_right D
  ·obtain ⟨L',h5,h6⟩:=h4 hl h
   refine ⟨A++L',⟨A,L',rfl,h1.mono hl,h5⟩,?_⟩
   refine (h6.append_left A).trans ?_
   rw[←List.append_assoc,←List.append_assoc]
   exact List.perm_append_comm.append_right D
inductive IU:OL→OL→Prop
 |refl (O):IU O O
 |keep {x O O'}:IU O O'→IU (x::O) (x::O')
 |drop {x O O'}:IU O O'→IU (x::O) O'
theorem cD.sub {I:G} {O O':OL} (h:IU O O'):∀{L},cD I O L→∃L',cD I O' L'∧L'.Sublist L:=by
 induction h with
 |refl=>intro L h;exact ⟨L,h,.refl _⟩
 |keep _ ih=>rintro L ⟨A,B,e,h1,h2⟩;obtain ⟨B',h3,h4⟩:=ih h2;exact ⟨A++B',⟨A,B',rfl,h1,h3⟩,e▸h4.append_left A⟩
 |drop _ ih=>rintro L ⟨A,B,e,h1,h2⟩;obtain ⟨B',h3,h4⟩:=ih h2;exact ⟨B',h3,e▸h4.trans (List.sublist_append_right A B)⟩
theorem iB.sub {I:G} {O O':OL} {F:List (Nat × Obj)} {E w:World} (h:IU O O') (hs:iB I O F E w):iB I O' F E w:=by
 obtain ⟨ht,L,hL,hS⟩:=hs
 obtain ⟨L',h1,h2⟩:=hL.sub h
 exact ⟨ht,L',h1,hS.sub (h2.append_right F)⟩
def Left (O O':OL):Prop:=∃O'',IU O O''∧O''=O'
theorem Left.sla {I:G} {O O':OL} {F:List (Nat × Obj)} {E w:World} (h:Left O O') (hs:iB I O F E w):iB I O' F E w:=by
 obtain ⟨_,h1,rfl⟩:=h;exact hs.sub h1
end
section
def mN (I:G) (F:List (Nat × Obj)) (E:World) (Q:Exit→aT→OL→Prop):Exit→dX→World→Prop:=fun e ρ w=>∃J env O,I.le J∧eW J env ρ∧iB J O F E w∧Q e env O
def lc (I:G) (F:List (Nat × Obj)) (E:World) (K:aT→OL→Prop):dX→World→Prop:=fun ρ w=>∃J env O,I.le J∧eW J env ρ∧iB J O F E w∧K env O
theorem mN.up {I J:G} {F:List (Nat × Obj)} {E:World} {Q:Exit→aT→OL→Prop} (h:I.le J) {e:Exit} {ρ:dX} {w:World}:mN J F E Q e ρ w→mN I F E Q e ρ w:=
 fun ⟨K,env,O,h1,h2⟩=>⟨K,env,O,h.trans h1,h2⟩
theorem lc.up {I J:G} {F:List (Nat × Obj)} {E:World} {Q:aT→OL→Prop} (h:I.le J) {ρ:dX} {w:World}:lc J F E Q ρ w→lc I F E Q ρ w:=
 fun ⟨K,env,O,h1,h2⟩=>⟨K,env,O,h.trans h1,h2⟩
def dV (P:Program) (E:World) (n:Nat) (c:Code) (Q:Exit→aT→OL→Prop) (env:aT) (O:OL):Prop:=
 ∀I F ρ w,eW I env ρ→iB I O F E w→WP P n c (mN I F E Q) ρ w
def qN (K:aT→OL→Prop) (Q:Exit→aT→OL→Prop):Exit→aT→OL→Prop:=fun e env O=>
 match e with
 |.normal=>K env O
 |e=>Q e env O
def uW (id:Nat) (Q:Exit→aT→OL→Prop):Exit→aT→OL→Prop:=fun e env O=>
 match e with
 |.exit i=>if i=id then Q .normal env O else Q (.exit i) env O
 |e=>Q e env O
section
variable {E:World} {P:Program} {n:Nat} {Q:Exit→aT→OL→Prop} {env:aT} {O:OL}
theorem ki {K:aT→OL→Prop} (h:Q .ret env O):qN K Q .ret env O:=h
theorem gR {id:Nat} (h:Q .ret env O):uW id Q .ret env O:=h
theorem dV.mono {c:Code} {Q':Exit→aT→OL→Prop} (h:dV P E n c Q env O) (hq:∀e env O,Q e env O→Q' e env O):dV P E n c Q' env O:=
 fun I F ρ w h1 h2=>(h I F ρ w h1 h2).mono fun _ _ _ ⟨J,env,O,a,b,c,d⟩=>⟨J,env,O,a,b,c,hq _ _ _ d⟩
theorem dV.skip (h:Q .normal env O):dV P E n .skip Q env O:=fun I _ _ _ h1 h2=>WP.skip ⟨I,env,O,.refl _,h1,h2,h⟩
theorem dV.ret (h:Q .ret env O):dV P E n .ret Q env O:=fun I _ _ _ h1 h2=>WP.ret ⟨I,env,O,.refl _,h1,h2,h⟩
theorem dV.exit {id:Nat} (h:Q (.exit id) env O):dV P E n (.exit id) Q env O:=fun I _ _ _ h1 h2=>WP.exit ⟨I,env,O,.refl _,h1,h2,h⟩
theorem dV.seq {x y:Code} (h:dV P E n x (qN (dV P E n y Q) Q) env O):dV P E n (.seq x y) Q env O:=fun I F ρ w h1 h2=>
 WP.seq ((h I F ρ w h1 h2).mono fun e ρ w ⟨J,env,O,a,b,c,d⟩=>by
  cases e<;>first|exact (d J F ρ w b c).mono (fun _ _ _=>mN.up a)|exact ⟨J,env,O,a,b,c,d⟩)
theorem dV.block {id:Nat} {c:Code} (h:dV P E n c (uW id Q) env O):dV P E n (.block id c) Q env O:=fun I F ρ w h1 h2=>
 WP.block ((h I F ρ w h1 h2).mono fun e ρ w ⟨J,env,O,a,b,c,d⟩=>by
  cases e<;>try exact ⟨J,env,O,a,b,c,d⟩
  rename_i i
  simp only[uW] at d
  simp only[Ab]
  split<;>rename_i hi
  ·rw[if_pos hi] at d;exact ⟨J,env,O,a,b,c,d⟩
  ·rw[if_neg hi] at d;exact ⟨J,env,O,a,b,c,d⟩)
theorem dV.cond {c:Operand} {x y:Code} {t:Bool} (hc:bc env c=.bool t) (h:t=true→dV P E n x Q env O) (h':t=false→dV P E n y Q env O):dV P E n (.cond c x y) Q env O:=fun I F ρ w h1 h2=>
 WP.condB (t:=t) (by have:=h1.ev c;rw[hc] at this;exact this) (fun e=>h e I F ρ w h1 h2) (fun e=>h' e I F ρ w h1 h2)
theorem dV.condP {c:Operand} {x y:Code} {p:Prop} [Decidable p] (hc:bc env c=.bool (decide p)) (h:p→dV P E n x Q env O) (h':¬p→dV P E n y Q env O):dV P E n (.cond c x y) Q env O:=
 dV.cond hc (fun e=>h (of_decide_eq_true e)) (fun e=>h' (of_decide_eq_false e))
theorem dV.condT {c:Operand} {x y:Code} {t:Bool} (hc:bc env c=.bool t) (ht:t=true) (h:dV P E n x Q env O):dV P E n (.cond c x y) Q env O:=dV.cond hc (fun _=>h) (fun e=>by rw[ht] at e;cases e)
theorem dV.condF {c:Operand} {x y:Code} {t:Bool} (hc:bc env c=.bool t) (ht:t=false) (h:dV P E n y Q env O):dV P E n (.cond c x y) Q env O:=dV.cond hc (fun e=>by rw[ht] at e;cases e) (fun _=>h)
theorem dV.weak {c:Code} {env':aT} (h:dV P E n c Q env' O) (hw:∀t,env' t=.any∨env' t=env t):dV P E n c Q env O:=fun I F ρ w h1 h2=>
 h I F ρ w (fun t=>by
  rcases hw t with e|e
  ·rw[e];trivial
  ·rw[e];exact h1 t) h2
def keep (env:aT) (l:List Nat):aT:=fun t=>bif l.any (Nat.beq t) then env t else .any
def put (env:aT):List (Nat × AV)→aT
 |[]=>env
 |(d,v)::l=>bz (put env l) d v
def ud (env:aT):List (Nat × AV)→Prop
 |[]=>True
 |(d,v)::l=>env d=v∧ud env l
def dh (env env':aT):List Nat→Prop
 |[]=>True
 |d::l=>env' d=env d∧dh env env' l
theorem ww {env env':aT} {f:List Nat} {l:List (Nat × AV)} (h1:dh env env' f) (h2:ud env' l):∀t,put (Go.Proofs.YtbbonnfjealmpaaGreatDoor.keep env f) l t=.any∨put (Go.Proofs.YtbbonnfjealmpaaGreatDoor.keep env f) l t=env' t:=by
 intro t
 induction l with
 |nil=>
  simp only[put,Go.Proofs.YtbbonnfjealmpaaGreatDoor.keep]
  cases hb:f.any (Nat.beq t) with
  |false=>simp
  |true=>
   right
   simp only[cond_true]
   clear h2
   induction f with
   |nil=>simp at hb
   |cons d f ih=>
    simp only[List.any_cons,Bool.or_eq_true] at hb
    rcases hb with hb|hb
    ·have:t=d:=Nat.eq_of_beq_eq_true hb
     subst this;exact h1.1.symm
    ·exact ih h1.2 hb
 |cons x l ih=>
  obtain ⟨d,v⟩:=x
  simp only[put,bz]
  cases hb:Nat.beq t d with
  |false=>simpa using ih h2.2
  |true=>
   have:t=d:=Nat.eq_of_beq_eq_true hb
   subst this;right;exact h2.1.symm
theorem dV.cut {c:Code} (K:aT→OL→Prop) (h:dV P E n c (qN K Q) env O) (hj:∀env O,K env O→Q .normal env O):dV P E n c Q env O:=
 h.mono fun e ρ w hq=>by cases e<;>first|exact hj _ _ hq|exact hq
theorem dV.loop0 {γ:Type} {c:Code} (Inv:γ→aT→OL→Prop) (μ:γ→Nat) (g₀:γ) (h₀:Inv g₀ env O)
  (round:∀g env O,Inv g env O→dV P E n c (qN (fun env' O'=>∃g',Inv g' env' O'∧μ g'<μ g) Q) env O):dV P E n (.loop c) Q env O:=fun I F ρ w h1 h2=>
 WP.loop (γ:=γ) (fun g ρ w=>∃J env O,I.le J∧eW J env ρ∧iB J O F E w∧Inv g env O) μ g₀ ⟨I,env,O,.refl _,h1,h2,h₀⟩
  (fun g ρ w ⟨J,env,O,hl,h3,h4,h5⟩=>(round g env O h5 J F ρ w h3 h4).mono fun e ρ' w' ⟨K,env',O',a,b,c,d⟩=>by
   cases e with
   |normal=>obtain ⟨g',d1,d2⟩:=d;exact ⟨g',⟨K,env',O',hl.trans a,b,c,d1⟩,d2⟩
   |exit _=>exact ⟨K,env',O',hl.trans a,b,c,d⟩
   |goto _=>exact ⟨K,env',O',hl.trans a,b,c,d⟩
   |ret=>exact ⟨K,env',O',hl.trans a,b,c,d⟩
   |panic _=>exact ⟨K,env',O',hl.trans a,b,c,d⟩
   |outgrown=>exact ⟨K,env',O',hl.trans a,b,c,d⟩)
theorem dV.left {c:Code} {O':OL} (hl:Left O O') (h:dV P E n c Q env O'):dV P E n c Q env O:=fun I F ρ w h1 h2=>h I F ρ w h1 (hl.sla h2)
theorem dh.refl (env:aT):∀f,dh env env f
 |[]=>trivial
 |_::f=>⟨rfl,dh.refl env f⟩
theorem dV.loop {γ:Type} {c:Code} (f:List Nat) (S:γ→List (Nat × AV)) (M:γ→OL) (p:γ→Prop) (μ:γ→Nat) (g₀:γ) (h₀:ud env (S g₀)) (hO:Left O (M g₀)) (hp:p g₀)
  (round:∀g,p g→dV P E n c (qN (fun env' O'=>∃g',dh env env' f∧ud env' (S g')∧Left O' (M g')∧p g'∧μ g'<μ g) Q) (put (Go.Proofs.YtbbonnfjealmpaaGreatDoor.keep env f) (S g)) (M g)):dV P E n (.loop c) Q env O:=
 dV.loop0 (fun g env' O'=>dh env env' f∧ud env' (S g)∧Left O' (M g)∧p g) μ g₀ ⟨dh.refl env f,h₀,hO,hp⟩
  (fun g env' O' ⟨h1,h2,h3,h4⟩=>by
   refine (((round g h4).weak (ww h1 h2)).left h3).mono fun e env O hq=>?_
   cases e<;>try exact hq
   obtain ⟨g',a,b,c,d,e⟩:=hq
   exact ⟨g',⟨a,b,c,d⟩,e⟩)
theorem dV.cutS {γ:Type} {c d:Code} {Q':Exit→aT→OL→Prop} (f:List Nat) (S:γ→List (Nat × AV)) (M:γ→OL) (p:γ→Prop) (h:dV P E n c (qN (fun env' O'=>∃g,dh env env' f∧ud env' (S g)∧Left O' (M g)∧p g) Q) env O)
  (hQ:∀env O,dV P E n d Q' env O→Q .normal env O) (hj:∀g,p g→dV P E n d Q' (put (Go.Proofs.YtbbonnfjealmpaaGreatDoor.keep env f) (S g)) (M g)):dV P E n c Q env O:=
 dV.cut _ h fun env' O' ⟨g,h1,h2,h3,h4⟩=>hQ _ _ (((hj g h4).weak (ww h1 h2)).left h3)
end
def ay (P:Program) (E:World) (ops:Array Oper) (K:aT→OL→Prop) (l:List Oper) (env:aT) (O:OL):Prop:=
 ∀I F ρ w,eW I env ρ→iB I O F E w→bY P ops (lc I F E K) l ρ w
def Gv (P:Program) (env:aT) (O:OL) (o:Oper) (x:AV):Prop:=
 ∀(I:G) L E ρ,eW I env ρ→cD I O L→∃v,cC I x v∧∀w J L',I.k.le J→SL J L' E w→(∀y∈L,y∈L')→(execOp (ev ρ) o).run P w=.ok (.value v) w
section
variable {E:World} {P:Program} {n:Nat} {ops:Array Oper} {K:aT→OL→Prop} {env:aT} {O:OL} {rest:List Oper}
variable {d ty:Nat} {op:Op} {pos:String} {af:Array Edge}
theorem dV.region {Q:Exit→aT→OL→Prop} {id:Nat} {l:List Oper} (hd:ic n l=true) (h:ay P E l.toArray (Q .normal) l env O):dV P E n (.region id l.toArray false) Q env O:=fun I F ρ w h1 h2=>
 WP.region hd (h I F ρ w h1 h2)
theorem ay.nil (h:K env O):ay P E ops K [] env O:=fun I _ _ _ h1 h2=>bY.nil ⟨I,env,O,.refl _,h1,h2,h⟩
theorem ay.val {x:AV} (h:Gv P env O (Oper.mk (some d) op ty pos af none) x) (k:ay P E ops K rest (bz env d x) O):ay P E ops K (Oper.mk (some d) op ty pos af none::rest) env O:=fun I F ρ w h1 h2=>by
 obtain ⟨L,hL,hS⟩:=h2.2
 obtain ⟨v,hv,hr⟩:=h I L E ρ h1 hL
 exact bY.val (hr w I.k (L++F) (.refl _) hS fun _ h=>List.mem_append_left _ h) (k I F _ w (h1.upd d hv) h2)
theorem ay.guardT {dd:Option Nat} {j s:Nat} {b t:Bool} (hs:(ops[j]?).bind (fun o:Oper=>o.dst)=some s) (hv:env s=.bool t) (ht:t=b)
  (k:ay P E ops K (Oper.mk dd op ty pos af none::rest) env O):ay P E ops K (Oper.mk dd op ty pos af (some (j,b))::rest) env O:=fun I F ρ w h1 h2=>
 bY.guardT hs (by have:=h1 s;rw[hv] at this;exact this) ht (k I F ρ w h1 h2)
theorem ay.guardF {dd:Option Nat} {j s:Nat} {b t:Bool} (hs:(ops[j]?).bind (fun o:Oper=>o.dst)=some s) (hv:env s=.bool t) (ht:t=!b)
  (k:ay P E ops K rest (Ek env dd (.raw undef)) O):ay P E ops K (Oper.mk dd op ty pos af (some (j,b))::rest) env O:=fun I F ρ w h1 h2=>
 bY.guardF hs (by have:=h1 s;rw[hv] at this;exact this) ht (k I F _ w (h1.updO dd rfl) h2)
theorem ay.guardFd {j s:Nat} {b t:Bool} (hs:(ops[j]?).bind (fun o:Oper=>o.dst)=some s) (hv:env s=.bool t) (ht:t=!b)
  (k:ay P E ops K rest (bz env d (.raw undef)) O):ay P E ops K (Oper.mk (some d) op ty pos af (some (j,b))::rest) env O:=ay.guardF hs hv ht k
theorem ay.guardU {dd:Option Nat} {j s:Nat} {b:Bool} (hs:(ops[j]?).bind (fun o:Oper=>o.dst)=some s) (hv:env s=.raw undef)
  (k:ay P E ops K rest (Ek env dd (.raw undef)) O):ay P E ops K (Oper.mk dd op ty pos af (some (j,b))::rest) env O:=fun I F ρ w h1 h2=>
 bY.guardU hs (by have:=h1 s;rw[hv] at this;exact this) (k I F _ w (h1.updO dd rfl) h2)
theorem ay.guardUd {j s:Nat} {b:Bool} (hs:(ops[j]?).bind (fun o:Oper=>o.dst)=some s) (hv:env s=.raw undef)
  (k:ay P E ops K rest (bz env d (.raw undef)) O):ay P E ops K (Oper.mk (some d) op ty pos af (some (j,b))::rest) env O:=ay.guardU hs hv k
theorem ay.case {s:Nat} {t:Bool} {l:List Oper} (hv:env s=.bool t) (h1:t=true→ay P E ops K l env O) (h2:t=false→ay P E ops K l env O):ay P E ops K l env O:=by
 have _:=hv
 cases t
 ·exact h2 rfl
 ·exact h1 rfl
end
set_option linter.defProp false
def z2:=@ay.nil
def z6:=@ay.guardFd
def z7:=@ay.guardT
def z8:=@ay.val
def zb:=@dV.seq
def zf:=@dV.skip
def zg:=@dV.ret
def zi:=@dV.block
def zk:=@ay.guardUd
def zn:=@dV.condP
def zt:=@ay.case
def zw:=@dV.cond
def y4:=@dV.exit
def y5:=@dV.loop
def yb:=@dV.cutS
def yh:=@dh.refl
def yq:=@dV.condF
def yr:=@dV.condT
def qa:=@bY.mono
def qb:=@lc.up
def qo:=@G.le.refl
end
end Go.Proofs.YtbbonnfjealmpaaGreatDoor
