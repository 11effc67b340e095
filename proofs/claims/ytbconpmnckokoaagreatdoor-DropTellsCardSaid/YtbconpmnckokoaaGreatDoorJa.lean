/- What each operation gives, of slots that are told as plain data. No conditions. -/
import Derived.WalkKit
import Derived.WalkSpells
import Derived.Laws.CopyRow
import Derived.RegionTactic
import Derived.Laws.StructEq
set_option linter.unusedVariables false
set_option linter.unusedSimpArgs false
set_option linter.unusedSectionVars false
namespace Go.Proofs.YtbconpmnckokoaaGreatDoor
section
abbrev bn:=Nat→Value
def upd (ρ:bn) (d:Nat) (v:Value):bn:=fun t=>bif Nat.beq t d then v else ρ t
def updO (ρ:bn) (d:Option Nat) (v:Value):bn:=match d with|some d=>upd ρ d v|none=>ρ
def ev (ρ:bn):Operand→Value
 |.tmp t=>ρ t
 |.const v=>v
 |.global g=>.pointer (some ⟨g,0,none⟩)
 |.func f=>.func (.func f) #[] #[]
theorem dC (ρ:bn) (d:Nat) (v:Value):upd ρ d v d=v:=by simp[upd]
theorem bZ (ρ:bn) {d t:Nat} (v:Value) (h:t≠d):upd ρ d v t=ρ t:=by
 have:Nat.beq t d=false:=by cases hb:Nat.beq t d<;>simp_all
 simp[upd,this]
structure dS (n:Nat) (a:Act) (ρ:bn):Prop where
 size:a.tmps.size=n
 defers:a.defers=[]
 at_:∀t,a.tmps.getD t undef=ρ t
theorem dS.eval {n:Nat} {a:Act} {ρ:bn} (h:dS n a ρ):a.eval=ev ρ:=by
 funext x;cases x<;>simp[Act.eval,ev,h.at_]
theorem dS.put {n:Nat} {a:Act} {ρ:bn} (h:dS n a ρ) {d:Option Nat} (hd:d.all (fun d=>decide (d<n))=true) (v:Value):dS n (a.put d v) (updO ρ d v):=by
 cases d with
 |none=>exact h
 |some d=>
  have hd':d<a.tmps.size:=by rw[h.size];simpa using hd
  refine ⟨by simp[Act.put,h.size],h.defers,fun t=>?_⟩
  simp only[Act.put,updO]
  by_cases e:t=d
  ·subst e;rw[dC];simp[hd']
  ·rw[bZ _ _ e,←h.at_ t]
   simp only[Array.getD_eq_getD_getElem?]
   rw[Array.getElem?_setIfInBounds_ne (by omega)]
def wS (n:Nat) (Q:Exit→bn→World→Prop):Exit→Act→World→Prop:=fun e a w=>∃ρ,dS n a ρ∧Q e ρ w
def WP (P:Program) (n:Nat) (c:Code) (Q:Exit→bn→World→Prop) (ρ:bn) (w:World):Prop:=
 ∀a,dS n a ρ→c.wp P (wS n Q) a w
def xH (K:bn→World→Prop) (Q:Exit→bn→World→Prop):Exit→bn→World→Prop:=fun e ρ w=>
 match e with
 |.normal=>K ρ w
 |e=>Q e ρ w
def mw (id:Nat) (Q:Exit→bn→World→Prop):Exit→bn→World→Prop:=fun e ρ w=>
 match e with
 |.exit i=>if i=id then Q .normal ρ w else Q (.exit i) ρ w
 |e=>Q e ρ w
section
variable {P:Program} {n:Nat} {Q:Exit→bn→World→Prop} {ρ:bn} {w:World}
theorem WP.mono {c:Code} {Q':Exit→bn→World→Prop} (h:WP P n c Q ρ w) (hq:∀e ρ w,Q e ρ w→Q' e ρ w):WP P n c Q' ρ w:=
 fun a ha=>wp_mono (h a ha) fun _ _ _ ⟨ρ,h1,h2⟩=>⟨ρ,h1,hq _ _ _ h2⟩
theorem WP.skip (h:Q .normal ρ w):WP P n .skip Q ρ w:=fun _ ha=>wp_skip ⟨ρ,ha,h⟩
theorem WP.ret (h:Q .ret ρ w):WP P n .ret Q ρ w:=fun _ ha=>wp_ret ⟨ρ,ha,h⟩
theorem WP.exit {id:Nat} (h:Q (.exit id) ρ w):WP P n (.exit id) Q ρ w:=fun _ ha=>wp_exit ⟨ρ,ha,h⟩
theorem WP.seq {x y:Code} (h:WP P n x (xH (WP P n y Q) Q) ρ w):WP P n (.seq x y) Q ρ w:=fun a ha=>
 wp_seq (wp_mono (h a ha) fun e a w ⟨ρ,h1,h2⟩=>by
  cases e<;>first|exact h2 a h1|exact ⟨ρ,h1,h2⟩)
theorem WP.cond {c:Operand} {x y:Code} {t:Bool} (hc:ev ρ c=.bool t) (h:(if t then WP P n x Q ρ w else WP P n y Q ρ w)):WP P n (.cond c x y) Q ρ w:=fun a ha=>
 wp_cond (t:=t) (by rw[ha.eval];exact hc) (by cases t<;>exact h a ha)
theorem WP.condB {c:Operand} {x y:Code} {t:Bool} (hc:ev ρ c=.bool t) (h:t=true→WP P n x Q ρ w) (h':t=false→WP P n y Q ρ w):WP P n (.cond c x y) Q ρ w:=
 WP.cond hc (by cases t<;>simp[h,h'])
theorem WP.block {id:Nat} {c:Code} (h:WP P n c (mw id Q) ρ w):WP P n (.block id c) Q ρ w:=fun a ha=>
 wp_block (wp_mono (h a ha) fun e a w ⟨ρ,h1,h2⟩=>by
  cases e<;>try exact ⟨ρ,h1,h2⟩
  rename_i i
  simp only[Exit.inBlock]
  simp only[mw] at h2
  split<;>rename_i hi
  ·rw[if_pos hi] at h2;exact ⟨ρ,h1,h2⟩
  ·rw[if_neg hi] at h2;exact ⟨ρ,h1,h2⟩)
theorem WP.loop {γ:Type} {c:Code} (I:γ→bn→World→Prop) (μ:γ→Nat) (g₀:γ) (h₀:I g₀ ρ w)
  (round:∀g ρ w,I g ρ w→WP P n c (xH (fun ρ' w'=>∃g',I g' ρ' w'∧μ g'<μ g) Q) ρ w):WP P n (.loop c) Q ρ w:=by
 intro a ha b k cs
 have key:∀m g ρ a w,μ g=m→dS n a ρ→I g ρ w →
   ∃e a' w',wS n Q e a' w'∧Arrives P (lone (b.at a (.code c::.inLoop c::k)) cs w) b k cs e a' w':=by
  intro m
  induction m using Nat.strongRecOn with
  |_ m ih=>
   intro g ρ a w hm ha hI
   obtain ⟨e,a₁,w₁,⟨ρ₁,hq1,hq2⟩,harr⟩:=round g ρ w hI a ha b (.inLoop c::k) cs
   cases e with
   |normal=>
    obtain ⟨g',hI₁,hlt⟩:=hq2
    obtain ⟨e₂,a₂,w₂,hq₂,harr₂⟩:=ih (μ g') (hm▸hlt) g' ρ₁ a₁ w₁ rfl hq1 hI₁
    exact ⟨e₂,a₂,w₂,hq₂,.of_steps (Steps.trans harr (.one step_inLoop)) harr₂⟩
   |exit id=>exact ⟨_,a₁,w₁,⟨ρ₁,hq1,hq2⟩,.pass (x:=.inLoop c) rfl (fun _ _=>.inl (by simp)) harr⟩
   |goto l=>exact ⟨_,a₁,w₁,⟨ρ₁,hq1,hq2⟩,.pass (x:=.inLoop c) rfl (fun _ _=>.inl (by simp)) harr⟩
   |ret=>exact ⟨_,a₁,w₁,⟨ρ₁,hq1,hq2⟩,.pass (x:=.inLoop c) rfl (fun _ _=>.inl (by simp)) harr⟩
   |panic ch=>exact ⟨_,a₁,w₁,⟨ρ₁,hq1,hq2⟩,.pass (x:=.inLoop c) rfl (fun _ _=>.inl (by simp)) harr⟩
   |outgrown=>exact ⟨_,a₁,w₁,⟨ρ₁,hq1,hq2⟩,.pass (x:=.inLoop c) rfl (fun _ _=>.inl (by simp)) harr⟩
 obtain ⟨e,a',w',hq,harr⟩:=key _ g₀ ρ a w rfl ha h₀
 exact ⟨e,a',w',hq,.of_steps (.one step_loop) harr⟩
end
def cQ (P:Program) (o:Oper) (ρ:bn) (w:World) (K:Value→World→Prop):Prop:=
 match (execOp (ev ρ) o).run P w with
 |.ok (.value v) w'=>K v w'
 |.ok .skip w'=>K undef w'
 |.ok (.enter f args) w'=>Calls P f args w' fun e w''=>∃v,e=.returned v∧K v w''
 |_=>False
def br (ops:Array Oper) (o:Oper) (ρ:bn):Bool:=
 match o.guard with
 |none=>true
 |some (j,b)=>match (ops[j]?).bind (·.dst) with
  |some s=>(match ρ s with | .bool b'=>b' == b|_=>false)
  |none=>false
def bq (P:Program) (ops:Array Oper) (K:bn→World→Prop):List Oper→bn→World→Prop
 |[],ρ,w=>K ρ w
 |o::rest,ρ,w=>
  if br ops o ρ then cQ P o ρ w (fun v w'=>bq P ops K rest (updO ρ o.dst v) w')
  else bq P ops K rest (updO ρ o.dst undef) w
def dk (n:Nat) (l:List Oper):Bool:=l.all fun o=>o.dst.all (fun d=>decide (d<n))
theorem cQ.mono {P:Program} {o:Oper} {ρ:bn} {w:World} {K K':Value→World→Prop} (h:cQ P o ρ w K) (hk:∀v w,K v w→K' v w):cQ P o ρ w K':=by
 unfold cQ at *
 split at h
 ·exact hk _ _ h
 ·exact hk _ _ h
 ·exact h.mono fun e w ⟨v,h1,h2⟩=>⟨v,h1,hk _ _ h2⟩
 ·exact h.elim
theorem cQ.wp {P:Program} {n:Nat} {o:Oper} {ρ:bn} {w:World} {K:Value→World→Prop} {a:Act} (ha:dS n a ρ)
  {next:Act→World→Prop} {Q:Exit→Act→World→Prop} (h:cQ P o ρ w K) (hk:∀v w',K v w'→next (a.put o.dst v) w'):o.wp P a w next Q:=by
 unfold cQ at h
 unfold Oper.wp
 rw[ha.eval]
 split at h
 ·rename_i heq;rw[heq];exact hk _ _ h
 ·rename_i heq;rw[heq];exact hk _ _ h
 ·rename_i heq;rw[heq,Oper.upon_enter]
  exact h.mono fun e w'' ⟨v,he,hK⟩=>by subst he;exact hk _ _ hK
 ·exact h.elim
theorem ki {n:Nat} {a:Act} {ρ:bn} (ha:dS n a ρ) (ops:Array Oper) (o:Oper) (hops:∀(j s:Nat),(ops[j]?).bind (fun o:Oper=>o.dst)=some s→s<n) :
  Region.wanted o (yielded ops a.tmps)=br ops o ρ:=by
 unfold Region.wanted br
 split
 ·rename_i h;simp[h]
 ·rename_i j b h
  simp only[h]
  unfold yielded
  cases hd:(ops[j]?).bind (·.dst) with
  |none=>simp
  |some s=>
   have hs:=hops j s hd
   have h1:a.tmps[s]?=some (ρ s):=by
    rw[←ha.at_ s]
    simp[Array.getD_eq_getD_getElem?,ha.size,hs]
   simp only[Option.bind_some,h1]
   cases ρ s<;>simp
theorem bq.wpList {P:Program} {n:Nat} {ops:Array Oper} {K:bn→World→Prop} {Q:Exit→Act→World→Prop} (hops:∀(j s:Nat),(ops[j]?).bind (fun o:Oper=>o.dst)=some s→s<n)
  (hK:∀a ρ w,dS n a ρ→K ρ w→Q .normal a w):∀(l:List Oper) (ρ:bn) (w:World) (a:Act),dk n l=true→dS n a ρ→bq P ops K l ρ w→wpList P ops Q l a w
 |[],ρ,w,a,_,ha,h=>hK a ρ w ha h
 |o::rest,ρ,w,a,hd,ha,h=>by
  simp only[dk,List.all_cons,Bool.and_eq_true] at hd
  unfold Go.wpList
  rw[ki ha ops o hops]
  unfold bq at h
  split
  ·rename_i hw
   rw[if_pos hw] at h
   exact .inl (h.wp ha fun v w' hv=>bq.wpList hops hK rest _ _ _ hd.2 (ha.put hd.1 v) hv)
  ·rename_i hw
   rw[if_neg hw] at h
   exact bq.wpList hops hK rest _ _ _ hd.2 (ha.put hd.1 undef) h
theorem r5 {n:Nat} {l:List Oper} (hd:dk n l=true) (j s:Nat) (h:(l.toArray[j]?).bind (fun o:Oper=>o.dst)=some s):s<n:=by
 simp only[dk,List.all_eq_true] at hd
 rcases hj:l[j]? with _|o
 ·simp[hj] at h
 ·have:=hd o (List.mem_of_getElem? hj)
  simp only[List.getElem?_toArray,hj,Option.bind_some] at h
  simpa [h] using this
theorem WP.region {P:Program} {n:Nat} {Q:Exit→bn→World→Prop} {ρ:bn} {w:World} {id:Nat} {l:List Oper} (hd:dk n l=true)
  (h:bq P l.toArray (Q .normal) l ρ w):WP P n (.region id l.toArray false) Q ρ w:=fun a ha=>
 wp_region_lit (bq.wpList (r5 hd) (fun _ _ _ ha hK=>⟨_,ha,hK⟩) l ρ w a hd ha h)
section
variable {P:Program} {ops:Array Oper} {K:bn→World→Prop} {ρ:bn} {w:World} {rest:List Oper} {o:Oper}
theorem bq.nil (h:K ρ w):bq P ops K [] ρ w:=h
theorem bq.step (hg:o.guard=none) (h:cQ P o ρ w (fun v w'=>bq P ops K rest (updO ρ o.dst v) w')):bq P ops K (o::rest) ρ w:=by
 unfold bq;rw[if_pos (by simp[br,hg])];exact h
theorem bq.mono {K':bn→World→Prop} (hk:∀ρ w,K ρ w→K' ρ w):∀(l:List Oper) (ρ:bn) (w:World),bq P ops K l ρ w→bq P ops K' l ρ w
 |[],_,_,h=>hk _ _ h
 |o::rest,ρ,w,h=>by
  unfold bq at *
  split
  ·rename_i hw;rw[if_pos hw] at h;exact h.mono fun v w' hv=>bq.mono hk rest _ _ hv
  ·rename_i hw;rw[if_neg hw] at h;exact bq.mono hk rest _ _ h
end
def hZ (rs:Array ResultVar) (ρ:bn) (P:Program) (w:World):Result Value:=
 ((do
  let vs ←rs.mapM fun x=>match x with
   |.tmp t=>Pure.pure (ρ t)
   |.cell a t=>do loadVar t (←asAddr (ρ a))
  Pure.pure (if h:vs.size=1 then vs[0] else Value.tuple vs)):Sem Value).run P w
theorem my {n:Nat} {a:Act} {ρ:bn} (ha:dS n a ρ) (fn:Func) (P:Program) (w:World):(results fn a.tmps).run P w=hZ fn.results ρ P w:=by
 unfold results hZ
 simp only[ha.at_]
 rfl
def Fn (P:Program) (f:FuncId) (args:Array Value) (w:World) (R:Value→World→Prop):Prop:=
 (∃fn c,P.funcs[f]?=some fn∧fn.body=some c∧fn.name≠"runtime.NumGoroutine")∧Calls P f args w fun e w'=>∃v,e=.returned v∧R v w'
theorem Fn.mono {P:Program} {f:FuncId} {args:Array Value} {w:World} {R R':Value→World→Prop} (h:Fn P f args w R) (hr:∀v w,R v w→R' v w):Fn P f args w R':=
 ⟨h.1,h.2.mono fun _ _ ⟨v,h1,h2⟩=>⟨v,h1,hr _ _ h2⟩⟩
def zR (P:Program) (rs:Array ResultVar) (R:Value→World→Prop):Exit→bn→World→Prop:=fun e ρ w=>
 match e with
 |.normal | .ret=>∃v,hZ rs ρ P w=.ok v w∧R v w
 |_=>False
def mz (args:Array Value):bn:=fun t=>args.getD t undef
theorem Fn.intro {P:Program} {f:FuncId} {fn:Func} {c:Code} {args:Array Value} {w:World} {R:Value→World→Prop} (hf:P.funcs[f]?=some fn) (hb:fn.body=some c)
  (hn:fn.name≠"runtime.NumGoroutine") (hs:Nat.ble args.size fn.ntmps=true) (h:WP P fn.ntmps c (zR P fn.results R) (mz args) w):Fn P f args w R:=by
 have hs:=Nat.le_of_ble_eq_true hs
 refine ⟨⟨fn,c,hf,hb,hn⟩,calls_of_wp hf hb (wp_mono (h _ ⟨?_,rfl,?_⟩) ?_)⟩
 ·simp;omega
 ·intro t
  simp only[mz,Array.getD_eq_getD_getElem?]
  by_cases ht:t<args.size
  ·rw[Array.getElem?_append_left ht]
  ·rw[Array.getElem?_append_right (by omega)]
   by_cases h2:t - args.size<fn.ntmps - args.size
   ·rw[Array.getElem?_replicate,if_pos h2,Array.getElem?_eq_none (by omega)];rfl
   ·rw[Array.getElem?_replicate,if_neg h2,Array.getElem?_eq_none (by omega)]
 ·rintro e a w ⟨ρ,ha,hq⟩
  cases e<;>first|exact hq.elim|(obtain ⟨v,h1,h2⟩:=hq;exact ⟨ha.defers,v,by rw[my ha];exact h1,v,rfl,h2⟩)
end
section
abbrev aF:=Nat→Option Obj
def aF.le (I J:aF):Prop:=∀b o,I b=some o→J b=some o
theorem aF.le.refl (I:aF):I.le I:=fun _ _ h=>h
theorem aF.le.trans {I J K:aF} (h:I.le J) (k:J.le K):I.le K:=fun b o hb=>k b o (h b o hb)
def aF.put (I:aF) (b:Nat) (o:Obj):aF:=fun x=>if x=b then some o else I x
theorem aF.put_same (I:aF) (b:Nat) (o:Obj):I.put b o b=some o:=by simp[aF.put]
theorem aF.le_put {I:aF} {b:Nat} {o:Obj} (h:I b=none):I.le (I.put b o):=fun x o' hx=>by
 unfold aF.put;split
 ·rename_i e;subst e;rw[h] at hx;cases hx
 ·exact hx
def lB:Obj→Prop
 |.cells _ _ f=>f=(0,0)
 |_=>True
structure SL (I:aF) (O:List (Nat × Obj)) (E:World) (w:World):Prop where
 os:w.os=E.os
 output:w.output=E.output
 tape:w.tape=E.tape
 pers:∀b o,I b=some o→w.heap[b]?=some o
 own:∀x∈O,w.heap[x.1]?=some x.2
 nodup:(O.map (·.1)).Nodup
 apart:∀x∈O,I x.1=none
 base:∀b o,E.heap[b]?=some o→I b=some o
 flat:∀b o,I b=some o→E.heap[b]?=none→lB o
 oflat:∀x∈O,lB x.2
section
variable {I J:aF} {O:List (Nat × Obj)} {E w:World}
theorem SL.drew (h:SL I O E w):SL I O E w.drew:=⟨h.os,h.output,h.tape,h.pers,h.own,h.nodup,h.apart,h.base,h.flat,h.oflat⟩
theorem cK {w:World} {b:Nat} {o:Obj} (h:w.heap[b]?=some o):b<w.heap.size:=by
 by_cases hb:b<w.heap.size
 ·exact hb
 ·simp[Array.getElem?_eq_none (by omega:w.heap.size≤b)] at h
theorem kj {w:World} {o o':Obj} {b:Nat} (h:w.heap[b]?=some o):(w.alloc o').heap[b]?=some o:=by
 rw[Go.RowKit.Below.heap_alloc _ _ _ (cK h)];exact h
theorem SL.fresh (h:SL I O E w):I w.heap.size=none:=by
 cases hI:I w.heap.size with
 |none=>rfl
 |some o=>have:=cK (h.pers _ _ hI);omega
theorem SL.alloc (h:SL I O E w) (o:Obj) (ho:lB o:=by first|exact rfl|trivial):SL I ((w.heap.size,o)::O) E (w.alloc o):=by
 refine ⟨h.os,h.output,h.tape,fun b o' hb=>kj (h.pers b o' hb),?_,?_,?_,h.base,h.flat,fun x hx=>?_⟩
 ·intro x hx
  rcases List.mem_cons.1 hx with rfl|hx
  ·show (w.heap.push o)[w.heap.size]?=some o
   simp
  ·exact kj (h.own x hx)
 ·simp only[List.map_cons,List.nodup_cons]
  refine ⟨fun hm=>?_,h.nodup⟩
  obtain ⟨x,hx,e⟩:=List.mem_map.1 hm
  have:=cK (h.own x hx)
  omega
 ·intro x hx
  rcases List.mem_cons.1 hx with rfl|hx
  ·exact h.fresh
  ·exact h.apart x hx
 ·rcases List.mem_cons.1 hx with rfl|hx
  ·exact ho
  ·exact h.oflat x hx
theorem SL.freeze {b:Nat} {o:Obj} (h:SL I ((b,o)::O) E w):I.le (I.put b o)∧SL (I.put b o) O E w:=by
 have hn:=h.nodup
 simp only[List.map_cons,List.nodup_cons] at hn
 refine ⟨aF.le_put (h.apart (b,o) (by simp)),h.os,h.output,h.tape,?_,fun x hx=>h.own x (List.mem_cons_of_mem _ hx),hn.2,?_,fun b' o' hb=>aF.le_put (h.apart (b,o) (by simp)) b' o' (h.base b' o' hb),?_,fun x hx=>h.oflat x (List.mem_cons_of_mem _ hx)⟩
 ·intro b' o' hb
  unfold aF.put at hb
  split at hb
  ·rename_i e;subst e;cases hb;exact h.own (b',o) (by simp)
  ·exact h.pers _ _ hb
 ·intro x hx
  unfold aF.put
  split
  ·rename_i e;exact absurd (e▸List.mem_map.2 ⟨x,hx,rfl⟩) hn.1
  ·exact h.apart x (List.mem_cons_of_mem _ hx)
 ·intro b' o' hb he
  unfold aF.put at hb
  split at hb
  ·cases hb;exact h.oflat (b,o) (by simp)
  ·exact h.flat b' o' hb he
theorem SL.alloc_pers (h:SL I O E w) (o:Obj) (ho:lB o:=by first|exact rfl|trivial):I.le (I.put w.heap.size o)∧SL (I.put w.heap.size o) O E (w.alloc o):=(h.alloc o ho).freeze
theorem SL.perm {O':List (Nat × Obj)} (h:SL I O E w) (hp:O'.Perm O):SL I O' E w:=
 ⟨h.os,h.output,h.tape,h.pers,fun x hx=>h.own x (hp.mem_iff.1 hx),(hp.map _).nodup_iff.2 h.nodup,fun x hx=>h.apart x (hp.mem_iff.1 hx),h.base,h.flat,fun x hx=>h.oflat x (hp.mem_iff.1 hx)⟩
theorem SL.sub {O':List (Nat × Obj)} (h:SL I O E w) (hp:O'.Sublist O):SL I O' E w:=
 ⟨h.os,h.output,h.tape,h.pers,fun x hx=>h.own x (hp.subset hx),(hp.map _).nodup h.nodup,fun x hx=>h.apart x (hp.subset hx),h.base,h.flat,fun x hx=>h.oflat x (hp.subset hx)⟩
theorem SL.dropAll {A:List (Nat × Obj)} (h:SL I (A++O) E w):SL I O E w:=h.sub (List.sublist_append_right _ _)
theorem SL.turn {b:Nat} {o o':Obj} {w':World} (h:SL I ((b,o)::O) E w) (h1:w'.os=w.os) (h2:w'.output=w.output) (h3:w'.tape=w.tape)
  (h4:w'.heap[b]?=some o') (h5:∀k,k≠b→w'.heap[k]?=w.heap[k]?) (h6:lB o':=by first|exact rfl|trivial):SL I ((b,o')::O) E w':=by
 have hn:=h.nodup
 simp only[List.map_cons,List.nodup_cons] at hn
 refine ⟨h1.trans h.os,h2.trans h.output,h3.trans h.tape,?_,?_,by simpa using h.nodup,?_,h.base,h.flat,fun x hx=>?_⟩
 ·intro k ok hk
  rw[h5 k (fun e=>?_)]
  ·exact h.pers k ok hk
  ·subst e;rw[h.apart (k,o) (by simp)] at hk;cases hk
 ·intro x hx
  rcases List.mem_cons.1 hx with rfl|hx
  ·exact h4
  ·rw[h5 x.1 (fun e=>hn.1 (e▸List.mem_map.2 ⟨x,hx,rfl⟩))]
   exact h.own x (List.mem_cons_of_mem _ hx)
 ·intro x hx
  rcases List.mem_cons.1 hx with rfl|hx
  ·exact h.apart (b,o) (by simp)
  ·exact h.apart x (List.mem_cons_of_mem _ hx)
 ·rcases List.mem_cons.1 hx with rfl|hx
  ·exact h6
  ·exact h.oflat x (List.mem_cons_of_mem _ hx)
theorem SL.cell_own {b i:Nat} {c:Array Value} {T:TypeId} {f:Nat × Nat} (h:SL I ((b,.cells c T f)::O) E w):w.cell? ⟨b,i,none⟩=c[i]?:=by
 have:=h.own (b,.cells c T f) (by simp)
 simp only at this
 simp[World.cell?,this]
theorem SL.cell_pers {b i:Nat} {c:Array Value} {T:TypeId} {f:Nat × Nat} (h:SL I O E w) (hb:I b=some (.cells c T f)):w.cell? ⟨b,i,none⟩=c[i]?:=by
 simp[World.cell?,h.pers _ _ hb]
def At (I:aF) (O:List (Nat × Obj)) (b i:Nat) (v:Value):Prop:=(∃c T f,I b=some (.cells c T f)∧c[i]?=some v)∨∃c T f,(b,Obj.cells c T f)∈O∧c[i]?=some v
theorem SL.at_ (h:SL I O E w) {b i:Nat} {v:Value} (ha:At I O b i v):w.cell? ⟨b,i,none⟩=some v:=by
 rcases ha with ⟨c,T,f,hb,hv⟩|⟨c,T,f,hm,hv⟩
 ·rw[h.cell_pers hb,hv]
 ·have:=h.own _ hm;simp only at this;simp[World.cell?,this,hv]
end
theorem bd (b o n:Nat):(⟨b,o,none⟩:Addr).add n=⟨b,o+n,none⟩:=by
 unfold Addr.add;split<;>simp_all
end
section
def lC (x:Int):Prop:=-9223372036854775808≤x∧x≤9223372036854775807
section
variable {P:Program} {ops:Array Oper} {K:bn→World→Prop} {ρ:bn} {w:World} {rest:List Oper}
variable {d ty:Nat} {pos:String} {af:Array Edge} {x y z:Operand} {t u:TypeId}
variable {I:aF} {O:List (Nat × Obj)} {E:World}
theorem bq.val {op:Op} {v:Value} (h:(execOp (ev ρ) (Oper.mk (some d) op ty pos af none)).run P w=.ok (.value v) w) (k:bq P ops K rest (upd ρ d v) w) :
  bq P ops K (Oper.mk (some d) op ty pos af none::rest) ρ w:=
 bq.step rfl (by unfold cQ;rw[h];exact k)
theorem bq.guardT {dd:Option Nat} {op:Op} {j s:Nat} {b t:Bool} (hs:(ops[j]?).bind (fun o:Oper=>o.dst)=some s) (hv:ρ s=.bool t) (ht:t=b)
  (k:bq P ops K (Oper.mk dd op ty pos af none::rest) ρ w):bq P ops K (Oper.mk dd op ty pos af (some (j,b))::rest) ρ w:=by
 subst ht
 unfold bq at *
 rw[if_pos (by simp[br])] at k
 rw[if_pos (by simp only[br,hs,hv];simp)]
 exact k
theorem bq.guardF {dd:Option Nat} {op:Op} {j s:Nat} {b t:Bool} (hs:(ops[j]?).bind (fun o:Oper=>o.dst)=some s) (hv:ρ s=.bool t) (ht:t=!b)
  (k:bq P ops K rest (updO ρ dd undef) w):bq P ops K (Oper.mk dd op ty pos af (some (j,b))::rest) ρ w:=by
 subst ht
 unfold bq
 rw[if_neg (by simp only[br,hs,hv];cases b<;>simp)]
 exact k
theorem bG {op:BinOp} {k:IntKind} {a b:Int} (hx:ev ρ x=.int k a) (hy:ev ρ y=.int k b) (h1:op≠.shl) (h2:op≠.shr) :
  (execOp (ev ρ) (Oper.mk (some d) (.binOp op t x y u) ty pos af none)).run P w=((binOp op t (.int k a) (.int k b)).run P w).andThen fun v w'=>.ok (.value v) w':=by
 simp only[execOp,hx,hy]
 have he:(eqGuard op t x y (.int k a) (.int k b)).run P w=.ok () w:=by
  unfold eqGuard;cases op<;>rfl
 simp[he]
theorem eu {op:BinOp} {a b:Option Addr}:(eqGuard op t x y (.pointer a) (.pointer b)).run P w=.ok () w:=by
 unfold eqGuard;cases op<;>rfl
theorem dU {op:BinOp} {a b:Option Addr} {n c n' c':Nat}:(eqGuard op t x y (.slice a n c) (.slice b n' c')).run P w=.ok () w:=by
 unfold eqGuard;cases op<;>rfl
theorem cR {op:BinOp} {a b:ByteArray}:(eqGuard op t x y (.string a) (.string b)).run P w=.ok () w:=by
 unfold eqGuard;cases op<;>rfl
theorem fz {op:BinOp} {a b:Bool}:(eqGuard op t x y (.bool a) (.bool b)).run P w=.ok () w:=by
 unfold eqGuard;cases op<;>rfl
theorem bq.eqNilS {a:Option Addr} {n c:Nat} {e:TypeId} (ht:P.underlying t=some (.slice e)) (hx:ev ρ x=.slice a n c) (hy:ev ρ y=.slice none 0 0) (h:bq P ops K rest (upd ρ d (.bool a.isNone)) w) :
  bq P ops K (Oper.mk (some d) (.binOp .eql t x y u) ty pos af none::rest) ρ w:=
 bq.val (by simp only[execOp,hx,hy];simp[dU,Lib.run_eql_slice_nil w t e a n c 0 0 ht]) h
theorem eF (a b:ByteArray):(a.toList == b.toList)=decide (a=b):=by
 rw[ByteArray.toList_eq,ByteArray.toList_eq]
 by_cases h:a=b
 ·simp[h]
 ·have:¬a.data.toList=b.data.toList:=fun e=>h (by
   obtain ⟨⟨x⟩⟩:=a;obtain ⟨⟨y⟩⟩:=b;simpa using e)
  rw[decide_eq_false h];exact beq_eq_false_iff_ne.2 this
theorem bq.callF {f:FuncId} {args:List Operand} {tys:Array TypeId} {R:Value→World→Prop} (hc:Fn P f (args.map (ev ρ)).toArray w R) (h:∀v w',R v w'→bq P ops K rest (upd ρ d v) w') :
  bq P ops K (Oper.mk (some d) (.call { callee:=.value (.func f),args:=args.toArray,argTypes:=tys }) ty pos af none::rest) ρ w:=by
 refine bq.step rfl ?_
 obtain ⟨⟨fn,c,hf,hb,hn⟩,hcalls⟩:=hc
 unfold cQ
 have:(execOp (ev ρ) (Oper.mk (some d) (.call { callee:=.value (.func f),args:=args.toArray,argTypes:=tys }) ty pos af none)).run P w=.ok (.enter f (args.map (ev ρ)).toArray) w:=by
  simp[execOp,resolve,ev,Deferred.ofValue,invoke,callFunc,hf,hb,hn]
 rw[this]
 exact hcalls.mono fun e w' ⟨v,h1,h2⟩=>⟨v,h1,h v w' h2⟩
theorem bq.callV {f:FuncId} {args:List Operand} {tys:Array TypeId} {a b:List Value} {R:Value→World→Prop} (hx:ev ρ x=.func (.func f) a.toArray b.toArray) (hc:Fn P f (a++args.map (ev ρ)++b).toArray w R) (h:∀v w',R v w'→bq P ops K rest (upd ρ d v) w') :
  bq P ops K (Oper.mk (some d) (.call { callee:=.value x,args:=args.toArray,argTypes:=tys }) ty pos af none::rest) ρ w:=by
 refine bq.step rfl ?_
 obtain ⟨⟨fn,c,hf,hb,hn⟩,hcalls⟩:=hc
 unfold cQ
 have:(execOp (ev ρ) (Oper.mk (some d) (.call { callee:=.value x,args:=args.toArray,argTypes:=tys }) ty pos af none)).run P w=.ok (.enter f (a++args.map (ev ρ)++b).toArray) w:=by
  simp[execOp,resolve,hx,Deferred.ofValue,invoke,callFunc,hf,hb,hn]
 rw[this]
 exact hcalls.mono fun e w' ⟨v,h1,h2⟩=>⟨v,h1,h v w' h2⟩
end
end
section
def fj (k:Nat) (e:TypeId) (a:Option Addr) (n cap:Nat) (cs:List Value) (A:List (Nat × Obj)):Prop:=
 cs.length=n*k∧n≤cap∧((a=none∧cap=0∧A=[])∨∃b junk,a=some ⟨b,0,none⟩∧A=[(b,.cells (cs++junk).toArray e (0,0))]∧(cs++junk).length=cap*k)
theorem fj.nil (k:Nat) (e:TypeId):fj k e none 0 0 [] []:=⟨by simp,Nat.le_refl _,.inl ⟨rfl,rfl,rfl⟩⟩
theorem fj.made {k:Nat} {e:TypeId} {b n:Nat} {cs:List Value} (h:cs.length=n*k):fj k e (some ⟨b,0,none⟩) n n cs [(b,.cells cs.toArray e (0,0))]:=
 ⟨h,Nat.le_refl _,.inr ⟨b,[],rfl,by simp,by simpa using h⟩⟩
def zS (I:aF) (O:List (Nat × Obj)) (k:Nat) (a:Option Addr) (m:Nat) (cs:List Value):Prop:=
 cs.length=m*k∧(∀u∈cs,u.oneCell'=true)∧((a=none∧m=0)∨∃p,a=some p∧∀(j:Nat) (u:Value),cs[j]?=some u→∃b off,p=⟨b,off,none⟩∧At I O b (off+j) u)
section
variable {P:Program} {ops:Array Oper} {K:bn→World→Prop} {ρ:bn} {w:World} {rest:List Oper}
variable {d ty:Nat} {pos:String} {af:Array Edge} {x y z:Operand} {t u e:TypeId}
variable {I:aF} {O A:List (Nat × Obj)} {E:World}
theorem jW {i:TypeInfo} {z:Value} {k n m cap sc:Nat} {a sa:Option Addr} {cs news:List Value} (ht:P.underlying t=some (.slice e)) (hi:P.info? e=some i) (hz:i.zero=some z) (hk:i.size=k)
  (hzc:z.cells.size=k) (hS:SL I (A++O) E w) (hA:fj k e a n cap cs A) (hs:zS I (A++O) k sa m news) (hb:(n+m)*i.bytes≤140737488355328) (hb2:n+m≤140737488355328) :
  ∃a' cap' A' w',(Builtin.append_ #[t,t] ty #[.slice a n cap,.slice sa m sc]).run P w=.ok (.slice a' (n+m) cap') w'∧fj k e a' (n+m) cap' (cs++news) A'∧SL I (A'++O) E w' ∧
   (a'=none→a=none∧m=0):=by
 subst hk
 obtain ⟨hcl,hnc,hA⟩:=hA
 obtain ⟨hnl,h1,hs⟩:=hs
 rcases hs with ⟨rfl,rfl⟩|⟨sp,rfl,hat⟩
 ·
  have hn:news=[]:=List.eq_nil_of_length_eq_zero (by simpa using hnl)
  subst hn
  refine ⟨a,cap,A,w,?_,⟨by simpa using hcl,by omega,by simpa using hA⟩,hS,fun h=>⟨h,rfl⟩⟩
  have hle:n≤cap:=hnc
  cases a<;>simp[Builtin.append_,run_underlying ht,sizeOf,typeInfo,hi,Builtin.lenOf,Builtin.firstCells,hle,storeCells]
 ·have hcell:∀(j:Nat) (v:Value),news[j]?=some v→w.cell? (sp.add j)=some v:=fun j v hj=>by
   obtain ⟨b,off,rfl,h⟩:=hat j v hj
   rw[bd];exact hS.at_ h
  rcases hA with ⟨rfl,rfl,rfl⟩|⟨b,junk,rfl,rfl,hjl⟩
  ·have hn0:n=0:=by omega
   subst hn0
   have hcs:cs=[]:=List.eq_nil_of_length_eq_zero (by simpa using hcl)
   subst hcs
   rcases Nat.eq_zero_or_pos m with rfl|hm
   ·have hn:news=[]:=List.eq_nil_of_length_eq_zero (by simpa using hnl)
    subst hn
    refine ⟨none,0,[],w,?_,fj.nil _ _,hS,fun _=>⟨rfl,rfl⟩⟩
    simp[Builtin.append_,run_underlying ht,sizeOf,typeInfo,hi,Builtin.lenOf,Builtin.firstCells,loadCells,loadCellsFrom]
   ·have hrun:=run_append_nil (P:=P) w t ty e i z ht hi hz sp m sc news hnl hcell hm (by omega) (by have:=hb;simp at this;omega)
    simp only[Nat.zero_add,List.nil_append] at *
    refine ⟨_,_,[(w.heap.size,.cells (news.toArray++Builtin.zeroCells z.cells (grownCap w m 0 e - m)) e (0,0))],_,hrun,⟨hnl,grownCap_ge _ _ _ _,.inr ⟨_,(Builtin.zeroCells z.cells (grownCap w m 0 e - m)).toList,rfl,?_,?_⟩⟩,(hS.drew).alloc _,fun h=>by cases h⟩
    ·congr 2;congr 1;simp
    ·have:=grownCap_ge w m 0 e
     simp only[List.length_append,hnl,Array.length_toList,size_zeroCells,hzc,←Nat.add_mul]
     congr 1;omega
  ·have hown:=hS.own (b,.cells (cs++junk).toArray e (0,0)) (by simp)
   simp only at hown
   have hjl':cs.length+junk.length=cap*i.size:=by simpa using hjl
   by_cases hroom:n+m≤cap
   ·have hmul:(n+m)*i.size≤cap*i.size:=Nat.mul_le_mul_right _ hroom
    have hrun:=run_append_room (P:=P) w t ty e i ht hi b n cap (cs++junk).toArray hown sp m sc news hnl hcell h1 hroom (by simp;rw[hnl,←Nat.add_mul];omega)
    have hshape:(List.take (n*i.size) (cs++junk).toArray.toList++news++List.drop (n*i.size+news.length) (cs++junk).toArray.toList)=(cs++news)++junk.drop news.length:=by
     have e1:n*i.size=cs.length:=hcl.symm
     simp only[e1]
     rw[List.take_left,List.drop_append,List.drop_eq_nil_of_le (by omega:cs.length≤cs.length+news.length)]
     simp
    rw[hshape] at hrun
    refine ⟨_,_,[(b,.cells ((cs++news)++junk.drop news.length).toArray e (0,0))],_,hrun,⟨by rw[List.length_append,hcl,hnl,Nat.add_mul],hroom,.inr ⟨b,_,rfl,rfl,?_⟩⟩,?_,fun h=>by cases h⟩
    ·have:news.length≤junk.length:=by
      rw[Nat.add_mul] at hmul;omega
     simp only[List.length_append,List.length_drop];omega
    ·refine SL.turn (w:=w) hS rfl rfl rfl ?_ ?_
     ·simp[World.setRow,Array.getElem?_modify,hown]
     ·intro k hk
      simp only[World.setRow,Array.getElem?_modify]
      rw[if_neg (by omega)]
   ·have hlt:cap<n+m:=by omega
    have hrun:=run_append_grow (P:=P) w t ty e i z ht hi hz ⟨b,0,none⟩ n cap cs hcl (fun j v hj=>by
     rw[bd,Nat.zero_add]
     refine hS.at_ (.inr ⟨_,_,_,List.mem_append_left _ (List.mem_singleton.2 rfl),?_⟩)
     have:=(List.getElem?_eq_some_iff.1 hj).1
     rw[List.getElem?_toArray,List.getElem?_append_left this];exact hj) sp m sc news hnl hcell hlt (by omega) (growslice_fits hlt hb)
    refine ⟨_,_,[(w.heap.size,.cells (cs.toArray++news.toArray++Builtin.zeroCells z.cells (grownCap w (n+m) cap e - (n+m))) e (0,0))],_,hrun,⟨by rw[List.length_append,hcl,hnl,Nat.add_mul],grownCap_ge _ _ _ _,.inr ⟨_,(Builtin.zeroCells z.cells (grownCap w (n+m) cap e - (n+m))).toList,rfl,?_,?_⟩⟩,?_,fun h=>by cases h⟩
    ·congr 2;congr 1;simp
    ·have:=grownCap_ge w (n+m) cap e
     simp only[List.length_append,hcl,hnl,Array.length_toList,size_zeroCells,hzc,←Nat.add_mul]
     congr 1;omega
    ·have h2:=(hS.drew).alloc (.cells (cs.toArray++news.toArray++Builtin.zeroCells z.cells (grownCap w (n+m) cap e - (n+m))) e (0,0))
     refine h2.sub ?_
     exact List.Sublist.cons_cons _ (List.sublist_cons_self _ _)
theorem bq.append {i:TypeInfo} {z:Value} {k n m cap sc:Nat} {a sa:Option Addr} {cs news:List Value} (ht:P.underlying t=some (.slice e)) (hi:P.info? e=some i) (hz:i.zero=some z) (hk:i.size=k)
  (hzc:z.cells.size=k) (hx:ev ρ x=.slice a n cap) (hy:ev ρ y=.slice sa m sc) (hS:SL I (A++O) E w) (hA:fj k e a n cap cs A) (hs:zS I (A++O) k sa m news) (hb:(n+m)*i.bytes≤140737488355328) (hb2:n+m≤140737488355328)
  (h:∀a' cap' A' w',fj k e a' (n+m) cap' (cs++news) A'→SL I (A'++O) E w'→(a'=none→a=none∧m=0)→bq P ops K rest (upd ρ d (.slice a' (n+m) cap')) w') :
  bq P ops K (Oper.mk (some d) (.call { callee:=.builtin .append,args:=#[x,y],argTypes:=#[t,t] }) ty pos af none::rest) ρ w:=by
 obtain ⟨a',cap',A',w',hrun,h1,h2,h3⟩:=jW (ty:=ty) (sc:=sc) ht hi hz hk hzc hS hA hs hb hb2
 refine bq.step rfl ?_
 unfold cQ
 have:(execOp (ev ρ) (Oper.mk (some d) (.call { callee:=.builtin .append,args:=#[x,y],argTypes:=#[t,t] }) ty pos af none)).run P w=.ok (.value (.slice a' (n+m) cap')) w':=by
  simp[execOp,resolve,hx,hy,invoke,builtin,hrun]
 rw[this]
 exact h _ _ _ _ h1 h2 h3
theorem ee {v:Value} (w:World):(newVar t v).run P w=.ok ⟨w.heap.size,0,none⟩ (w.alloc (.cells v.cells t)):=by
 simp[newVar,newRow]
theorem bq.boxP {v:Value} (hS:SL I O E w) (hx:ev ρ x=v) (h:∀b w' J,I.le J→J b=some (.cells v.cells t (0,0))→SL J O E w'→bq P ops K rest (upd ρ d (.pointer (some ⟨b,0,none⟩))) w') :
  bq P ops K (Oper.mk (some d) (.box t x) ty pos af none::rest) ρ w:=by
 refine bq.step rfl ?_
 unfold cQ
 have:(execOp (ev ρ) (Oper.mk (some d) (.box t x) ty pos af none)).run P w=.ok (.value (.pointer (some ⟨w.heap.size,0,none⟩))) (w.alloc (.cells v.cells t)):=by
  simp[execOp,hx,Instr.box,ee]
 rw[this]
 exact h _ _ _ (hS.alloc_pers _).1 (aF.put_same _ _ _) (hS.alloc_pers _).2
theorem bq.alloc {zv:Value} (hz:∀w,(zeroValue t).run P w=.ok zv w) (hS:SL I O E w) (h:∀b w',SL I ((b,.cells zv.cells t (0,0))::O) E w'→bq P ops K rest (upd ρ d (.pointer (some ⟨b,0,none⟩))) w') :
  bq P ops K (Oper.mk (some d) (.alloc t) ty pos af none::rest) ρ w:=by
 refine bq.step rfl ?_
 unfold cQ
 have:(execOp (ev ρ) (Oper.mk (some d) (.alloc t) ty pos af none)).run P w=.ok (.value (.pointer (some ⟨w.heap.size,0,none⟩))) (w.alloc (.cells zv.cells t)):=by
  simp[execOp,Instr.alloc,hz,ee]
 rw[this]
 exact h _ _ (hS.alloc _)
end
end
section
theorem nm {ρ ρ':bn} (h:ρ'=ρ) (t:Nat):∃v,ρ' t=v∧v=ρ t:=⟨ρ t,congrFun h t,rfl⟩
section
variable {P:Program} {n:Nat} {Q:Exit→bn→World→Prop} {ρ:bn} {w:World}
variable {R:Value→World→Prop}
theorem dl {b off:Nat} {T:TypeId} {cs:List Value} (ha:∀w,(isAgg T).run P w=.ok true w) (hs:∀w,(sizeOf T).run P w=.ok cs.length w) (hv:∀j v,cs[j]?=some v→w.cell? ⟨b,off+j,none⟩=some v) :
  (loadVar T ⟨b,off,none⟩).run P w=.ok (.agg cs.toArray) w:=by
 have hl:=run_loadCells_list (P:=P) w ⟨b,off,none⟩ cs (fun j v hj=>by rw[bd];exact hv j v hj)
 simp[loadVar,ha,hs,hl]
theorem gB {b off:Nat} {T:TypeId} {v:Value} (ha:∀w,(isAgg T).run P w=.ok false w) (hv:w.cell? ⟨b,off,none⟩=some v):(loadVar T ⟨b,off,none⟩).run P w=.ok v w:=by
 simp[loadVar,ha,hv]
end
section
variable {P:Program} {ops:Array Oper} {K:bn→World→Prop} {ρ:bn} {w:World} {rest:List Oper}
variable {d d2 ty ty2:Nat} {pos pos2:String} {af af2:Array Edge} {x y z:Operand} {t u e:TypeId}
variable {I:aF} {O A:List (Nat × Obj)} {E:World}
theorem lD {cs tl:List Value} {off:Nat} {v:Value} (h:cs.drop off=v::tl):cs[off]?=some v:=by
 have:=congrArg (fun l=>l[0]?) h
 simpa using this
theorem bq.buildSlice0 {i:TypeInfo} (ht:P.underlying t=some (.slice e)) (hi:P.info? e=some i) (hS:SL I O E w) (h:∀b w',SL I ([(b,.cells [].toArray e (0,0))]++O) E w'→bq P ops K rest (upd ρ d (.slice (some ⟨b,0,none⟩) 0 0)) w') :
  bq P ops K (Oper.mk (some d) (.buildSlice t 0 #[]) ty pos af none::rest) ρ w:=by
 refine bq.step rfl ?_
 unfold cQ
 have:(execOp (ev ρ) (Oper.mk (some d) (.buildSlice t 0 #[]) ty pos af none)).run P w=.ok (.value (.slice (some ⟨w.heap.size,0,none⟩) 0 0)) (w.alloc (.cells #[] e)):=by
  simp[execOp,Instr.buildSlice,run_underlying ht,sizeOf,typeInfo,hi,Instr.fill,newRow]
  congr 2
  exact Array.eq_empty_of_size_eq_zero (by simp)
 rw[this]
 exact h _ _ (hS.alloc _)
end
section
variable {P:Program} {ops:Array Oper} {K:bn→World→Prop} {ρ:bn} {w:World} {rest:List Oper}
variable {d ty:Nat} {pos:String} {af:Array Edge} {x y:Operand} {t e:TypeId}
variable {I:aF} {O:List (Nat × Obj)} {E:World}
end
abbrev zP:=List (Nat × Obj)
section
variable {P:Program} {ops:Array Oper} {K:bn→World→Prop} {ρ:bn} {w:World} {rest:List Oper}
variable {d d2 ty ty2:Nat} {pos pos2:String} {af af2:Array Edge} {x y z:Operand} {t u e:TypeId}
variable {I:aF} {O A:zP} {E:World} {α:Type} {R:aF→zP→List Value→α→Prop} {xs:List α} {v:α}
end
end
section
section
variable {P:Program} {ρ:bn} {w:World}
variable {d ty:Nat} {pos:String} {af:Array Edge} {x y z:Operand} {t u e:TypeId}
variable {I:aF} {O:zP} {E:World}
theorem Run.pickT {b:Bool} {v:Value} (hc:ev ρ x=.bool b) (hb:b=true) (hy:ev ρ y=v) :
  (execOp (ev ρ) (Oper.mk (some d) (.pick x y z) ty pos af none)).run P w=.ok (.value (v)) w:=
 (by subst hb;simp[execOp,hc,hy,asBool])
theorem Run.pickF {b:Bool} {v:Value} (hc:ev ρ x=.bool b) (hb:b=false) (hz:ev ρ z=v) :
  (execOp (ev ρ) (Oper.mk (some d) (.pick x y z) ty pos af none)).run P w=.ok (.value (v)) w:=
 (by subst hb;simp[execOp,hc,hz,asBool])
theorem Run.lss {k:IntKind} {a b:Int} (hx:ev ρ x=.int k a) (hy:ev ρ y=.int k b) :
  (execOp (ev ρ) (Oper.mk (some d) (.binOp .lss t x y u) ty pos af none)).run P w=.ok (.value ((.bool (decide (a<b))))) w:=
 (by rw[bG hx hy (by decide) (by decide)];simp[binOp,Op.intCmp])
theorem Run.leq {k:IntKind} {a b:Int} (hx:ev ρ x=.int k a) (hy:ev ρ y=.int k b) :
  (execOp (ev ρ) (Oper.mk (some d) (.binOp .leq t x y u) ty pos af none)).run P w=.ok (.value ((.bool (decide (a≤b))))) w:=
 (by rw[bG hx hy (by decide) (by decide)];simp[binOp,Op.intCmp])
theorem Run.gtr {k:IntKind} {a b:Int} (hx:ev ρ x=.int k a) (hy:ev ρ y=.int k b) :
  (execOp (ev ρ) (Oper.mk (some d) (.binOp .gtr t x y u) ty pos af none)).run P w=.ok (.value ((.bool (decide (b<a))))) w:=
 (by rw[bG hx hy (by decide) (by decide)];simp[binOp,Op.intCmp])
theorem Run.geq {k:IntKind} {a b:Int} (hx:ev ρ x=.int k a) (hy:ev ρ y=.int k b) :
  (execOp (ev ρ) (Oper.mk (some d) (.binOp .geq t x y u) ty pos af none)).run P w=.ok (.value ((.bool (decide (b≤a))))) w:=
 (by rw[bG hx hy (by decide) (by decide)];simp[binOp,Op.intCmp])
theorem Run.eqlI {k:IntKind} {a b:Int} (hx:ev ρ x=.int k a) (hy:ev ρ y=.int k b) :
  (execOp (ev ρ) (Oper.mk (some d) (.binOp .eql t x y u) ty pos af none)).run P w=.ok (.value ((.bool (decide (a=b))))) w:=
 (by
  rw[bG hx hy (by decide) (by decide)]
  have e:(decide (a=b))=(a == b):=by by_cases h:a=b<;>simp[h]
  rw[e];simp[binOp,Op.intCmp])
theorem Run.neqI {k:IntKind} {a b:Int} (hx:ev ρ x=.int k a) (hy:ev ρ y=.int k b) :
  (execOp (ev ρ) (Oper.mk (some d) (.binOp .neq t x y u) ty pos af none)).run P w=.ok (.value ((.bool (decide (a≠b))))) w:=
 (by
  rw[bG hx hy (by decide) (by decide)]
  have e:(decide (a≠b))=(a != b):=by by_cases h:a=b<;>simp[h]
  rw[e];simp[binOp,Op.intCmp])
theorem Run.add {a b:Int} (hx:ev ρ x=.int .i64 a) (hy:ev ρ y=.int .i64 b) (hr:lC (a+b)) :
  (execOp (ev ρ) (Oper.mk (some d) (.binOp .add t x y u) ty pos af none)).run P w=.ok (.value ((.int .i64 (a+b)))) w:=
 (by rw[bG hx hy (by decide) (by decide)];simp[binOp,Op.intArith,IntWalk.i64_in _ hr])
theorem Run.sub {a b:Int} (hx:ev ρ x=.int .i64 a) (hy:ev ρ y=.int .i64 b) (hr:lC (a - b)) :
  (execOp (ev ρ) (Oper.mk (some d) (.binOp .sub t x y u) ty pos af none)).run P w=.ok (.value ((.int .i64 (a - b)))) w:=
 (by rw[bG hx hy (by decide) (by decide)];simp[binOp,Op.intArith,IntWalk.i64_in _ hr])
theorem Run.mul {a b:Int} (hx:ev ρ x=.int .i64 a) (hy:ev ρ y=.int .i64 b) (hr:lC (a*b)) :
  (execOp (ev ρ) (Oper.mk (some d) (.binOp .mul t x y u) ty pos af none)).run P w=.ok (.value ((.int .i64 (a*b)))) w:=
 (by rw[bG hx hy (by decide) (by decide)];simp[binOp,Op.intArith,IntWalk.i64_in _ hr])
theorem Run.not {b:Bool} (hx:ev ρ x=.bool b) :
  (execOp (ev ρ) (Oper.mk (some d) (.unOp .not t x) ty pos af none)).run P w=.ok (.value ((.bool (!b)))) w:=
 (by simp[execOp,hx,unary_not])
theorem Run.extract {vs:Array Value} {ix:Nat} {v:Value} (hx:ev ρ x=.tuple vs) (hv:vs[ix]?=some v) :
  (execOp (ev ρ) (Oper.mk (some d) (.extract x ix) ty pos af none)).run P w=.ok (.value (v)) w:=
 (by simp[execOp,hx,Instr.extract,hv])
theorem Run.nilCheck {a:Addr} (hx:ev ρ x=.pointer (some a)) :
  (execOp (ev ρ) (Oper.mk (some d) (.nilCheck x) ty pos af none)).run P w=.ok (.value ((.pointer (some a)))) w:=
 (by simp[execOp,hx])
theorem Run.lenS {a:Option Addr} {n c:Nat} {e:TypeId} (ht:P.underlying t=some (.slice e)) (hx:ev ρ x=.slice a n c) :
  (execOp (ev ρ) (Oper.mk (some d) (.call { callee:=.builtin .len,args:=#[x],argTypes:=#[t] }) ty pos af none)).run P w=.ok (.value ((.int .i64 n))) w:=
 (by simp[execOp,resolve,hx,invoke,builtin,Builtin.len_,run_underlying ht,goInt])
theorem Run.lenT {s:ByteArray} (ht:P.underlying t=some .string) (hx:ev ρ x=.string s) :
  (execOp (ev ρ) (Oper.mk (some d) (.call { callee:=.builtin .len,args:=#[x],argTypes:=#[t] }) ty pos af none)).run P w=.ok (.value ((.int .i64 s.size))) w:=
 (by simp[execOp,resolve,hx,invoke,builtin,Builtin.len_,run_underlying ht,goInt])
theorem Run.eqlT {a b:ByteArray} (hx:ev ρ x=.string a) (hy:ev ρ y=.string b) :
  (execOp (ev ρ) (Oper.mk (some d) (.binOp .eql t x y u) ty pos af none)).run P w=.ok (.value ((.bool (decide (a=b))))) w:=
 (by
  rw[←eF];simp only[execOp,hx,hy];simp[cR,binOp_string_eql])
theorem Run.neqT {a b:ByteArray} (hx:ev ρ x=.string a) (hy:ev ρ y=.string b) :
  (execOp (ev ρ) (Oper.mk (some d) (.binOp .neq t x y u) ty pos af none)).run P w=.ok (.value ((.bool (!decide (a=b))))) w:=
 (by
  rw[←eF];simp only[execOp,hx,hy];simp[cR,binOp_string_neq])
theorem Run.neqB {a b:Bool} (ht:P.underlying t=some .bool) (hx:ev ρ x=.bool a) (hy:ev ρ y=.bool b) :
  (execOp (ev ρ) (Oper.mk (some d) (.binOp .neq t x y u) ty pos af none)).run P w=.ok (.value ((.bool (!(a == b))))) w:=
 (by simp only[execOp,hx,hy];simp[fz,run_neq_bool w t a b ht])
theorem Run.load1 {b off:Nat} {v:Value} (ha:∀w,(isAgg t).run P w=.ok false w) (hS:SL I O E w) (hx:ev ρ x=.pointer (some ⟨b,off,none⟩)) (hv:At I O b off v)
  :
  (execOp (ev ρ) (Oper.mk (some d) (.load t x) ty pos af none)).run P w=.ok (.value (v)) w:=
 (by simp[execOp,hx,Instr.loadAt,Instr.sureAddr,loadVar,ha,hS.at_ hv])
theorem Run.loadA {b off:Nat} {cs:List Value} (ha:∀w,(isAgg t).run P w=.ok true w) (hs:∀w,(sizeOf t).run P w=.ok cs.length w) (hS:SL I O E w) (hx:ev ρ x=.pointer (some ⟨b,off,none⟩))
  (hv:∀j v,cs[j]?=some v→At I O b (off+j) v) :
  (execOp (ev ρ) (Oper.mk (some d) (.load t x) ty pos af none)).run P w=.ok (.value ((.agg cs.toArray))) w:=
 (by
  have hl:=run_loadCells_list (P:=P) w ⟨b,off,none⟩ cs (fun j v hj=>by rw[bd];exact hS.at_ (hv j v hj))
  simp[execOp,hx,Instr.loadAt,Instr.sureAddr,loadVar,ha,hs,hl])
theorem Run.idx {b off n c j k:Nat} {e:TypeId} {i:Int} (ht:P.underlying t=some (.slice e)) (hs:∀w,(sizeOf e).run P w=.ok k w) (hx:ev ρ x=.slice (some ⟨b,off,none⟩) n c)
  (hy:ev ρ y=.int .i64 i) (hi:i=(j:Int)) (hj:j<n) :
  (execOp (ev ρ) (Oper.mk (some d) (.indexAddr t x y) ty pos af none)).run P w=.ok (.value ((.pointer (some ⟨b,off+j*k,none⟩)))) w:=
 (by
  subst hi
  simp[execOp,hx,hy,Instr.indexAt,asIntOf,run_underlying ht,hs,hj,bd])
theorem Run.field {fs:Array Field} {f:Field} {i:Nat} {b off r:Nat} {sz:Nat} (ht:P.underlying t=some (.struct fs)) (hf:fs[i]?=some f) (hs:∀w,(sizeOf f.type).run P w=.ok sz w) (hz:sz≠0)
  (hx:ev ρ x=.pointer (some ⟨b,off,none⟩)) (hr:off+f.offset=r) :
  (execOp (ev ρ) (Oper.mk (some d) (.fieldAddr t x i) ty pos af none)).run P w=.ok (.value ((.pointer (some ⟨b,r,none⟩)))) w:=
 (by subst hr;simp[execOp,hx,Instr.fieldAt,run_underlying ht,hf,Instr.sureAddr,fieldPlace,hs,hz,bd])
end
def cE (W:Nat→Bool) (listed:Array Bool):Prop:=∃j,listed.getD j false=true∧W j=true
theorem fk {W:Nat→Bool} {listed:Array Bool} {i:Nat} (h:cE W listed):cE W (listed.setIfInBounds i true):=by
 obtain ⟨j,h1,h2⟩:=h
 refine ⟨j,?_,h2⟩
 rw[Array.getD_eq_getD_getElem?] at h1 ⊢
 rw[Array.getElem?_setIfInBounds]
 split
 ·rename_i e;subst e
  split
  ·rfl
  ·rename_i hn;rw[Array.getElem?_eq_none (by omega)] at h1;cases h1
 ·exact h1
theorem kl {W:Nat→Bool} {listed:Array Bool} {i:Nat} (hi:W i=false) (h:cE W (listed.setIfInBounds i true)):cE W listed:=by
 obtain ⟨j,h1,h2⟩:=h
 refine ⟨j,?_,h2⟩
 rw[Array.getD_eq_getD_getElem?] at h1 ⊢
 rw[Array.getElem?_setIfInBounds] at h1
 split at h1
 ·rename_i e;subst e;rw[hi] at h2;cases h2
 ·exact h1
def bo (P:Program) (ops:Array Oper) (S0 S:World→Prop) (W:Nat→Bool) (Q:bn→World→Prop):Nat→Array Bool→bn→World→Prop
 |0,listed,ρ,w=>Region.ready .any ops listed=[]∧Q ρ w
 |fuel+1,listed,ρ,w=>(Region.ready .any ops listed=[]→Q ρ w) ∧
   ∀i∈Region.ready .any ops listed,∀o,ops[i]?=some o→bq P ops (fun ρ' w'=>(S0 w'∧(cE W (listed.setIfInBounds i true)∨S w'))∧bo P ops S0 S W Q fuel (listed.setIfInBounds i true) ρ' w') [o] ρ w
theorem bo.any {P:Program} {n:Nat} {l:List Oper} {S0 S:World→Prop} {W:Nat→Bool} {Q:Exit→bn→World→Prop} (hd:dk n l=true):∀(fuel:Nat) (listed:Array Bool) (ρ:bn) (w:World) (a:Act),dS n a ρ →
  bo P l.toArray S0 S W (Q .normal) fuel listed ρ w→wpAny P .any l.toArray (wS n Q) fuel listed a w
 |0,_,ρ,_,_,ha,h=>⟨h.1,ρ,ha,h.2⟩
 |fuel+1,listed,ρ,w,a,ha,h=>by
  refine ⟨fun h0=>⟨ρ,ha,h.1 h0⟩,fun i hi=>?_⟩
  obtain ⟨_,o,ho,_⟩:=mem_ready.1 hi
  have h2:=h.2 i hi o ho
  have hdo:o.dst.all (fun d=>decide (d<n))=true:=List.all_eq_true.1 hd _ (by simpa using Array.mem_of_getElem? ho)
  unfold wpOp
  simp only[ho]
  rw[ki ha _ _ (r5 hd)]
  unfold bq at h2
  split
  ·rename_i hw;rw[if_pos hw] at h2
   exact .inl (h2.wp ha fun v w' ⟨_,h3⟩=>bo.any hd fuel _ _ _ _ (ha.put hdo v) h3)
  ·rename_i hw;rw[if_neg hw] at h2
   exact bo.any hd fuel _ _ _ _ (ha.put hdo undef) h2.2
theorem qX (ρ:bn) {x y:Option Nat} (v u:Value) (h:∀d,x=some d→y≠some d):updO (updO ρ x v) y u=updO (updO ρ y u) x v:=by
 cases x with
 |none=>rfl
 |some d=>
  cases y with
  |none=>rfl
  |some e=>
   have hne:d≠e:=fun he=>h d rfl (he▸rfl)
   funext t
   simp only[updO]
   by_cases h1:t=d
   ·subst h1;rw[bZ _ _ hne,dC,dC]
   ·rw[bZ _ _ h1]
    by_cases h2:t=e
    ·subst h2;rw[dC,dC]
    ·rw[bZ _ _ h2,bZ _ _ h2,bZ _ _ h1]
theorem nq {ρ:bn} {ops:Array Oper} {o:Oper} {d:Option Nat} {v:Value} (h:∀e,d=some e→e ∉ o.looksAt ops):∀x∈o.op.operands,ev (updO ρ d v) x=ev ρ x:=by
 intro x hx
 cases d with
 |none=>rfl
 |some e=>
  cases x with
  |tmp t=>
   have:t≠e:=fun he=>h e rfl (by
    subst he
    exact List.mem_append_left _ (List.mem_filterMap.2 ⟨.tmp t,by simpa using hx,rfl⟩))
   exact bZ _ _ this
  |_=>rfl
theorem fA {ρ:bn} {ops:Array Oper} {o:Oper} {d:Option Nat} {v:Value} (h:∀e,d=some e→e ∉ o.looksAt ops):br ops o (updO ρ d v)=br ops o ρ:=by
 cases d with
 |none=>rfl
 |some e=>
  unfold br
  cases hg:o.guard with
  |none=>rfl
  |some gw=>
   obtain ⟨g,want⟩:=gw
   dsimp only
   cases ht:(ops[g]?).bind (fun o:Oper=>o.dst) with
   |none=>rfl
   |some t=>
    have hne:t≠e:=fun he=>h e rfl (by subst he;simp[Oper.looksAt,hg,ht])
    have:updO ρ (some e) v t=ρ t:=bZ _ _ hne
    simp only[this]
def lE (P:Program) (ops:Array Oper) (S:World→Prop) (o:Oper) (v:Value) (ρ:bn):Prop:=
 (br ops o ρ=true∧∀w,S w→(execOp (ev ρ) o).run P w=.ok (.value v) w)∨(br ops o ρ=false∧v=undef)
theorem lE.ops {P:Program} {ops:Array Oper} {S:World→Prop} {o:Oper} {v:Value} {ρ:bn} {K:bn→World→Prop} {w:World} (h:lE P ops S o v ρ) (hS:S w) (hK:K (updO ρ o.dst v) w):bq P ops K [o] ρ w:=by
 unfold bq
 rcases h with ⟨h1,h2⟩|⟨h1,rfl⟩
 ·rw[if_pos h1];unfold cQ;rw[h2 w hS];exact hK
 ·rw[if_neg (by simp[h1])];exact hK
theorem bo.first {P:Program} {ops:Array Oper} {S0 S:World→Prop} {W:Nat→Bool} {Q:bn→World→Prop} {i:Nat} {oi:Oper} {v:Value} (hi:ops[i]?=some oi) (hsel:∀(j:Nat) (o:Oper) cs b,ops[j]?=some o→o.op≠.select cs b)
  {Sx:World→Prop} {C:Array Bool→Prop} (hWi:W i=false)
  (hC:∀listed (j:Nat) oj,C listed→ops[j]?=some oj→j≠i→(∀e∈oj.after,Region.binds .any e=true→e.on≠i)→C (listed.setIfInBounds j true)) (hX:∀listed w,C listed→S0 w→(cE W listed∨S w)→Sx w) :
  ∀(fuel:Nat) (listed:Array Bool) (ρ:bn) (w:World),
   (∀j oj,ops[j]?=some oj→j≠i→listed.getD j true=false→(∀e∈oj.after,Region.binds .any e=true→e.on≠i)→oi.apart ops oj=true) →
   i∈Region.ready .any ops listed→lE P ops Sx oi v ρ→C listed→S0 w→(cE W listed∨S w) →
   bo P ops S0 S W Q fuel (listed.setIfInBounds i true) (updO ρ oi.dst v) w→bo P ops S0 S W Q (fuel+1) listed ρ w:=by
 intro fuel
 induction fuel with
 |zero=>
  intro listed ρ w _ hr hy hCl hS0 hS H
  refine ⟨fun h=>(by rw[h] at hr;cases hr),fun j hj o ho=>?_⟩
  by_cases hji:j=i
  ·subst hji
   rw[hi] at ho;cases ho
   exact hy.ops (hX _ _ hCl hS0 hS) ⟨⟨hS0,hS.imp fk id⟩,H⟩
  ·have:=ready_mono hj hji
   rw[H.1] at this
   cases this
 |succ fuel ih=>
  intro listed ρ w hfree hr hy hCl hS0 hS H
  refine ⟨fun h=>(by rw[h] at hr;cases hr),fun j hj oj hoj=>?_⟩
  by_cases hji:j=i
  ·subst hji
   rw[hi] at hoj;cases hoj
   exact hy.ops (hX _ _ hCl hS0 hS) ⟨⟨hS0,hS.imp fk id⟩,H⟩
  ·obtain ⟨hjun,oj',hoj',hall⟩:=mem_ready.1 hj
   rw[hoj] at hoj';cases hoj'
   have hnot:∀e∈oj.after,Region.binds .any e=true→e.on≠i:=fun e he hb heq=>by
    have h1:=hall e he hb
    have h0:=(mem_ready.1 hr).1
    rw[heq] at h1
    rcases Nat.lt_or_ge i listed.size with h'|h'
    ·simp[h'] at h0 h1;rw[h0] at h1;cases h1
    ·simp[Array.getElem?_eq_none h'] at h1
   have h1:=H.2 j (ready_mono hj hji) oj hoj
   obtain ⟨a1,a2,a3⟩:=Oper.apart_spec (hfree j oj hoj hji hjun hnot)
   have hwt:=fA (ρ:=ρ) (v:=v) (ops:=ops) (o:=oj) (d:=oi.dst) a1
   have hex:execOp (ev (updO ρ oi.dst v)) oj=execOp (ev ρ) oj:=execOp_congr oj (fun cs b=>hsel j oj cs b hoj) (nq a1)
   have hfree':∀k ok,ops[k]?=some ok→k≠i→(listed.setIfInBounds j true).getD k true=false →
     (∀e∈ok.after,Region.binds .any e=true→e.on≠i)→oi.apart ops ok=true:=fun k ok hk hki hun hno=>by
    refine hfree k ok hk hki ?_ hno
    by_cases hjk:j=k
    ·subst hjk;exact hjun
    ·rw[getD_set_ne true hjk] at hun;exact hun
   have keep:∀u,lE P ops Sx oi v (updO ρ oj.dst u):=fun u=>by
    unfold lE at *
    rw[fA a3,execOp_congr oi (fun cs b=>hsel i oi cs b hi) (nq a3)]
    exact hy
   have next:∀u w',((S0 w'∧(cE W ((listed.setIfInBounds i true).setIfInBounds j true)∨S w'))∧bo P ops S0 S W Q fuel ((listed.setIfInBounds i true).setIfInBounds j true) (updO (updO ρ oi.dst v) oj.dst u) w') →
     (S0 w'∧(cE W (listed.setIfInBounds j true)∨S w'))∧bo P ops S0 S W Q (fuel+1) (listed.setIfInBounds j true) (updO ρ oj.dst u) w':=by
    rintro u w' ⟨h2,h3⟩
    have hS':cE W (listed.setIfInBounds j true)∨S w':=h2.2.imp (fun h=>by
     rw[Array.setIfInBounds_comm _ _ (Ne.symm hji)] at h
     exact kl hWi h) id
    refine ⟨⟨h2.1,hS'⟩,ih _ _ _ hfree' (ready_mono hr (Ne.symm hji)) (keep u) (hC _ _ _ hCl hoj hji hnot) h2.1 hS' ?_⟩
    rw[←qX ρ v u a2,Array.setIfInBounds_comm _ _ hji]
    exact h3
   unfold bq at h1 ⊢
   rw[hwt] at h1
   split
   ·rename_i hw;rw[if_pos hw] at h1
    unfold cQ at h1 ⊢
    rw[hex] at h1
    split
    ·rename_i heq;rw[heq] at h1;exact next _ _ h1
    ·rename_i heq;rw[heq] at h1;exact next _ _ h1
    ·rename_i heq;rw[heq] at h1
     exact h1.mono fun e w'' ⟨u,he,hK⟩=>⟨u,he,next _ _ hK⟩
    ·rename_i h4 h5 h6
     split at h1
     ·rename_i heq;exact (h4 _ _ heq).elim
     ·rename_i heq;exact (h5 _ heq).elim
     ·rename_i heq;exact (h6 _ _ _ heq).elim
     ·exact h1
   ·rename_i hw;rw[if_neg hw] at h1
    exact next _ _ h1
def dD (l:List Oper) (i:Nat) (W:Nat→Bool):Bool:=(List.range l.length).all fun j=>j == i||!W j||(match l[j]? with|some oj=>oj.after.any (fun e=>Region.binds .any e&&e.on == i)|none=>true)
theorem lF {l:List Oper} {i:Nat} {W:Nat→Bool} (h:dD l i W=true) (j:Nat) (oj:Oper) (hj:l.toArray[j]?=some oj) (hne:j≠i) (hw:W j=true):∃e∈oj.after,Region.binds .any e=true∧e.on=i:=by
 simp only[dD,List.all_eq_true,List.mem_range] at h
 have hj':l[j]?=some oj:=by simpa using hj
 have:=h j (List.getElem?_eq_some_iff.1 hj').1
 simp only[hj',hw,Bool.not_true,Bool.or_false,Bool.or_eq_true,beq_iff_eq,hne,false_or] at this
 obtain ⟨e,he,hb⟩:=Array.any_eq_true'.1 this
 simp only[Bool.and_eq_true,beq_iff_eq] at hb
 exact ⟨e,he,hb.1,hb.2⟩
def cZ (W:Nat→Bool) (listed:Array Bool):Bool:=(List.range listed.size).all fun j=>!(listed.getD j false&&W j)
theorem eG {W:Nat→Bool} {listed:Array Bool} (h:cZ W listed=true):¬cE W listed:=fun ⟨j,h1,h2⟩=>by
 have hj:j<listed.size:=by
  rcases Nat.lt_or_ge j listed.size with h|h
  ·exact h
  ·rw[Array.getD_eq_getD_getElem?,Array.getElem?_eq_none h] at h1;cases h1
 have:=List.all_eq_true.1 h j (List.mem_range.2 hj)
 rw[h1,h2] at this;cases this
theorem eH {l:List Oper} {i:Nat} {W:Nat→Bool} (hW:dD l i W=true) (listed:Array Bool) (j:Nat) (oj:Oper) (hc:¬cE W listed) (hj:l.toArray[j]?=some oj) (hne:j≠i) (hno:∀e∈oj.after,Region.binds .any e=true→e.on≠i):¬cE W (listed.setIfInBounds j true):=fun h=>by
 refine hc (kl ?_ h)
 cases hw:W j with
 |false=>rfl
 |true=>
  obtain ⟨e,he,hb,hon⟩:=lF hW j oj hj hne hw
  exact absurd hon (hno e he hb)
section
variable {P:Program} {n:Nat} {l:List Oper} {S0 S:World→Prop} {W:Nat→Bool} {Q:bn→World→Prop} {fuel:Nat} {listed:Array Bool} {ρ:bn} {w:World}
variable {d ty:Nat} {op:Op} {pos:String} {af:Array Edge}
theorem WP.regionDraw (S0 S:World→Prop) (W:Nat→Bool) {Q:Exit→bn→World→Prop} {id:Nat} (hm:P.follows .mixedOrders=true) (hd:dk n l=true) (h:∀w',w'=w.drew→bo P l.toArray S0 S W (Q .normal) l.length (Array.replicate l.length false) ρ w'):WP P n (.region id l.toArray true) Q ρ w:=fun a ha=>
 wp_region_any hm (by have:=bo.any (S0:=S0) (S:=S) (W:=W) hd _ _ _ _ a ha (h _ rfl);simpa using this)
theorem bo.take {i:Nat} {v:Value} (hi:l[i]?=some (Oper.mk (some d) op ty pos af none)) (hs:Region.noSelect l.toArray=true) (hf:Region.free .any l.toArray listed i=true)
  (hr:(Region.ready .any l.toArray listed).contains i=true) (hW:dD l i W=true) (hWi:W i=false) (hcl:cZ W listed=true) (hS0:S0 w) (hS:S w) (hy:∀w,S w→(execOp (ev ρ) (Oper.mk (some d) op ty pos af none)).run P w=.ok (.value v) w)
  (h:bo P l.toArray S0 S W Q fuel (listed.setIfInBounds i true) (upd ρ d v) w):bo P l.toArray S0 S W Q (fuel+1) listed ρ w:=
 bo.first (oi:=Oper.mk (some d) op ty pos af none) (by simpa using hi) (Region.noSelect_spec hs) (Sx:=S) (C:=fun listed=>¬cE W listed) hWi (eH hW) (fun _ _ h1 _ h2=>h2.resolve_left h1) fuel listed ρ w (Region.free_spec (by simpa using hi) hf) (by simpa using hr) (.inl ⟨rfl,hy⟩) (eG hcl) hS0 (.inr hS) h
theorem bo.takeK {i:Nat} {v:Value} (hi:l[i]?=some (Oper.mk (some d) op ty pos af none)) (hs:Region.noSelect l.toArray=true) (hf:Region.free .any l.toArray listed i=true)
  (hr:(Region.ready .any l.toArray listed).contains i=true) (hWi:W i=false) (hS0:S0 w) (hS:cE W listed∨S w) (hy:∀w,S0 w→(execOp (ev ρ) (Oper.mk (some d) op ty pos af none)).run P w=.ok (.value v) w)
  (h:bo P l.toArray S0 S W Q fuel (listed.setIfInBounds i true) (upd ρ d v) w):bo P l.toArray S0 S W Q (fuel+1) listed ρ w:=
 bo.first (oi:=Oper.mk (some d) op ty pos af none) (by simpa using hi) (Region.noSelect_spec hs) (Sx:=S0) (C:=fun _=>True) hWi (fun _ _ _ _ _ _ _=>trivial) (fun _ _ _ h _=>h) fuel listed ρ w (Region.free_spec (by simpa using hi) hf) (by simpa using hr) (.inl ⟨rfl,hy⟩) trivial hS0 hS h
theorem bo.takeT {i j s:Nat} {b t:Bool} {v:Value} (hi:l[i]?=some (Oper.mk (some d) op ty pos af (some (j,b)))) (hg:(l[j]?).bind (fun o:Oper=>o.dst)=some s) (hv:ρ s=.bool t) (ht:t=b) (hs:Region.noSelect l.toArray=true) (hf:Region.free .any l.toArray listed i=true)
  (hr:(Region.ready .any l.toArray listed).contains i=true) (hW:dD l i W=true) (hWi:W i=false) (hcl:cZ W listed=true) (hS0:S0 w) (hS:S w) (hy:∀w,S w→(execOp (ev ρ) (Oper.mk (some d) op ty pos af none)).run P w=.ok (.value v) w)
  (h:bo P l.toArray S0 S W Q fuel (listed.setIfInBounds i true) (upd ρ d v) w):bo P l.toArray S0 S W Q (fuel+1) listed ρ w:=
 bo.first (oi:=Oper.mk (some d) op ty pos af (some (j,b))) (by simpa using hi) (Region.noSelect_spec hs) (Sx:=S) (C:=fun listed=>¬cE W listed) hWi (eH hW) (fun _ _ h1 _ h2=>h2.resolve_left h1) fuel listed ρ w (Region.free_spec (by simpa using hi) hf) (by simpa using hr)
  (.inl ⟨by simp only[br,List.getElem?_toArray,hg,hv,ht];simp,hy⟩) (eG hcl) hS0 (.inr hS) h
theorem bo.takeF {i j s:Nat} {b t:Bool} (hi:l[i]?=some (Oper.mk (some d) op ty pos af (some (j,b)))) (hg:(l[j]?).bind (fun o:Oper=>o.dst)=some s) (hv:ρ s=.bool t) (ht:t=!b) (hs:Region.noSelect l.toArray=true) (hf:Region.free .any l.toArray listed i=true)
  (hr:(Region.ready .any l.toArray listed).contains i=true) (hW:dD l i W=true) (hWi:W i=false) (hcl:cZ W listed=true) (hS0:S0 w) (hS:S w)
  (h:bo P l.toArray S0 S W Q fuel (listed.setIfInBounds i true) (upd ρ d undef) w):bo P l.toArray S0 S W Q (fuel+1) listed ρ w:=
 bo.first (oi:=Oper.mk (some d) op ty pos af (some (j,b))) (by simpa using hi) (Region.noSelect_spec hs) (Sx:=S) (C:=fun listed=>¬cE W listed) hWi (eH hW) (fun _ _ h1 _ h2=>h2.resolve_left h1) fuel listed ρ w (Region.free_spec (by simpa using hi) hf) (by simpa using hr)
  (.inr ⟨by simp only[br,List.getElem?_toArray,hg,hv,ht];cases b<;>simp,rfl⟩) (eG hcl) hS0 (.inr hS) h
theorem bo.one {i:Nat} {o:Oper} (hi:l[i]?=some o) (hr:Region.ready .any l.toArray listed=[i])
  (h:bq P l.toArray (fun ρ' w'=>(S0 w'∧(cE W (listed.setIfInBounds i true)∨S w'))∧bo P l.toArray S0 S W Q fuel (listed.setIfInBounds i true) ρ' w') [o] ρ w):bo P l.toArray S0 S W Q (fuel+1) listed ρ w:=by
 refine ⟨fun h0=>(by rw[hr] at h0;cases h0),fun j hj o' ho'=>?_⟩
 rw[hr,List.mem_singleton] at hj
 subst hj
 have:o'=o:=by
  rw[List.getElem?_toArray,hi] at ho'
  exact (Option.some.inj ho').symm
 subst this
 exact h
theorem bo.done (hr:Region.ready .any l.toArray listed=[]) (h:Q ρ w):bo P l.toArray S0 S W Q fuel listed ρ w:=by
 cases fuel with
 |zero=>exact ⟨hr,h⟩
 |succ fuel=>exact ⟨fun _=>h,by rw[hr];intro i hi;cases hi⟩
end
end
section
section
variable {P:Program} {ops:Array Oper} {K:bn→World→Prop} {ρ:bn} {w:World} {rest:List Oper}
variable {d ty:Nat} {pos:String} {af:Array Edge} {x y:Operand} {t e:TypeId} {I:aF} {O:zP} {E:World}
theorem Fn.ofCalls {f:FuncId} {fn:Func} {c:Code} {args:Array Value} {R:Value→World→Prop} (hf:P.funcs[f]?=some fn) (hb:fn.body=some c) (hn:fn.name≠"runtime.NumGoroutine")
  (h:Calls P f args w fun e w'=>∃v,e=.returned v∧R v w'):Fn P f args w R:=⟨⟨fn,c,hf,hb,hn⟩,h⟩
theorem SL.below {w':World} (h:SL I O E w) (hb:Go.RowKit.Below w.heap.size w w'):SL I O E w':=
 ⟨hb.os.trans h.os,hb.output.trans h.output,hb.tape.trans h.tape,fun b o hI=>by rw[hb.block b (cK (h.pers b o hI))];exact h.pers b o hI,
  fun x hx=>by rw[hb.block x.1 (cK (h.own x hx))];exact h.own x hx,h.nodup,h.apart,h.base,h.flat,h.oflat⟩
theorem bq.rangeT {s:ByteArray} (ht:P.underlying t=some .string) (hS:SL I O E w) (hx:ev ρ x=.string s)
  (h:∀b w',SL I ((b,.stringIter s 0)::O) E w'→bq P ops K rest (upd ρ d (.pointer (some ⟨b,0,none⟩))) w'):bq P ops K (Oper.mk (some d) (.range t x) ty pos af none::rest) ρ w:=by
 refine bq.step rfl ?_
 unfold cQ
 have:(execOp (ev ρ) (Oper.mk (some d) (.range t x) ty pos af none)).run P w=.ok (.value (.pointer (some ⟨w.heap.size,0,none⟩))) (w.alloc (.stringIter s 0)):=by
  simp[execOp,Instr.range,hx,run_underlying ht]
 rw[this]
 exact h _ _ (hS.alloc _)
theorem cS {s:ByteArray} {p b:Nat} (hb:w.heap[b]?=some (.stringIter s p)):(getObj b).run P w=.ok (.stringIter s p) w:=by
 unfold getObj;rw[Sem.run,hb];rfl
theorem eI {s:ByteArray} {p b:Nat} (hb:w.heap[b]?=some (.stringIter s p)) (o:Obj):(setObj b o).run P w=.ok () { w with heap:=w.heap.setIfInBounds b o }:=by
 unfold setObj;rw[Sem.run,hb];rfl
theorem bq.nextT {s:ByteArray} {p b:Nat} (hS:SL I ((b,.stringIter s p)::O) E w) (hx:ev ρ x=.pointer (some ⟨b,0,none⟩)) (hp:p<s.size)
  (h:∀w',SL I ((b,.stringIter s (p+(Utf8.decode s p).2))::O) E w'→bq P ops K rest (upd ρ d (.tuple [.bool true,.int .i64 p,.int .i32 (Utf8.decode s p).1].toArray)) w'):bq P ops K (Oper.mk (some d) (.next x true) ty pos af none::rest) ρ w:=by
 have hb:=hS.own _ (.head _)
 simp only at hb
 refine bq.step rfl ?_
 unfold cQ
 have:(execOp (ev ρ) (Oper.mk (some d) (.next x true) ty pos af none)).run P w=.ok (.value (.tuple [.bool true,.int .i64 p,.int .i32 (Utf8.decode s p).1].toArray)) { w with heap:=w.heap.setIfInBounds b (.stringIter s (p+(Utf8.decode s p).2)) }:=by
  simp[execOp,Instr.next,hx,cS hb,eI hb,Result.andThen,hp,goInt]
 rw[this]
 refine h _ (hS.turn rfl rfl rfl ?_ ?_)
 ·simp[cK hb]
 ·intro k hk;simp[Array.getElem?_setIfInBounds,Ne.symm hk]
theorem bq.nextTover {s:ByteArray} {p b:Nat} (hS:SL I ((b,.stringIter s p)::O) E w) (hx:ev ρ x=.pointer (some ⟨b,0,none⟩)) (hp:¬p<s.size)
  (h:bq P ops K rest (upd ρ d (.tuple [.bool false].toArray)) w):bq P ops K (Oper.mk (some d) (.next x true) ty pos af none::rest) ρ w:=by
 have hb:=hS.own _ (.head _)
 simp only at hb
 refine bq.step rfl ?_
 unfold cQ
 have:(execOp (ev ρ) (Oper.mk (some d) (.next x true) ty pos af none)).run P w=.ok (.value (.tuple [.bool false].toArray)) w:=by
  simp[execOp,Instr.next,hx,cS hb,Result.andThen,hp]
 rw[this]
 exact h
section
variable {n:Nat} {R:Value→World→Prop}
end
theorem fB {s:ByteArray} {p:Nat} {b:UInt8} (h:s.data[p]?=some b) (hb:b<128):Utf8.decode s p=(b.toNat,1):=by
 unfold Utf8.decode
 have h1:s.get! p=b:=by
  show s.data[p]! = b
  rw[getElem!_def,h]
 have h2:b.toNat<128:=hb
 simp[h1,h2]
theorem bq.guardU {dd:Option Nat} {op:Op} {j s:Nat} {b:Bool} (hs:(ops[j]?).bind (fun o:Oper=>o.dst)=some s) (hv:ρ s=undef)
  (k:bq P ops K rest (updO ρ dd undef) w):bq P ops K (Oper.mk dd op ty pos af (some (j,b))::rest) ρ w:=by
 unfold bq
 rw[if_neg (by simp only[br,hs,hv];simp[undef])]
 exact k
end
end
section
inductive AV where
 |any
 |bool (b:Bool)
 |int (k:IntKind) (n:Int)
 |str (s:ByteArray)
 |agg (cs:List AV)
 |tup (vs:List AV)
 |fro (k:Nat) (rows:List (List AV))
 |own (id n:Nat)
 |po (id off:Nat)
 |os (id off n:Nat)
 |pf (cs:List AV)
 |raw (v:Value)
 |fn (f:FuncId) (first captured:List AV)
 |ifc (t:TypeId) (v:AV)
 |ext (p:aF→Value→Prop)
 deriving Inhabited
structure G where
 k:aF
 h:Nat→Option (Option Nat × Nat)
structure G.le (I J:G):Prop where
 k:I.k.le J.k
 h:∀i x,I.h i=some x→J.h i=some x
theorem G.le.refl (I:G):I.le I:=⟨aF.le.refl _,fun _ _ h=>h⟩
theorem G.le.trans {I J K:G} (h:I.le J) (k:J.le K):I.le K:=⟨h.k.trans k.k,fun i x hi=>k.h i x (h.h i x hi)⟩
def qY (I:aF) (b i:Nat) (v:Value):Prop:=∃c T f,I b=some (.cells c T f)∧c[i]?=some v
theorem qY.mono {I J:aF} (h:I.le J) {b i:Nat} {v:Value} (hk:qY I b i v):qY J b i v:=let ⟨c,T,f,h1,h2⟩:=hk;⟨c,T,f,h _ _ h1,h2⟩
theorem qY.at_ {I:aF} {b i:Nat} {v:Value} (h:qY I b i v) (O:List (Nat × Obj)):At I O b i v:=.inl h
def lG (b:Option Nat):Option Addr:=b.map fun b=>⟨b,0,none⟩
mutual
def bu (I:G):AV→Value→Prop
 |.any,_=>True
 |.bool b,v=>v=.bool b
 |.int k n,v=>v=.int k n
 |.str s,v=>v=.string s
 |.agg cs,v=>∃vs:List Value,v=.agg vs.toArray∧RepL I cs vs
 |.tup cs,v=>∃vs:List Value,v=.tuple vs.toArray∧RepL I cs vs
 |.fro k rows,v=>∃a n c,v=.slice a n c∧n=rows.length∧n≤c∧(a=none→c=0)∧RepR I k a 0 rows
 |.own id n,v=>∃b c,I.h id=some (b,c)∧v=.slice (lG b) n c
 |.po id off,v=>∃b c,I.h id=some (some b,c)∧v=.pointer (some ⟨b,off,none⟩)
 |.os id off n,v=>∃b c,I.h id=some (some b,c)∧v=.slice (some ⟨b,off,none⟩) n n
 |.pf cs,v=>∃b off vs,v=.pointer (some ⟨b,off,none⟩)∧RepL I cs vs∧∀(j:Nat) u,vs[j]?=some u→qY I.k b (off+j) u
 |.raw w,v=>v=w
 |.fn f a c,v=>∃vs us:List Value,v=.func (.func f) vs.toArray us.toArray∧RepL I a vs∧RepL I c us
 |.ifc t x,v=>∃u,v=.iface t u∧bu I x u
 |.ext p,v=>v.oneCell'=true∧∀J:aF,I.k.le J→p J v
def RepL (I:G):List AV→List Value→Prop
 |[],vs=>vs=[]
 |x::xs,vs=>∃v us,vs=v::us∧bu I x v∧RepL I xs us
def RepR (I:G) (k:Nat) (a:Option Addr) (j:Nat):List (List AV)→Prop
 |[]=>True
 |r::rs=>(∃b off vs,a=some ⟨b,off,none⟩∧vs.length=k∧RepL I r vs∧∀(i:Nat) u,vs[i]?=some u→qY I.k b (off+j*k+i) u)∧RepR I k a (j+1) rs
end
mutual
theorem bu.mono {I J:G} (h:I.le J):∀(x:AV) (v:Value),bu I x v→bu J x v
 |.any,_,_=>trivial
 |.bool _,_,e=>e
 |.int _ _,_,e=>e
 |.str _,_,e=>e
 |.agg cs,_,⟨vs,e,h1⟩=>⟨vs,e,RepL.mono h cs vs h1⟩
 |.tup cs,_,⟨vs,e,h1⟩=>⟨vs,e,RepL.mono h cs vs h1⟩
 |.fro k rows,_,⟨a,n,c,e,h1,h2,h3,h4⟩=>⟨a,n,c,e,h1,h2,h3,RepR.mono h k a 0 rows h4⟩
 |.own id _,_,⟨b,c,h1,e⟩=>⟨b,c,h.h _ _ h1,e⟩
 |.po id _,_,⟨b,c,h1,e⟩=>⟨b,c,h.h _ _ h1,e⟩
 |.os id _ _,_,⟨b,c,h1,e⟩=>⟨b,c,h.h _ _ h1,e⟩
 |.pf cs,_,⟨b,off,vs,e,h1,h2⟩=>⟨b,off,vs,e,RepL.mono h cs vs h1,fun j u hj=>(h2 j u hj).mono h.k⟩
 |.raw _,_,e=>e
 |.fn _ a c,_,⟨vs,us,e,h1,h2⟩=>⟨vs,us,e,RepL.mono h a vs h1,RepL.mono h c us h2⟩
 |.ifc _ x,_,⟨u,e,h1⟩=>⟨u,e,bu.mono h x u h1⟩
 |.ext _,_,⟨h1,h2⟩=>⟨h1,fun J hJ=>h2 J (h.k.trans hJ)⟩
theorem RepL.mono {I J:G} (h:I.le J):∀(x:List AV) (v:List Value),RepL I x v→RepL J x v
 |[],_,e=>e
 |x::xs,_,⟨v,us,e,h1,h2⟩=>⟨v,us,e,bu.mono h x v h1,RepL.mono h xs us h2⟩
theorem RepR.mono {I J:G} (h:I.le J) (k:Nat) (a:Option Addr) (j:Nat):∀(rows:List (List AV)),RepR I k a j rows→RepR J k a j rows
 |[],_=>trivial
 |r::rs,⟨⟨b,off,vs,e,h1,h2,h3⟩,h4⟩=>⟨⟨b,off,vs,e,h1,RepL.mono h r vs h2,fun i u hi=>(h3 i u hi).mono h.k⟩,RepR.mono h k a (j+1) rs h4⟩
end
theorem RepL.length {I:G}:∀{xs:List AV} {vs:List Value},RepL I xs vs→vs.length=xs.length
 |[],_,e=>by simp[RepL] at e;simp[e]
 |x::xs,_,⟨v,us,e,_,h2⟩=>by subst e;simp[RepL.length h2]
theorem RepL.get {I:G}:∀{xs:List AV} {vs:List Value},RepL I xs vs→∀{j:Nat} {x:AV},xs[j]?=some x→∃v,vs[j]?=some v∧bu I x v
 |[],_,_,j,x,hj=>by simp at hj
 |y::ys,_,⟨v,us,e,h1,h2⟩,j,x,hj=>by
  subst e
  cases j with
  |zero=>simp at hj;subst hj;exact ⟨v,rfl,h1⟩
  |succ j=>simp at hj;simpa using RepL.get h2 hj
theorem RepL.take {I:G}:∀{xs:List AV} {vs:List Value},RepL I xs vs→∀n,RepL I (xs.take n) (vs.take n)
 |[],_,e,n=>by simp[RepL] at e;simp[e,RepL]
 |y::ys,_,⟨v,us,e,h1,h2⟩,n=>by
  subst e
  cases n with
  |zero=>simp[RepL]
  |succ n=>exact ⟨v,us.take n,by simp,h1,RepL.take h2 n⟩
theorem RepL.drop {I:G}:∀{xs:List AV} {vs:List Value},RepL I xs vs→∀n,RepL I (xs.drop n) (vs.drop n)
 |[],_,e,n=>by simp[RepL] at e;simp[e,RepL]
 |y::ys,_,⟨v,us,e,h1,h2⟩,n=>by
  subst e
  cases n with
  |zero=>exact ⟨v,us,rfl,h1,h2⟩
  |succ n=>simpa using RepL.drop h2 n
theorem RepL.append {I:G}:∀{xs ys:List AV} {vs us:List Value},RepL I xs vs→RepL I ys us→RepL I (xs++ys) (vs++us)
 |[],_,_,_,e,h=>by simp[RepL] at e;simpa [e] using h
 |y::ys,_,_,_,⟨v,us,e,h1,h2⟩,h=>by subst e;exact ⟨v,_,rfl,h1,RepL.append h2 h⟩
theorem RepR.get {I:G} {k:Nat} {a:Option Addr}:∀{rows:List (List AV)} {j0:Nat},RepR I k a j0 rows→∀{j:Nat} {r:List AV},rows[j]?=some r →
  ∃b off vs,a=some ⟨b,off,none⟩∧vs.length=k∧RepL I r vs∧∀(i:Nat) u,vs[i]?=some u→qY I.k b (off+(j0+j)*k+i) u
 |[],_,_,j,r,hj=>by simp at hj
 |r::rs,j0,⟨h1,h2⟩,j,r',hj=>by
  cases j with
  |zero=>simp at hj;subst hj;simpa using h1
  |succ j=>
   simp at hj
   have:=RepR.get h2 hj
   have e:j0+1+j=j0+(j+1):=by omega
   rwa [e] at this
theorem RepR.intro {I:G} {k:Nat} {a:Option Addr}:∀{rows:List (List AV)} {j0:Nat},(∀(j:Nat) (r:List AV),rows[j]?=some r →
  ∃b off vs,a=some ⟨b,off,none⟩∧vs.length=k∧RepL I r vs∧∀(i:Nat) u,vs[i]?=some u→qY I.k b (off+(j0+j)*k+i) u)→RepR I k a j0 rows
 |[],_,_=>trivial
 |r::rs,j0,h=>⟨by simpa using h 0 r rfl,RepR.intro fun j r' hj=>by
   have:=h (j+1) r' (by simpa using hj)
   have e:j0+1+j=j0+(j+1):=by omega
   rwa [e]⟩
theorem RepL.one {I:G} {x:AV} {v:Value} (h:bu I x v):RepL I [x] [v]:=⟨v,[],rfl,h,rfl⟩
def AV.cell:AV→Bool
 |.any | .agg _ | .tup _=>false
 |.raw v=>v.oneCell'
 |_=>true
theorem AV.cell_rep {I:G} {x:AV} {v:Value} (h:bu I x v) (hc:x.cell=true):v.oneCell'=true:=by
 cases x<;>simp only[bu,AV.cell] at h hc
 all_goals first
  |(cases hc;done)
  |exact h.1
  |(subst h;first|rfl|exact hc)
  |(obtain ⟨_,_,_,e,_⟩:=h;subst e;rfl)
  |(obtain ⟨_,_,e,_⟩:=h;subst e;rfl)
  |(obtain ⟨_,_,_,e⟩:=h;subst e;rfl)
  |(obtain ⟨_,e,_⟩:=h;subst e;rfl)
abbrev aE:=Nat→AV
def cD (I:G) (e:aE) (ρ:bn):Prop:=∀t,bu I (e t) (ρ t)
def bp (e:aE) (d:Nat) (v:AV):aE:=fun t=>bif Nat.beq t d then v else e t
def r6 (e:aE) (d:Option Nat) (v:AV):aE:=match d with|some d=>bp e d v|none=>e
def aT (e:aE):Operand→AV
 |.tmp t=>e t
 |.const (.bool b)=>.bool b
 |.const (.int k n)=>.int k n
 |.const (.string s)=>.str s
 |.const v=>.raw v
 |.global g=>.raw (.pointer (some ⟨g,0,none⟩))
 |.func f=>.fn f [] []
theorem cD.upd {I:G} {e:aE} {ρ:bn} (h:cD I e ρ) (d:Nat) {x:AV} {v:Value} (hx:bu I x v):cD I (bp e d x) (upd ρ d v):=fun t=>by
 unfold bp Go.Proofs.YtbconpmnckokoaaGreatDoor.upd
 cases Nat.beq t d
 ·exact h t
 ·exact hx
theorem cD.updO {I:G} {e:aE} {ρ:bn} (h:cD I e ρ) (d:Option Nat) {x:AV} {v:Value} (hx:bu I x v):cD I (r6 e d x) (updO ρ d v):=by
 cases d with
 |none=>exact h
 |some d=>exact h.upd d hx
theorem cD.ev {I:G} {e:aE} {ρ:bn} (h:cD I e ρ):∀x,bu I (aT e x) (ev ρ x)
 |.tmp t=>h t
 |.const v=>by cases v<;>exact rfl
 |.global _=>rfl
 |.func _=>⟨[],[],rfl,rfl,rfl⟩
theorem cD.mono {I J:G} {e:aE} {ρ:bn} (hl:I.le J) (h:cD I e ρ):cD J e ρ:=fun t=>bu.mono hl _ _ (h t)
theorem cD.evs {I:G} {e:aE} {ρ:bn} (h:cD I e ρ):∀l:List Operand,RepL I (l.map (aT e)) (l.map (Go.Proofs.YtbconpmnckokoaaGreatDoor.ev ρ))
 |[]=>rfl
 |x::l=>⟨_,_,rfl,h.ev x,h.evs l⟩
inductive bi where
 |cells (T:TypeId) (cs:List AV)
 |grow (k:Nat) (T:TypeId) (cs:List AV)
 |iter (s:ByteArray) (p:Nat)
 |heap (p:List (Nat × Obj)→Prop)
 |heapG (p:G→List (Nat × Obj)→Prop) (hp:∀I J L,G.le I J→p I L→p J L)
 deriving Inhabited
abbrev OL:=List (Nat × bi)
def ic (I:G) (x:Nat × bi) (L:List (Nat × Obj)):Prop:=
 match x.2 with
 |.cells T cs=>∃b c vs,I.h x.1=some (some b,c)∧RepL I cs vs∧(∀u∈vs,u.oneCell'=true)∧L=[(b,.cells vs.toArray T (0,0))]
 |.grow k T cs=>∃b c n vs,I.h x.1=some (b,c)∧RepL I cs vs∧(∀u∈vs,u.oneCell'=true)∧fj k T (lG b) n c vs L
 |.iter s p=>∃b c,I.h x.1=some (some b,c)∧L=[(b,.stringIter s p)]
 |.heap p=>p L
 |.heapG p _=>p I L
def bk (I:G):OL→List (Nat × Obj)→Prop
 |[],L=>L=[]
 |x::xs,L=>∃A B,L=A++B∧ic I x A∧bk I xs B
theorem ic.mono {I J:G} (h:I.le J) {x:Nat × bi} {L:List (Nat × Obj)} (hx:ic I x L):ic J x L:=by
 obtain ⟨i,o⟩:=x
 cases o<;>simp only[ic] at *
 ·obtain ⟨b,c,vs,h1,h2,h3⟩:=hx;exact ⟨b,c,vs,h.h _ _ h1,RepL.mono h _ _ h2,h3⟩
 ·obtain ⟨b,c,n,vs,h1,h2,h3⟩:=hx;exact ⟨b,c,n,vs,h.h _ _ h1,RepL.mono h _ _ h2,h3⟩
 ·obtain ⟨b,c,h1,h2⟩:=hx;exact ⟨b,c,h.h _ _ h1,h2⟩
 ·exact hx
 ·rename_i p hp;exact hp _ _ _ h hx
theorem bk.mono {I J:G} (h:I.le J):∀{O:OL} {L:List (Nat × Obj)},bk I O L→bk J O L
 |[],_,e=>e
 |_::_,_,⟨A,B,e,h1,h2⟩=>⟨A,B,e,h1.mono h,bk.mono h h2⟩
theorem bk.append {I:G}:∀{O O':OL} {L:List (Nat × Obj)},bk I (O++O') L↔∃A B,L=A++B∧bk I O A∧bk I O' B
 |[],O',L=>⟨fun h=>⟨[],L,rfl,rfl,h⟩,fun ⟨A,B,e,h1,h2⟩=>by
   have h1:A=[]:=h1
   subst h1;subst e;exact h2⟩
 |x::O,O',L=>by
  constructor
  ·rintro ⟨A,B,e,h1,h2⟩
   obtain ⟨C,D,e2,h3,h4⟩:=bk.append.1 h2
   exact ⟨A++C,D,by simp[e,e2],⟨A,C,rfl,h1,h3⟩,h4⟩
  ·rintro ⟨A,B,e,⟨C,D,e2,h1,h2⟩,h3⟩
   exact ⟨C,D++B,by simp[e,e2],h1,bk.append.2 ⟨D,B,rfl,h2,h3⟩⟩
def dV (I:G) (O:OL) (F:List (Nat × Obj)) (E w:World):Prop:=
 (∃top,∀i,top≤i→I.h i=none)∧∃L,bk I O L∧SL I.k (L++F) E w
inductive cF:OL→Nat→bi→OL→Prop
 |head {i o O}:cF ((i,o)::O) i o O
 |tail {x O i o O'}:cF O i o O'→cF (x::O) i o (x::O')
inductive ed:OL→Nat→bi→bi→OL→Prop
 |head {i o o' O}:ed ((i,o)::O) i o o' ((i,o')::O)
 |tail {x O i o o' O'}:ed O i o o' O'→ed (x::O) i o o' (x::O')
theorem cF.rep {I:G} {O O':OL} {i:Nat} {o:bi} (h:cF O i o O'):∀{L},bk I O L→∃A B,L.Perm (A++B)∧ic I (i,o) A∧bk I O' B:=by
 induction h with
 |head=>rintro L ⟨A,B,e,h1,h2⟩;exact ⟨A,B,e▸.refl _,h1,h2⟩
 |tail h ih=>
  rintro L ⟨A,B,e,h1,h2⟩
  obtain ⟨C,D,hp,h3,h4⟩:=ih h2
  refine ⟨C,A++D,?_,h3,⟨A,D,rfl,h1,h4⟩⟩
  subst e
  refine (hp.append_left A).trans ?_
  rw[←List.append_assoc,←List.append_assoc]
  exact List.perm_append_comm.append_right D
theorem ed.rep {I:G} {O O':OL} {i:Nat} {o o':bi} (h:ed O i o o' O'):∀{L},bk I O L→∃A B,L.Perm (A++B)∧ic I (i,o) A ∧
  ∀{J:G} {A'},I.le J→ic J (i,o') A'→∃L',bk J O' L'∧L'.Perm (A'++B):=by
 induction h with
 |head=>rintro L ⟨A,B,e,h1,h2⟩;exact ⟨A,B,e▸.refl _,h1,fun {J A'} hl h=>⟨A'++B,⟨A',B,rfl,h,h2.mono hl⟩,.refl _⟩⟩
 |tail h ih=>
  rintro L ⟨A,B,e,h1,h2⟩
  obtain ⟨C,D,hp,h3,h4⟩:=ih h2
  refine ⟨C,A++D,?_,h3,fun {J A'} hl h=>?_⟩
  ·subst e
   refine (hp.append_left A).trans ?_
   rw[←List.append_assoc,←List.append_assoc]
   exact List.perm_append_comm.append_right D
  ·obtain ⟨L',h5,h6⟩:=h4 hl h
   refine ⟨A++L',⟨A,L',rfl,h1.mono hl,h5⟩,?_⟩
   refine (h6.append_left A).trans ?_
   rw[←List.append_assoc,←List.append_assoc]
   exact List.perm_append_comm.append_right D
inductive wu:OL→OL→Prop
 |refl (O):wu O O
 |keep {x O O'}:wu O O'→wu (x::O) (x::O')
 |drop {x O O'}:wu O O'→wu (x::O) O'
theorem bk.sub {I:G} {O O':OL} (h:wu O O'):∀{L},bk I O L→∃L',bk I O' L'∧L'.Sublist L:=by
 induction h with
 |refl=>intro L h;exact ⟨L,h,.refl _⟩
 |keep _ ih=>rintro L ⟨A,B,e,h1,h2⟩;obtain ⟨B',h3,h4⟩:=ih h2;exact ⟨A++B',⟨A,B',rfl,h1,h3⟩,e▸h4.append_left A⟩
 |drop _ ih=>rintro L ⟨A,B,e,h1,h2⟩;obtain ⟨B',h3,h4⟩:=ih h2;exact ⟨B',h3,e▸h4.trans (List.sublist_append_right A B)⟩
theorem dV.sub {I:G} {O O':OL} {F:List (Nat × Obj)} {E w:World} (h:wu O O') (hs:dV I O F E w):dV I O' F E w:=by
 obtain ⟨ht,L,hL,hS⟩:=hs
 obtain ⟨L',h1,h2⟩:=hL.sub h
 exact ⟨ht,L',h1,hS.sub (h2.append_right F)⟩
def Left (O O':OL):Prop:=∃O'',wu O O''∧O''=O'
theorem Left.sla {I:G} {O O':OL} {F:List (Nat × Obj)} {E w:World} (h:Left O O') (hs:dV I O F E w):dV I O' F E w:=by
 obtain ⟨_,h1,rfl⟩:=h;exact hs.sub h1
end
section
def fC (I:G) (F:List (Nat × Obj)) (E:World) (Q:Exit→aE→OL→Prop):Exit→bn→World→Prop:=fun e ρ w=>∃J env O,I.le J∧cD J env ρ∧dV J O F E w∧Q e env O
def cG (I:G) (F:List (Nat × Obj)) (E:World) (K:aE→OL→Prop):bn→World→Prop:=fun ρ w=>∃J env O,I.le J∧cD J env ρ∧dV J O F E w∧K env O
theorem fC.up {I J:G} {F:List (Nat × Obj)} {E:World} {Q:Exit→aE→OL→Prop} (h:I.le J) {e:Exit} {ρ:bn} {w:World}:fC J F E Q e ρ w→fC I F E Q e ρ w:=
 fun ⟨K,env,O,h1,h2⟩=>⟨K,env,O,h.trans h1,h2⟩
theorem cG.up {I J:G} {F:List (Nat × Obj)} {E:World} {Q:aE→OL→Prop} (h:I.le J) {ρ:bn} {w:World}:cG J F E Q ρ w→cG I F E Q ρ w:=
 fun ⟨K,env,O,h1,h2⟩=>⟨K,env,O,h.trans h1,h2⟩
def bQ (P:Program) (E:World) (n:Nat) (c:Code) (Q:Exit→aE→OL→Prop) (env:aE) (O:OL):Prop:=
 ∀I F ρ w,cD I env ρ→dV I O F E w→WP P n c (fC I F E Q) ρ w
def ig (K:aE→OL→Prop) (Q:Exit→aE→OL→Prop):Exit→aE→OL→Prop:=fun e env O=>
 match e with
 |.normal=>K env O
 |e=>Q e env O
def kL (id:Nat) (Q:Exit→aE→OL→Prop):Exit→aE→OL→Prop:=fun e env O=>
 match e with
 |.exit i=>if i=id then Q .normal env O else Q (.exit i) env O
 |e=>Q e env O
section
variable {E:World} {P:Program} {n:Nat} {Q:Exit→aE→OL→Prop} {env:aE} {O:OL}
theorem aS {K:aE→OL→Prop} (h:Q .ret env O):ig K Q .ret env O:=h
theorem aM {id:Nat} (h:Q .ret env O):kL id Q .ret env O:=h
theorem bQ.mono {c:Code} {Q':Exit→aE→OL→Prop} (h:bQ P E n c Q env O) (hq:∀e env O,Q e env O→Q' e env O):bQ P E n c Q' env O:=
 fun I F ρ w h1 h2=>(h I F ρ w h1 h2).mono fun _ _ _ ⟨J,env,O,a,b,c,d⟩=>⟨J,env,O,a,b,c,hq _ _ _ d⟩
theorem bQ.skip (h:Q .normal env O):bQ P E n .skip Q env O:=fun I _ _ _ h1 h2=>WP.skip ⟨I,env,O,.refl _,h1,h2,h⟩
theorem bQ.ret (h:Q .ret env O):bQ P E n .ret Q env O:=fun I _ _ _ h1 h2=>WP.ret ⟨I,env,O,.refl _,h1,h2,h⟩
theorem bQ.exit {id:Nat} (h:Q (.exit id) env O):bQ P E n (.exit id) Q env O:=fun I _ _ _ h1 h2=>WP.exit ⟨I,env,O,.refl _,h1,h2,h⟩
theorem bQ.seq {x y:Code} (h:bQ P E n x (ig (bQ P E n y Q) Q) env O):bQ P E n (.seq x y) Q env O:=fun I F ρ w h1 h2=>
 WP.seq ((h I F ρ w h1 h2).mono fun e ρ w ⟨J,env,O,a,b,c,d⟩=>by
  cases e<;>first|exact (d J F ρ w b c).mono (fun _ _ _=>fC.up a)|exact ⟨J,env,O,a,b,c,d⟩)
theorem bQ.block {id:Nat} {c:Code} (h:bQ P E n c (kL id Q) env O):bQ P E n (.block id c) Q env O:=fun I F ρ w h1 h2=>
 WP.block ((h I F ρ w h1 h2).mono fun e ρ w ⟨J,env,O,a,b,c,d⟩=>by
  cases e<;>try exact ⟨J,env,O,a,b,c,d⟩
  rename_i i
  simp only[kL] at d
  simp only[mw]
  split<;>rename_i hi
  ·rw[if_pos hi] at d;exact ⟨J,env,O,a,b,c,d⟩
  ·rw[if_neg hi] at d;exact ⟨J,env,O,a,b,c,d⟩)
theorem bQ.cond {c:Operand} {x y:Code} {t:Bool} (hc:aT env c=.bool t) (h:t=true→bQ P E n x Q env O) (h':t=false→bQ P E n y Q env O):bQ P E n (.cond c x y) Q env O:=fun I F ρ w h1 h2=>
 WP.condB (t:=t) (by have:=h1.ev c;rw[hc] at this;exact this) (fun e=>h e I F ρ w h1 h2) (fun e=>h' e I F ρ w h1 h2)
theorem bQ.condP {c:Operand} {x y:Code} {p:Prop} [Decidable p] (hc:aT env c=.bool (decide p)) (h:p→bQ P E n x Q env O) (h':¬p→bQ P E n y Q env O):bQ P E n (.cond c x y) Q env O:=
 bQ.cond hc (fun e=>h (of_decide_eq_true e)) (fun e=>h' (of_decide_eq_false e))
theorem bQ.condT {c:Operand} {x y:Code} {t:Bool} (hc:aT env c=.bool t) (ht:t=true) (h:bQ P E n x Q env O):bQ P E n (.cond c x y) Q env O:=bQ.cond hc (fun _=>h) (fun e=>by rw[ht] at e;cases e)
theorem bQ.condF {c:Operand} {x y:Code} {t:Bool} (hc:aT env c=.bool t) (ht:t=false) (h:bQ P E n y Q env O):bQ P E n (.cond c x y) Q env O:=bQ.cond hc (fun e=>by rw[ht] at e;cases e) (fun _=>h)
theorem bQ.weak {c:Code} {env':aE} (h:bQ P E n c Q env' O) (hw:∀t,env' t=.any∨env' t=env t):bQ P E n c Q env O:=fun I F ρ w h1 h2=>
 h I F ρ w (fun t=>by
  rcases hw t with e|e
  ·rw[e];trivial
  ·rw[e];exact h1 t) h2
def keep (env:aE) (l:List Nat):aE:=fun t=>bif l.any (Nat.beq t) then env t else .any
def put (env:aE):List (Nat × AV)→aE
 |[]=>env
 |(d,v)::l=>bp (put env l) d v
def km (env:aE):List (Nat × AV)→Prop
 |[]=>True
 |(d,v)::l=>env d=v∧km env l
def ef (env env':aE):List Nat→Prop
 |[]=>True
 |d::l=>env' d=env d∧ef env env' l
theorem lH {env env':aE} {f:List Nat} {l:List (Nat × AV)} (h1:ef env env' f) (h2:km env' l):∀t,put (Go.Proofs.YtbconpmnckokoaaGreatDoor.keep env f) l t=.any∨put (Go.Proofs.YtbconpmnckokoaaGreatDoor.keep env f) l t=env' t:=by
 intro t
 induction l with
 |nil=>
  simp only[put,Go.Proofs.YtbconpmnckokoaaGreatDoor.keep]
  cases hb:f.any (Nat.beq t) with
  |false=>simp
  |true=>
   right
   simp only[cond_true]
   clear h2
   induction f with
   |nil=>simp at hb
   |cons d f ih=>
    simp only[List.any_cons,Bool.or_eq_true] at hb
    rcases hb with hb|hb
    ·have:t=d:=Nat.eq_of_beq_eq_true hb
     subst this;exact h1.1.symm
    ·exact ih h1.2 hb
 |cons x l ih=>
  obtain ⟨d,v⟩:=x
  simp only[put,bp]
  cases hb:Nat.beq t d with
  |false=>simpa using ih h2.2
  |true=>
   have:t=d:=Nat.eq_of_beq_eq_true hb
   subst this;right;exact h2.1.symm
theorem bQ.cut {c:Code} (K:aE→OL→Prop) (h:bQ P E n c (ig K Q) env O) (hj:∀env O,K env O→Q .normal env O):bQ P E n c Q env O:=
 h.mono fun e ρ w hq=>by cases e<;>first|exact hj _ _ hq|exact hq
theorem bQ.loop0 {γ:Type} {c:Code} (Inv:γ→aE→OL→Prop) (μ:γ→Nat) (g₀:γ) (h₀:Inv g₀ env O)
  (round:∀g env O,Inv g env O→bQ P E n c (ig (fun env' O'=>∃g',Inv g' env' O'∧μ g'<μ g) Q) env O):bQ P E n (.loop c) Q env O:=fun I F ρ w h1 h2=>
 WP.loop (γ:=γ) (fun g ρ w=>∃J env O,I.le J∧cD J env ρ∧dV J O F E w∧Inv g env O) μ g₀ ⟨I,env,O,.refl _,h1,h2,h₀⟩
  (fun g ρ w ⟨J,env,O,hl,h3,h4,h5⟩=>(round g env O h5 J F ρ w h3 h4).mono fun e ρ' w' ⟨K,env',O',a,b,c,d⟩=>by
   cases e with
   |normal=>obtain ⟨g',d1,d2⟩:=d;exact ⟨g',⟨K,env',O',hl.trans a,b,c,d1⟩,d2⟩
   |exit _=>exact ⟨K,env',O',hl.trans a,b,c,d⟩
   |goto _=>exact ⟨K,env',O',hl.trans a,b,c,d⟩
   |ret=>exact ⟨K,env',O',hl.trans a,b,c,d⟩
   |panic _=>exact ⟨K,env',O',hl.trans a,b,c,d⟩
   |outgrown=>exact ⟨K,env',O',hl.trans a,b,c,d⟩)
theorem bQ.left {c:Code} {O':OL} (hl:Left O O') (h:bQ P E n c Q env O'):bQ P E n c Q env O:=fun I F ρ w h1 h2=>h I F ρ w h1 (hl.sla h2)
theorem ef.refl (env:aE):∀f,ef env env f
 |[]=>trivial
 |_::f=>⟨rfl,ef.refl env f⟩
theorem bQ.loop {γ:Type} {c:Code} (f:List Nat) (S:γ→List (Nat × AV)) (M:γ→OL) (p:γ→Prop) (μ:γ→Nat) (g₀:γ) (h₀:km env (S g₀)) (hO:Left O (M g₀)) (hp:p g₀)
  (round:∀g,p g→bQ P E n c (ig (fun env' O'=>∃g',ef env env' f∧km env' (S g')∧Left O' (M g')∧p g'∧μ g'<μ g) Q) (put (Go.Proofs.YtbconpmnckokoaaGreatDoor.keep env f) (S g)) (M g)):bQ P E n (.loop c) Q env O:=
 bQ.loop0 (fun g env' O'=>ef env env' f∧km env' (S g)∧Left O' (M g)∧p g) μ g₀ ⟨ef.refl env f,h₀,hO,hp⟩
  (fun g env' O' ⟨h1,h2,h3,h4⟩=>by
   refine (((round g h4).weak (lH h1 h2)).left h3).mono fun e env O hq=>?_
   cases e<;>try exact hq
   obtain ⟨g',a,b,c,d,e⟩:=hq
   exact ⟨g',⟨a,b,c,d⟩,e⟩)
theorem bQ.cutS {γ:Type} {c d:Code} {Q':Exit→aE→OL→Prop} (f:List Nat) (S:γ→List (Nat × AV)) (M:γ→OL) (p:γ→Prop) (h:bQ P E n c (ig (fun env' O'=>∃g,ef env env' f∧km env' (S g)∧Left O' (M g)∧p g) Q) env O)
  (hQ:∀env O,bQ P E n d Q' env O→Q .normal env O) (hj:∀g,p g→bQ P E n d Q' (put (Go.Proofs.YtbconpmnckokoaaGreatDoor.keep env f) (S g)) (M g)):bQ P E n c Q env O:=
 bQ.cut _ h fun env' O' ⟨g,h1,h2,h3,h4⟩=>hQ _ _ (((hj g h4).weak (lH h1 h2)).left h3)
end
def aq (P:Program) (E:World) (ops:Array Oper) (K:aE→OL→Prop) (l:List Oper) (env:aE) (O:OL):Prop:=
 ∀I F ρ w,cD I env ρ→dV I O F E w→bq P ops (cG I F E K) l ρ w
def Gv (P:Program) (env:aE) (O:OL) (o:Oper) (x:AV):Prop:=
 ∀(I:G) L E ρ,cD I env ρ→bk I O L→∃v,bu I x v∧∀w J L',I.k.le J→SL J L' E w→(∀y∈L,y∈L')→(execOp (ev ρ) o).run P w=.ok (.value v) w
section
variable {E:World} {P:Program} {n:Nat} {ops:Array Oper} {K:aE→OL→Prop} {env:aE} {O:OL} {rest:List Oper}
variable {d ty:Nat} {op:Op} {pos:String} {af:Array Edge}
theorem bQ.region {Q:Exit→aE→OL→Prop} {id:Nat} {l:List Oper} (hd:dk n l=true) (h:aq P E l.toArray (Q .normal) l env O):bQ P E n (.region id l.toArray false) Q env O:=fun I F ρ w h1 h2=>
 WP.region hd (h I F ρ w h1 h2)
theorem aq.nil (h:K env O):aq P E ops K [] env O:=fun I _ _ _ h1 h2=>bq.nil ⟨I,env,O,.refl _,h1,h2,h⟩
theorem aq.val {x:AV} (h:Gv P env O (Oper.mk (some d) op ty pos af none) x) (k:aq P E ops K rest (bp env d x) O):aq P E ops K (Oper.mk (some d) op ty pos af none::rest) env O:=fun I F ρ w h1 h2=>by
 obtain ⟨L,hL,hS⟩:=h2.2
 obtain ⟨v,hv,hr⟩:=h I L E ρ h1 hL
 exact bq.val (hr w I.k (L++F) (.refl _) hS fun _ h=>List.mem_append_left _ h) (k I F _ w (h1.upd d hv) h2)
theorem aq.guardT {dd:Option Nat} {j s:Nat} {b t:Bool} (hs:(ops[j]?).bind (fun o:Oper=>o.dst)=some s) (hv:env s=.bool t) (ht:t=b)
  (k:aq P E ops K (Oper.mk dd op ty pos af none::rest) env O):aq P E ops K (Oper.mk dd op ty pos af (some (j,b))::rest) env O:=fun I F ρ w h1 h2=>
 bq.guardT hs (by have:=h1 s;rw[hv] at this;exact this) ht (k I F ρ w h1 h2)
theorem aq.guardF {dd:Option Nat} {j s:Nat} {b t:Bool} (hs:(ops[j]?).bind (fun o:Oper=>o.dst)=some s) (hv:env s=.bool t) (ht:t=!b)
  (k:aq P E ops K rest (r6 env dd (.raw undef)) O):aq P E ops K (Oper.mk dd op ty pos af (some (j,b))::rest) env O:=fun I F ρ w h1 h2=>
 bq.guardF hs (by have:=h1 s;rw[hv] at this;exact this) ht (k I F _ w (h1.updO dd rfl) h2)
theorem aq.guardFd {j s:Nat} {b t:Bool} (hs:(ops[j]?).bind (fun o:Oper=>o.dst)=some s) (hv:env s=.bool t) (ht:t=!b)
  (k:aq P E ops K rest (bp env d (.raw undef)) O):aq P E ops K (Oper.mk (some d) op ty pos af (some (j,b))::rest) env O:=aq.guardF hs hv ht k
theorem aq.guardU {dd:Option Nat} {j s:Nat} {b:Bool} (hs:(ops[j]?).bind (fun o:Oper=>o.dst)=some s) (hv:env s=.raw undef)
  (k:aq P E ops K rest (r6 env dd (.raw undef)) O):aq P E ops K (Oper.mk dd op ty pos af (some (j,b))::rest) env O:=fun I F ρ w h1 h2=>
 bq.guardU hs (by have:=h1 s;rw[hv] at this;exact this) (k I F _ w (h1.updO dd rfl) h2)
theorem aq.guardUd {j s:Nat} {b:Bool} (hs:(ops[j]?).bind (fun o:Oper=>o.dst)=some s) (hv:env s=.raw undef)
  (k:aq P E ops K rest (bp env d (.raw undef)) O):aq P E ops K (Oper.mk (some d) op ty pos af (some (j,b))::rest) env O:=aq.guardU hs hv k
theorem aq.case {s:Nat} {t:Bool} {l:List Oper} (hv:env s=.bool t) (h1:t=true→aq P E ops K l env O) (h2:t=false→aq P E ops K l env O):aq P E ops K l env O:=by
 have _:=hv
 cases t
 ·exact h2 rfl
 ·exact h1 rfl
end
end
section
section
variable {E:World} {P:Program} {env:aE} {O:OL} {d ty:Nat} {pos:String} {af:Array Edge} {x y z:Operand} {t u e:TypeId}
theorem Gv.ofEv {op:Op} {v:AV} (h:∀(I:G) ρ,cD I env ρ→∃u,bu I v u∧∀w,(execOp (ev ρ) (Oper.mk (some d) op ty pos af none)).run P w=.ok (.value u) w):Gv P env O (Oper.mk (some d) op ty pos af none) v:=
 fun I _ _ ρ h1 _=>let ⟨u,h2,h3⟩:=h I ρ h1;⟨u,h2,fun w _ _ _ _ _=>h3 w⟩
theorem Gv.move {v:AV} (hx:aT env x=v):Gv P env O (Oper.mk (some d) (.move x) ty pos af none) v:=Gv.ofEv fun I ρ h=>⟨ev ρ x,hx▸h.ev x,fun _=>rfl⟩
theorem Gv.assign {v:AV} (hx:aT env x=v):Gv P env O (Oper.mk (some d) (.assign x) ty pos af none) v:=Gv.ofEv fun I ρ h=>⟨ev ρ x,hx▸h.ev x,fun _=>rfl⟩
theorem xI {I:G} {ρ:bn} {b:Bool} (h:cD I env ρ) (hx:aT env x=.bool b):ev ρ x=.bool b:=by have:=h.ev x;rw[hx] at this;exact this
theorem fU {I:G} {ρ:bn} {k:IntKind} {n:Int} (h:cD I env ρ) (hx:aT env x=.int k n):ev ρ x=.int k n:=by have:=h.ev x;rw[hx] at this;exact this
theorem uo {I:G} {ρ:bn} {s:ByteArray} (h:cD I env ρ) (hx:aT env x=.str s):ev ρ x=.string s:=by have:=h.ev x;rw[hx] at this;exact this
theorem r7 {I:G} {ρ:bn} {v:Value} (h:cD I env ρ) (hx:aT env x=.raw v):ev ρ x=v:=by have:=h.ev x;rw[hx] at this;exact this
theorem Gv.pickT {b:Bool} {v:AV} (hc:aT env x=.bool b) (hb:b=true) (hy:aT env y=v):Gv P env O (Oper.mk (some d) (.pick x y z) ty pos af none) v:=
 Gv.ofEv fun I ρ h=>⟨ev ρ y,hy▸h.ev y,fun _=>Run.pickT (xI h hc) hb rfl⟩
theorem Gv.pickF {b:Bool} {v:AV} (hc:aT env x=.bool b) (hb:b=false) (hy:aT env z=v):Gv P env O (Oper.mk (some d) (.pick x y z) ty pos af none) v:=
 Gv.ofEv fun I ρ h=>⟨ev ρ z,hy▸h.ev z,fun _=>Run.pickF (xI h hc) hb rfl⟩
theorem Gv.lss {k:IntKind} {a b:Int} (hx:aT env x=.int k a) (hy:aT env y=.int k b):Gv P env O (Oper.mk (some d) (.binOp .lss t x y u) ty pos af none) (.bool (decide (a<b))):=Gv.ofEv fun I ρ h=>⟨_,rfl,fun _=>Run.lss (fU h hx) (fU h hy)⟩
theorem Gv.leq {k:IntKind} {a b:Int} (hx:aT env x=.int k a) (hy:aT env y=.int k b):Gv P env O (Oper.mk (some d) (.binOp .leq t x y u) ty pos af none) (.bool (decide (a≤b))):=Gv.ofEv fun I ρ h=>⟨_,rfl,fun _=>Run.leq (fU h hx) (fU h hy)⟩
theorem Gv.gtr {k:IntKind} {a b:Int} (hx:aT env x=.int k a) (hy:aT env y=.int k b):Gv P env O (Oper.mk (some d) (.binOp .gtr t x y u) ty pos af none) (.bool (decide (b<a))):=Gv.ofEv fun I ρ h=>⟨_,rfl,fun _=>Run.gtr (fU h hx) (fU h hy)⟩
theorem Gv.geq {k:IntKind} {a b:Int} (hx:aT env x=.int k a) (hy:aT env y=.int k b):Gv P env O (Oper.mk (some d) (.binOp .geq t x y u) ty pos af none) (.bool (decide (b≤a))):=Gv.ofEv fun I ρ h=>⟨_,rfl,fun _=>Run.geq (fU h hx) (fU h hy)⟩
theorem Gv.eqlI {k:IntKind} {a b:Int} (hx:aT env x=.int k a) (hy:aT env y=.int k b):Gv P env O (Oper.mk (some d) (.binOp .eql t x y u) ty pos af none) (.bool (decide (a=b))):=Gv.ofEv fun I ρ h=>⟨_,rfl,fun _=>Run.eqlI (fU h hx) (fU h hy)⟩
theorem Gv.neqI {k:IntKind} {a b:Int} (hx:aT env x=.int k a) (hy:aT env y=.int k b):Gv P env O (Oper.mk (some d) (.binOp .neq t x y u) ty pos af none) (.bool (!decide (a=b))):=Gv.ofEv fun I ρ h=>⟨_,rfl,fun _=>by rw[←decide_not];exact Run.neqI (fU h hx) (fU h hy)⟩
theorem Gv.add {a b:Int} (hx:aT env x=.int .i64 a) (hy:aT env y=.int .i64 b) (hr:lC (a+b)):Gv P env O (Oper.mk (some d) (.binOp .add t x y u) ty pos af none) (.int .i64 (a+b)):=Gv.ofEv fun I ρ h=>⟨_,rfl,fun _=>Run.add (fU h hx) (fU h hy) hr⟩
theorem Gv.sub {a b:Int} (hx:aT env x=.int .i64 a) (hy:aT env y=.int .i64 b) (hr:lC (a - b)):Gv P env O (Oper.mk (some d) (.binOp .sub t x y u) ty pos af none) (.int .i64 (a - b)):=Gv.ofEv fun I ρ h=>⟨_,rfl,fun _=>Run.sub (fU h hx) (fU h hy) hr⟩
theorem Gv.mul {a b:Int} (hx:aT env x=.int .i64 a) (hy:aT env y=.int .i64 b) (hr:lC (a*b)):Gv P env O (Oper.mk (some d) (.binOp .mul t x y u) ty pos af none) (.int .i64 (a*b)):=Gv.ofEv fun I ρ h=>⟨_,rfl,fun _=>Run.mul (fU h hx) (fU h hy) hr⟩
theorem Gv.not {b:Bool} (hx:aT env x=.bool b):Gv P env O (Oper.mk (some d) (.unOp .not t x) ty pos af none) (.bool (!b)):=Gv.ofEv fun I ρ h=>⟨_,rfl,fun _=>Run.not (xI h hx)⟩
theorem Gv.eqlT {a b:ByteArray} (hx:aT env x=.str a) (hy:aT env y=.str b):Gv P env O (Oper.mk (some d) (.binOp .eql t x y u) ty pos af none) (.bool (decide (a=b))):=Gv.ofEv fun I ρ h=>⟨_,rfl,fun _=>Run.eqlT (uo h hx) (uo h hy)⟩
theorem Gv.neqT {a b:ByteArray} (hx:aT env x=.str a) (hy:aT env y=.str b):Gv P env O (Oper.mk (some d) (.binOp .neq t x y u) ty pos af none) (.bool (!decide (a=b))):=Gv.ofEv fun I ρ h=>⟨_,rfl,fun _=>Run.neqT (uo h hx) (uo h hy)⟩
theorem Gv.neqB {a b:Bool} (ht:P.underlying t=some .bool) (hx:aT env x=.bool a) (hy:aT env y=.bool b):Gv P env O (Oper.mk (some d) (.binOp .neq t x y u) ty pos af none) (.bool (!(a == b))):=Gv.ofEv fun I ρ h=>⟨_,rfl,fun _=>Run.neqB ht (xI h hx) (xI h hy)⟩
theorem Gv.extract {vs:List AV} {i:Nat} {v:AV} (hx:aT env x=.tup vs) (hv:vs[i]?=some v):Gv P env O (Oper.mk (some d) (.extract x i) ty pos af none) v:=Gv.ofEv fun I ρ h=>by
 have:=h.ev x
 rw[hx] at this
 obtain ⟨us,e,hr⟩:=this
 obtain ⟨u,hu,hru⟩:=hr.get hv
 exact ⟨u,hru,fun _=>Run.extract e (by simpa using hu)⟩
theorem Gv.nilCheckO {i off:Nat} (hx:aT env x=.po i off):Gv P env O (Oper.mk (some d) (.nilCheck x) ty pos af none) (.po i off):=Gv.ofEv fun I ρ h=>by
 have h2:=h.ev x
 rw[hx] at h2
 obtain ⟨b,c,e1,e⟩:=id h2
 rw[e] at h2
 exact ⟨_,h2,fun _=>Run.nilCheck e⟩
theorem Gv.lenF {k:Nat} {rows:List (List AV)} (ht:P.underlying t=some (.slice e)) (hx:aT env x=.fro k rows):Gv P env O (Oper.mk (some d) (.call { callee:=.builtin .len,args:=#[x],argTypes:=#[t] }) ty pos af none) (.int .i64 rows.length):=Gv.ofEv fun I ρ h=>by
 have h2:=h.ev x
 rw[hx] at h2
 obtain ⟨a,n,c,e,rfl,_⟩:=h2
 exact ⟨_,rfl,fun _=>Run.lenS ht e⟩
theorem Gv.lenM {α:Type} {enc:α→List AV} {xs:List α} {k:Nat} (ht:P.underlying t=some (.slice e)) (hx:aT env x=.fro k (xs.map enc)):Gv P env O (Oper.mk (some d) (.call { callee:=.builtin .len,args:=#[x],argTypes:=#[t] }) ty pos af none) (.int .i64 xs.length):=by
 have:=Gv.lenF (d:=d) (ty:=ty) (pos:=pos) (af:=af) (O:=O) ht hx
 rwa [List.length_map] at this
theorem Gv.lenO {i n:Nat} (ht:P.underlying t=some (.slice e)) (hx:aT env x=.own i n):Gv P env O (Oper.mk (some d) (.call { callee:=.builtin .len,args:=#[x],argTypes:=#[t] }) ty pos af none) (.int .i64 n):=Gv.ofEv fun I ρ h=>by
 have h2:=h.ev x
 rw[hx] at h2
 obtain ⟨b,c,_,e⟩:=h2
 exact ⟨_,rfl,fun _=>Run.lenS ht e⟩
theorem Gv.lenT {s:ByteArray} (ht:P.underlying t=some .string) (hx:aT env x=.str s):Gv P env O (Oper.mk (some d) (.call { callee:=.builtin .len,args:=#[x],argTypes:=#[t] }) ty pos af none) (.int .i64 s.size):=Gv.ofEv fun I ρ h=>⟨_,rfl,fun _=>Run.lenT ht (uo h hx)⟩
theorem Gv.load1F {c:AV} {cs:List AV} (ha:∀w,(isAgg t).run P w=.ok false w) (hx:aT env x=.pf (c::cs)):Gv P env O (Oper.mk (some d) (.load t x) ty pos af none) c:=fun I L E ρ h1 _=>by
 have h2:=h1.ev x
 rw[hx] at h2
 obtain ⟨b,off,vs,e,⟨v,us,e2,h3,h4⟩,h5⟩:=h2
 subst e2
 exact ⟨v,h3,fun w J L' hl hS _=>Run.load1 ha hS e ((h5 0 v rfl).mono hl |>.at_ _)⟩
theorem Gv.loadAF {n:Nat} {cs l:List AV} (ha:∀w,(isAgg t).run P w=.ok true w) (hs:∀w,(sizeOf t).run P w=.ok n w) (hx:aT env x=.pf cs) (hn:Nat.ble n cs.length=true) (hl:cs.take n=l):Gv P env O (Oper.mk (some d) (.load t x) ty pos af none) (.agg l):=fun I L E ρ h1 _=>by
 have h2:=h1.ev x
 rw[hx] at h2
 obtain ⟨b,off,vs,e,h3,h5⟩:=h2
 refine ⟨.agg (vs.take n).toArray,⟨_,rfl,hl▸h3.take n⟩,fun w J L' hk hS _=>Run.loadA ha ?_ hS e ?_⟩
 ·have hn:=Nat.le_of_ble_eq_true hn
  have:=h3.length
  rw[List.length_take,Nat.min_eq_left (by omega)];exact hs
 ·intro j v hj
  rw[List.getElem?_take] at hj
  split at hj
  ·exact ((h5 j v hj).mono hk).at_ _
  ·cases hj
theorem Gv.loadWF {n:Nat} {cs:List AV} (ha:∀w,(isAgg t).run P w=.ok true w) (hs:∀w,(sizeOf t).run P w=.ok n w) (hx:aT env x=.pf cs) (hn:cs.length=n):Gv P env O (Oper.mk (some d) (.load t x) ty pos af none) (.agg cs):=
 Gv.loadAF ha hs hx (by rw[hn];simp) (by rw[←hn];simp)
theorem Gv.fieldF {fs:Array Field} {f:Field} {i sz:Nat} {cs cs':List AV} (ht:P.underlying t=some (.struct fs)) (hf:fs[i]?=some f) (hs:∀w,(sizeOf f.type).run P w=.ok sz w) (hz:sz≠0)
  (hx:aT env x=.pf cs) (hr:cs.drop f.offset=cs'):Gv P env O (Oper.mk (some d) (.fieldAddr t x i) ty pos af none) (.pf cs'):=fun I L E ρ h1 _=>by
 have h2:=h1.ev x
 rw[hx] at h2
 obtain ⟨b,off,vs,e,h3,h5⟩:=h2
 refine ⟨.pointer (some ⟨b,off+f.offset,none⟩),⟨b,_,vs.drop f.offset,rfl,hr▸h3.drop _,fun j u hj=>?_⟩,fun w J L' _ _ _=>Run.field ht hf hs hz e rfl⟩
 rw[List.getElem?_drop] at hj
 have:=h5 _ _ hj
 rwa [←Nat.add_assoc] at this
theorem Gv.fieldO {fs:Array Field} {f:Field} {i id off r sz:Nat} (ht:P.underlying t=some (.struct fs)) (hf:fs[i]?=some f) (hs:∀w,(sizeOf f.type).run P w=.ok sz w) (hz:sz≠0)
  (hx:aT env x=.po id off) (hr:off+f.offset=r):Gv P env O (Oper.mk (some d) (.fieldAddr t x i) ty pos af none) (.po id r):=fun I L E ρ h1 _=>by
 have h2:=h1.ev x
 rw[hx] at h2
 obtain ⟨b,c,e1,e⟩:=h2
 exact ⟨_,⟨b,c,e1,rfl⟩,fun w J L' _ _ _=>Run.field ht hf hs hz e hr⟩
theorem Gv.idxF {k j:Nat} {i:Int} {rows:List (List AV)} {r:List AV} (ht:P.underlying t=some (.slice e)) (hs:∀w,(sizeOf e).run P w=.ok k w) (hx:aT env x=.fro k rows) (hy:aT env y=.int .i64 i) (hi:i=(j:Int)) (hj:rows[j]?=some r) :
  Gv P env O (Oper.mk (some d) (.indexAddr t x y) ty pos af none) (.pf r):=fun I L E ρ h1 _=>by
 have h2:=h1.ev x
 rw[hx] at h2
 obtain ⟨a,n,c,ex,hn,_,_,h3⟩:=h2
 obtain ⟨b,off,vs,rfl,h4,h5,h6⟩:=h3.get hj
 have hlt:j<n:=by rw[hn];exact (List.getElem?_eq_some_iff.1 hj).1
 refine ⟨.pointer (some ⟨b,off+j*k,none⟩),⟨b,_,vs,rfl,h5,fun i u hu=>?_⟩,fun w J L' _ _ _=>Run.idx ht hs ex (fU h1 hy) hi hlt⟩
 have:=h6 i u hu
 rwa [Nat.zero_add] at this
theorem Gv.idxM {α:Type} {enc:α→List AV} {xs:List α} {k j:Nat} {i:Int} {v:α} (ht:P.underlying t=some (.slice e)) (hs:∀w,(sizeOf e).run P w=.ok k w) (hx:aT env x=.fro k (xs.map enc)) (hy:aT env y=.int .i64 i) (hi:i=(j:Int)) (hj:xs[j]?=some v) :
  Gv P env O (Oper.mk (some d) (.indexAddr t x y) ty pos af none) (.pf (enc v)):=Gv.idxF ht hs hx hy hi (by rw[List.getElem?_map,hj];rfl)
end
def qZ (O:OL) (i:Nat) (o:bi):Prop:=∃O',cF O i o O'
theorem qZ.cells {I:G} {O:OL} {L:List (Nat × Obj)} {i:Nat} {T:TypeId} {cs:List AV} (h:qZ O i (.cells T cs)) (hL:bk I O L):∃b c vs,I.h i=some (some b,c)∧RepL I cs vs∧(b,Obj.cells vs.toArray T (0,0))∈L:=by
 obtain ⟨O',h⟩:=h
 obtain ⟨A,B,hp,h1,_⟩:=h.rep hL
 obtain ⟨b,c,vs,h2,h3,_,rfl⟩:=h1
 exact ⟨b,c,vs,h2,h3,hp.mem_iff.2 (by simp)⟩
theorem qZ.grow {I:G} {O:OL} {L:List (Nat × Obj)} {i k:Nat} {T:TypeId} {cs:List AV} (h:qZ O i (.grow k T cs)) (hL:bk I O L) (hne:cs≠[]):∃b c vs junk,I.h i=some (some b,c)∧RepL I cs vs∧(b,Obj.cells (vs++junk).toArray T (0,0))∈L:=by
 obtain ⟨O',h⟩:=h
 obtain ⟨A,B,hp,h1,_⟩:=h.rep hL
 obtain ⟨b,c,n,vs,h2,h3,_,h4,h5,h6⟩:=h1
 rcases h6 with ⟨_,h6,_⟩|⟨b',junk,e,e2,h6⟩
 ·have:=h3.length
  have:n=0:=by omega
  subst this
  simp at h4
  subst h4
  simp at this
  exact absurd this.symm (by simpa using hne)
 ·cases b with
  |none=>simp[lG] at e
  |some b=>
   simp[lG] at e
   subst e e2
   exact ⟨b,c,vs,junk,h2,h3,hp.mem_iff.2 (by simp)⟩
section
variable {E:World} {P:Program} {env:aE} {O:OL} {d ty:Nat} {pos:String} {af:Array Edge} {x y z:Operand} {t u e:TypeId}
theorem Gv.load1C {i off:Nat} {T:TypeId} {c:AV} {cs tl:List AV} (ha:∀w,(isAgg t).run P w=.ok false w) (hx:aT env x=.po i off) (hO:qZ O i (.cells T cs)) (hv:cs.drop off=c::tl):Gv P env O (Oper.mk (some d) (.load t x) ty pos af none) c:=fun I L E ρ h1 hL=>by
 have h2:=h1.ev x
 rw[hx] at h2
 obtain ⟨b,k,e1,e⟩:=h2
 obtain ⟨b',k',vs,e2,h3,hm⟩:=hO.cells hL
 rw[e1] at e2;cases e2
 have h4:=h3.drop off
 rw[hv] at h4
 obtain ⟨v,us,e5,h6,h7⟩:=h4
 exact ⟨v,h6,fun w J L' hl hS hsub=>Run.load1 ha hS e (.inr ⟨_,_,_,hsub _ hm,by rw[List.getElem?_toArray];exact lD e5⟩)⟩
theorem Gv.loadAC {i off n:Nat} {T:TypeId} {cs l:List AV} (ha:∀w,(isAgg t).run P w=.ok true w) (hs:∀w,(sizeOf t).run P w=.ok n w) (hx:aT env x=.po i off) (hO:qZ O i (.cells T cs)) (hn:Nat.ble (off+n) cs.length=true) (hl:(cs.drop off).take n=l) :
  Gv P env O (Oper.mk (some d) (.load t x) ty pos af none) (.agg l):=fun I L E ρ h1 hL=>by
 have h2:=h1.ev x
 rw[hx] at h2
 obtain ⟨b,k,e1,e⟩:=h2
 obtain ⟨b',k',vs,e2,h3,hm⟩:=hO.cells hL
 rw[e1] at e2;cases e2
 refine ⟨.agg ((vs.drop off).take n).toArray,⟨_,rfl,hl▸(h3.drop off).take n⟩,fun w J L' hk hS hsub=>Run.loadA ha ?_ hS e ?_⟩
 ·have hn:=Nat.le_of_ble_eq_true hn
  have:=h3.length
  rw[List.length_take,List.length_drop,Nat.min_eq_left (by omega)];exact hs
 ·intro j v hj
  rw[List.getElem?_take] at hj
  split at hj
  ·rw[List.getElem?_drop] at hj
   exact .inr ⟨_,_,_,hsub _ hm,by rw[List.getElem?_toArray];exact hj⟩
  ·cases hj
theorem Gv.loadWC {i n:Nat} {T:TypeId} {cs:List AV} (ha:∀w,(isAgg t).run P w=.ok true w) (hs:∀w,(sizeOf t).run P w=.ok n w) (hx:aT env x=.po i 0) (hO:qZ O i (.cells T cs)) (hn:cs.length=n):Gv P env O (Oper.mk (some d) (.load t x) ty pos af none) (.agg cs):=
 Gv.loadAC ha hs hx hO (by rw[hn];simp) (by rw[←hn];simp)
theorem Gv.load1G {i off k:Nat} {T:TypeId} {c:AV} {cs tl:List AV} (ha:∀w,(isAgg t).run P w=.ok false w) (hx:aT env x=.po i off) (hO:qZ O i (.grow k T cs)) (hv:cs.drop off=c::tl):Gv P env O (Oper.mk (some d) (.load t x) ty pos af none) c:=fun I L E ρ h1 hL=>by
 have h2:=h1.ev x
 rw[hx] at h2
 obtain ⟨b,k,e1,e⟩:=h2
 obtain ⟨b',k',vs,junk,e2,h3,hm⟩:=hO.grow hL (by intro h;subst h;simp at hv)
 rw[e1] at e2;cases e2
 have h4:=h3.drop off
 rw[hv] at h4
 obtain ⟨v,us,e5,h6,h7⟩:=h4
 exact ⟨v,h6,fun w J L' hl hS hsub=>Run.load1 ha hS e (.inr ⟨_,_,_,hsub _ hm,by
  have:=lD e5
  rw[List.getElem?_toArray,List.getElem?_append_left (List.getElem?_eq_some_iff.1 this).1];exact this⟩)⟩
theorem Gv.idxO {i n k j:Nat} {a:Int} {T:TypeId} {cs:List AV} (ht:P.underlying t=some (.slice e)) (hs:∀w,(sizeOf e).run P w=.ok k w) (hx:aT env x=.own i n) (hy:aT env y=.int .i64 a) (hi:a=(j:Int)) (hO:qZ O i (.grow k T cs)) (hne:cs≠[]) (hj:j<n) :
  Gv P env O (Oper.mk (some d) (.indexAddr t x y) ty pos af none) (.po i (j*k)):=fun I L E ρ h1 hL=>by
 have h2:=h1.ev x
 rw[hx] at h2
 obtain ⟨b,c,e1,e⟩:=h2
 obtain ⟨b',k',vs,junk,e2,_⟩:=hO.grow hL hne
 rw[e1] at e2;cases e2
 refine ⟨.pointer (some ⟨b',0+j*k,none⟩),⟨b',_,e1,by rw[Nat.zero_add]⟩,fun w J L' _ _ _=>Run.idx ht hs e (fU h1 hy) hi hj⟩
end
set_option linter.defProp false
def z2:=@aq.guardFd
def z6:=@aq.guardT
def z7:=@aq.nil
def z8:=@aq.val
def za:=@bQ.seq
def zb:=@aq.guardUd
def zd:=@bQ.ret
def ze:=@bQ.skip
def zf:=@Gv.fieldO
def zh:=@bQ.block
def zi:=@aq.case
def zj:=@Gv.load1C
def zn:=@bQ.cond
def zp:=@bQ.region
def zq:=@bQ.condP
def zr:=@Gv.assign
def zt:=@bQ.loop
def zu:=@bQ.exit
def zw:=@Gv.move
def y7:=@bQ.condF
def y9:=@bQ.condT
def ya:=@Gv.loadWF
def yc:=@Gv.idxM
def yk:=@bq.mono
def yl:=@bQ.cutS
def ym:=@Gv.gtr
def yr:=@Gv.extract
end
end Go.Proofs.YtbconpmnckokoaaGreatDoor
