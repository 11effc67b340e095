/- The operations' functions. No conditions. -/
import Derived.WalkKit
import Derived.WalkSpells
import Derived.Laws.CopyRow
import Derived.RegionTactic
import Derived.Laws.StructEq
import Derived.Test.YtbbonnfjealmpaaGreatDoorChecked
set_option linter.unusedVariables false
set_option linter.unusedSimpArgs false
set_option linter.unusedSectionVars false
namespace Go.Proofs.YtbbonnfjealmpaaGreatDoor
section
open Go.Proofs.Tryz
abbrev ei:=Nat→Value
def upd (ρ:ei) (d:Nat) (v:Value):ei:=fun t=>bif Nat.beq t d then v else ρ t
def updO (ρ:ei) (d:Option Nat) (v:Value):ei:=match d with|some d=>upd ρ d v|none=>ρ
def ev (ρ:ei):Operand→Value
 |.tmp t=>ρ t
 |.const v=>v
 |.global g=>.pointer (some ⟨g,0,none⟩)
 |.func f=>.func (.func f) #[] #[]
theorem mK (ρ:ei) (d:Nat) (v:Value):upd ρ d v d=v:=by simp[upd]
theorem gD (ρ:ei) {d t:Nat} (v:Value) (h:t≠d):upd ρ d v t=ρ t:=by
 have:Nat.beq t d=false:=by cases hb:Nat.beq t d<;>simp_all
 simp[upd,this]
structure kD (n:Nat) (a:Act) (ρ:ei):Prop where
 size:a.tmps.size=n
 defers:a.defers=[]
 at_:∀t,a.tmps.getD t undef=ρ t
theorem kD.eval {n:Nat} {a:Act} {ρ:ei} (h:kD n a ρ):a.eval=ev ρ:=by
 funext x;cases x<;>simp[Act.eval,ev,h.at_]
theorem kD.put {n:Nat} {a:Act} {ρ:ei} (h:kD n a ρ) {d:Option Nat} (hd:d.all (fun d=>decide (d<n))=true) (v:Value):kD n (a.put d v) (updO ρ d v):=by
 cases d with
 |none=>exact h
 |some d=>
  have hd':d<a.tmps.size:=by rw[h.size];simpa using hd
  refine ⟨by simp[Act.put,h.size],h.defers,fun t=>?_⟩;simp only[Act.put,updO]
  by_cases e:t=d
  ·subst e;rw[mK];simp[hd']
  rw[gD _ _ e,←h.at_ t];simp only[Array.getD_eq_getD_getElem?];rw[Array.getElem?_setIfInBounds_ne (by omega)]
def Mk (n:Nat) (Q:Exit→ei→World→Prop):Exit→Act→World→Prop:=fun e a w=>∃ρ,kD n a ρ∧Q e ρ w
def WP (P:Program) (n:Nat) (c:Code) (Q:Exit→ei→World→Prop) (ρ:ei) (w:World):Prop:=
 ∀a,kD n a ρ→c.wp P (Mk n Q) a w
def NW (K:ei→World→Prop) (Q:Exit→ei→World→Prop):Exit→ei→World→Prop:=fun e ρ w=>
 match e with
 |.normal=>K ρ w
 |e=>Q e ρ w
def Cr (id:Nat) (Q:Exit→ei→World→Prop):Exit→ei→World→Prop:=fun e ρ w=>
 match e with
 |.exit i=>if i=id then Q .normal ρ w else Q (.exit i) ρ w
 |e=>Q e ρ w
section
variable {P:Program} {n:Nat} {Q:Exit→ei→World→Prop} {ρ:ei} {w:World}
theorem WP.mono {c:Code} {Q':Exit→ei→World→Prop} (h:WP P n c Q ρ w) (hq:∀e ρ w,Q e ρ w→Q' e ρ w):WP P n c Q' ρ w:=
 fun a ha=>wp_mono (h a ha) fun _ _ _ ⟨ρ,h1,h2⟩=>⟨ρ,h1,hq _ _ _ h2⟩
theorem WP.skip (h:Q .normal ρ w):WP P n .skip Q ρ w:=fun _ ha=>wp_skip ⟨ρ,ha,h⟩
theorem WP.ret (h:Q .ret ρ w):WP P n .ret Q ρ w:=fun _ ha=>wp_ret ⟨ρ,ha,h⟩
theorem WP.exit {id:Nat} (h:Q (.exit id) ρ w):WP P n (.exit id) Q ρ w:=fun _ ha=>wp_exit ⟨ρ,ha,h⟩
theorem WP.seq {x y:Code} (h:WP P n x (NW (WP P n y Q) Q) ρ w):WP P n (.seq x y) Q ρ w:=fun a ha=>
 wp_seq (wp_mono (h a ha) fun e a w ⟨ρ,h1,h2⟩=>by
  cases e<;>first|exact h2 a h1|exact ⟨ρ,h1,h2⟩)
theorem WP.cond {c:Operand} {x y:Code} {t:Bool} (hc:ev ρ c=.bool t) (h:(if t then WP P n x Q ρ w else WP P n y Q ρ w)):WP P n (.cond c x y) Q ρ w:=fun a ha=>
 wp_cond (t:=t) (by rw[ha.eval];exact hc) (by cases t<;>exact h a ha)
theorem WP.condB {c:Operand} {x y:Code} {t:Bool} (hc:ev ρ c=.bool t) (h:t=true→WP P n x Q ρ w) (h':t=false→WP P n y Q ρ w):WP P n (.cond c x y) Q ρ w:=
 WP.cond hc (by cases t<;>simp[h,h'])
theorem WP.block {id:Nat} {c:Code} (h:WP P n c (Cr id Q) ρ w):WP P n (.block id c) Q ρ w:=fun a ha=>
 wp_block (wp_mono (h a ha) fun e a w ⟨ρ,h1,h2⟩=>by
  cases e<;>try exact ⟨ρ,h1,h2⟩
  rename_i i;simp only[Exit.inBlock];simp only[Cr] at h2;split<;>rename_i hi
  ·rw[if_pos hi] at h2;exact ⟨ρ,h1,h2⟩
  rw[if_neg hi] at h2;exact ⟨ρ,h1,h2⟩)
theorem WP.loop {γ:Type} {c:Code} (I:γ→ei→World→Prop) (μ:γ→Nat) (g₀:γ) (h₀:I g₀ ρ w)
  (round:∀g ρ w,I g ρ w→WP P n c (NW (fun ρ' w'=>∃g',I g' ρ' w'∧μ g'<μ g) Q) ρ w):WP P n (.loop c) Q ρ w:=by
 intro a ha b k cs;have key:∀m g ρ a w,μ g=m→kD n a ρ→I g ρ w →
   ∃e a' w',Mk n Q e a' w'∧Arrives P (lone (b.at a (.code c::.inLoop c::k)) cs w) b k cs e a' w':=by
  intro m;induction m using Nat.strongRecOn with
  |_ m ih=>
   intro g ρ a w hm ha hI;obtain ⟨e,a₁,w₁,⟨ρ₁,hq1,hq2⟩,harr⟩:=round g ρ w hI a ha b (.inLoop c::k) cs;cases e with
   |normal=>
    obtain ⟨g',hI₁,hlt⟩:=hq2;obtain ⟨e₂,a₂,w₂,hq₂,harr₂⟩:=ih (μ g') (hm▸hlt) g' ρ₁ a₁ w₁ rfl hq1 hI₁;exact ⟨e₂,a₂,w₂,hq₂,.of_steps (Steps.trans harr (.one step_inLoop)) harr₂⟩
   |exit id=>exact ⟨_,a₁,w₁,⟨ρ₁,hq1,hq2⟩,.pass (x:=.inLoop c) rfl (fun _ _=>.inl (by simp)) harr⟩
   |goto l=>exact ⟨_,a₁,w₁,⟨ρ₁,hq1,hq2⟩,.pass (x:=.inLoop c) rfl (fun _ _=>.inl (by simp)) harr⟩
   |ret=>exact ⟨_,a₁,w₁,⟨ρ₁,hq1,hq2⟩,.pass (x:=.inLoop c) rfl (fun _ _=>.inl (by simp)) harr⟩
   |panic ch=>exact ⟨_,a₁,w₁,⟨ρ₁,hq1,hq2⟩,.pass (x:=.inLoop c) rfl (fun _ _=>.inl (by simp)) harr⟩
   |outgrown=>exact ⟨_,a₁,w₁,⟨ρ₁,hq1,hq2⟩,.pass (x:=.inLoop c) rfl (fun _ _=>.inl (by simp)) harr⟩
 obtain ⟨e,a',w',hq,harr⟩:=key _ g₀ ρ a w rfl ha h₀;exact ⟨e,a',w',hq,.of_steps (.one step_loop) harr⟩
end
def mJ (P:Program) (o:Oper) (ρ:ei) (w:World) (K:Value→World→Prop):Prop:=
 match (execOp (ev ρ) o).run P w with
 |.ok (.value v) w'=>K v w'
 |.ok .skip w'=>K undef w'
 |.ok (.enter f args) w'=>Calls P f args w' fun e w''=>∃v,e=.returned v∧K v w''
 |_=>False
def eZ (ops:Array Oper) (o:Oper) (ρ:ei):Bool:=
 match o.guard with
 |none=>true
 |some (j,b)=>match (ops[j]?).bind (·.dst) with
  |some s=>(match ρ s with | .bool b'=>b' == b|_=>false)
  |none=>false
def bL (P:Program) (ops:Array Oper) (K:ei→World→Prop):List Oper→ei→World→Prop
 |[],ρ,w=>K ρ w
 |o::rest,ρ,w=>
  if eZ ops o ρ then mJ P o ρ w (fun v w'=>bL P ops K rest (updO ρ o.dst v) w')
  else bL P ops K rest (updO ρ o.dst undef) w
def ia (n:Nat) (l:List Oper):Bool:=l.all fun o=>o.dst.all (fun d=>decide (d<n))
theorem mJ.mono {P:Program} {o:Oper} {ρ:ei} {w:World} {K K':Value→World→Prop} (h:mJ P o ρ w K) (hk:∀v w,K v w→K' v w):mJ P o ρ w K':=by
 unfold mJ at *;split at h
 ·exact hk _ _ h
 ·exact hk _ _ h
 ·exact h.mono fun e w ⟨v,h1,h2⟩=>⟨v,h1,hk _ _ h2⟩
 exact h.elim
theorem mJ.wp {P:Program} {n:Nat} {o:Oper} {ρ:ei} {w:World} {K:Value→World→Prop} {a:Act} (ha:kD n a ρ)
  {next:Act→World→Prop} {Q:Exit→Act→World→Prop} (h:mJ P o ρ w K) (hk:∀v w',K v w'→next (a.put o.dst v) w'):o.wp P a w next Q:=by
 unfold mJ at h;unfold Oper.wp;rw[ha.eval];split at h
 ·rename_i heq;rw[heq];exact hk _ _ h
 ·rename_i heq;rw[heq];exact hk _ _ h
 ·rename_i heq;rw[heq,Oper.upon_enter];exact h.mono fun e w'' ⟨v,he,hK⟩=>by subst he;exact hk _ _ hK
 exact h.elim
theorem vX {n:Nat} {a:Act} {ρ:ei} (ha:kD n a ρ) (ops:Array Oper) (o:Oper) (hops:∀(j s:Nat),(ops[j]?).bind (fun o:Oper=>o.dst)=some s→s<n) :
  Region.wanted o (yielded ops a.tmps)=eZ ops o ρ:=by
 unfold Region.wanted eZ;split
 ·rename_i h;simp[h]
 rename_i j b h;simp only[h];unfold yielded;cases hd:(ops[j]?).bind (·.dst) with
 |none=>simp
 |some s=>
  have hs:=hops j s hd;have h1:a.tmps[s]?=some (ρ s):=by
   rw[←ha.at_ s];simp[Array.getD_eq_getD_getElem?,ha.size,hs]
  simp only[Option.bind_some,h1];cases ρ s<;>simp
theorem bL.wpList {P:Program} {n:Nat} {ops:Array Oper} {K:ei→World→Prop} {Q:Exit→Act→World→Prop} (hops:∀(j s:Nat),(ops[j]?).bind (fun o:Oper=>o.dst)=some s→s<n)
  (hK:∀a ρ w,kD n a ρ→K ρ w→Q .normal a w):∀(l:List Oper) (ρ:ei) (w:World) (a:Act),ia n l=true→kD n a ρ→bL P ops K l ρ w→wpList P ops Q l a w
 |[],ρ,w,a,_,ha,h=>hK a ρ w ha h
 |o::rest,ρ,w,a,hd,ha,h=>by
  simp only[ia,List.all_cons,Bool.and_eq_true] at hd;unfold Go.wpList;rw[vX ha ops o hops];unfold bL at h;split
  ·rename_i hw;rw[if_pos hw] at h;exact .inl (h.wp ha fun v w' hv=>bL.wpList hops hK rest _ _ _ hd.2 (ha.put hd.1 v) hv)
  rename_i hw;rw[if_neg hw] at h;exact bL.wpList hops hK rest _ _ _ hd.2 (ha.put hd.1 undef) h
theorem GX {n:Nat} {l:List Oper} (hd:ia n l=true) (j s:Nat) (h:(l.toArray[j]?).bind (fun o:Oper=>o.dst)=some s):s<n:=by
 simp only[ia,List.all_eq_true] at hd;rcases hj:l[j]? with _|o
 ·simp[hj] at h
 have:=hd o (List.mem_of_getElem? hj);simp only[List.getElem?_toArray,hj,Option.bind_some] at h
 simpa [h] using this
theorem WP.region {P:Program} {n:Nat} {Q:Exit→ei→World→Prop} {ρ:ei} {w:World} {id:Nat} {l:List Oper} (hd:ia n l=true)
  (h:bL P l.toArray (Q .normal) l ρ w):WP P n (.region id l.toArray false) Q ρ w:=fun a ha=>
 wp_region_lit (bL.wpList (GX hd) (fun _ _ _ ha hK=>⟨_,ha,hK⟩) l ρ w a hd ha h)
section
variable {P:Program} {ops:Array Oper} {K:ei→World→Prop} {ρ:ei} {w:World} {rest:List Oper} {o:Oper}
theorem bL.nil (h:K ρ w):bL P ops K [] ρ w:=h
theorem bL.step (hg:o.guard=none) (h:mJ P o ρ w (fun v w'=>bL P ops K rest (updO ρ o.dst v) w')):bL P ops K (o::rest) ρ w:=by
 unfold bL;rw[if_pos (by simp[eZ,hg])];exact h
theorem bL.mono {K':ei→World→Prop} (hk:∀ρ w,K ρ w→K' ρ w):∀(l:List Oper) (ρ:ei) (w:World),bL P ops K l ρ w→bL P ops K' l ρ w
 |[],_,_,h=>hk _ _ h
 |o::rest,ρ,w,h=>by
  unfold bL at *;split
  ·rename_i hw;rw[if_pos hw] at h;exact h.mono fun v w' hv=>bL.mono hk rest _ _ hv
  rename_i hw;rw[if_neg hw] at h;exact bL.mono hk rest _ _ h
end
def xq (rs:Array ResultVar) (ρ:ei) (P:Program) (w:World):Result Value:=
 ((do
  let vs ←rs.mapM fun x=>match x with
   |.tmp t=>Pure.pure (ρ t)
   |.cell a t=>do loadVar t (←asAddr (ρ a))
  Pure.pure (if h:vs.size=1 then vs[0] else Value.tuple vs)):Sem Value).run P w
theorem Cs {n:Nat} {a:Act} {ρ:ei} (ha:kD n a ρ) (fn:Func) (P:Program) (w:World):(results fn a.tmps).run P w=xq fn.results ρ P w:=by
 unfold results xq;simp only[ha.at_]
 rfl
def Fn (P:Program) (f:FuncId) (args:Array Value) (w:World) (R:Value→World→Prop):Prop:=
 (∃fn c,P.funcs[f]?=some fn∧fn.body=some c∧fn.name≠"runtime.NumGoroutine")∧Calls P f args w fun e w'=>∃v,e=.returned v∧R v w'
theorem Fn.mono {P:Program} {f:FuncId} {args:Array Value} {w:World} {R R':Value→World→Prop} (h:Fn P f args w R) (hr:∀v w,R v w→R' v w):Fn P f args w R':=
 ⟨h.1,h.2.mono fun _ _ ⟨v,h1,h2⟩=>⟨v,h1,hr _ _ h2⟩⟩
def Pa (P:Program) (rs:Array ResultVar) (R:Value→World→Prop):Exit→ei→World→Prop:=fun e ρ w=>
 match e with
 |.normal | .ret=>∃v,xq rs ρ P w=.ok v w∧R v w
 |_=>False
def J8 (args:Array Value):ei:=fun t=>args.getD t undef
theorem Fn.intro {P:Program} {f:FuncId} {fn:Func} {c:Code} {args:Array Value} {w:World} {R:Value→World→Prop} (hf:P.funcs[f]?=some fn) (hb:fn.body=some c)
  (hn:fn.name≠"runtime.NumGoroutine") (hs:Nat.ble args.size fn.ntmps=true) (h:WP P fn.ntmps c (Pa P fn.results R) (J8 args) w):Fn P f args w R:=by
 have hs:=Nat.le_of_ble_eq_true hs;refine ⟨⟨fn,c,hf,hb,hn⟩,calls_of_wp hf hb (wp_mono (h _ ⟨?_,rfl,?_⟩) ?_)⟩
 ·simp;omega
 ·intro t;simp only[J8,Array.getD_eq_getD_getElem?]
  by_cases ht:t<args.size
  ·rw[Array.getElem?_append_left ht]
  rw[Array.getElem?_append_right (by omega)]
  by_cases h2:t - args.size<fn.ntmps - args.size
  ·rw[Array.getElem?_replicate,if_pos h2,Array.getElem?_eq_none (by omega)];rfl
  rw[Array.getElem?_replicate,if_neg h2,Array.getElem?_eq_none (by omega)]
 rintro e a w ⟨ρ,ha,hq⟩;cases e<;>first|exact hq.elim|(obtain ⟨v,h1,h2⟩:=hq;exact ⟨ha.defers,v,by rw[Cs ha];exact h1,v,rfl,h2⟩)
abbrev bT:=Nat→Option Obj
def bT.le (I J:bT):Prop:=∀b o,I b=some o→J b=some o
theorem bT.le.refl (I:bT):I.le I:=fun _ _ h=>h
theorem bT.le.trans {I J K:bT} (h:I.le J) (k:J.le K):I.le K:=fun b o hb=>k b o (h b o hb)
def bT.put (I:bT) (b:Nat) (o:Obj):bT:=fun x=>if x=b then some o else I x
theorem bT.put_same (I:bT) (b:Nat) (o:Obj):I.put b o b=some o:=by simp[bT.put]
theorem bT.le_put {I:bT} {b:Nat} {o:Obj} (h:I b=none):I.le (I.put b o):=fun x o' hx=>by
 unfold bT.put;split
 ·rename_i e;subst e;rw[h] at hx;cases hx
 exact hx
def zA:Obj→Prop
 |.cells _ _ f=>f=(0,0)
 |_=>True
structure SL (I:bT) (O:List (Nat × Obj)) (E:World) (w:World):Prop where
 os:w.os=E.os
 output:w.output=E.output
 tape:w.tape=E.tape
 pers:∀b o,I b=some o→w.heap[b]?=some o
 j:∀x∈O,w.heap[x.1]?=some x.2
 nodup:(O.map (·.1)).Nodup
 apart:∀x∈O,I x.1=none
 base:∀b o,E.heap[b]?=some o→I b=some o
 flat:∀b o,I b=some o→E.heap[b]?=none→zA o
 oflat:∀x∈O,zA x.2
section
variable {I J:bT} {O:List (Nat × Obj)} {E w:World}
theorem SL.drew (h:SL I O E w):SL I O E w.drew:=⟨h.os,h.output,h.tape,h.pers,h.j,h.nodup,h.apart,h.base,h.flat,h.oflat⟩
theorem eE {w:World} {b:Nat} {o:Obj} (h:w.heap[b]?=some o):b<w.heap.size:=by
 by_cases hb:b<w.heap.size
 ·exact hb
 simp[Array.getElem?_eq_none (by omega:w.heap.size≤b)] at h
theorem vY {w:World} {o o':Obj} {b:Nat} (h:w.heap[b]?=some o):(w.alloc o').heap[b]?=some o:=by
 rw[Go.RowKit.Below.heap_alloc _ _ _ (eE h)];exact h
theorem SL.fresh (h:SL I O E w):I w.heap.size=none:=by
 cases hI:I w.heap.size with
 |none=>rfl
 |some o=>have:=eE (h.pers _ _ hI);omega
theorem SL.alloc (h:SL I O E w) (o:Obj) (ho:zA o:=by first|exact rfl|trivial):SL I ((w.heap.size,o)::O) E (w.alloc o):=by
 refine ⟨h.os,h.output,h.tape,fun b o' hb=>vY (h.pers b o' hb),?_,?_,?_,h.base,h.flat,fun x hx=>?_⟩
 ·intro x hx;rcases List.mem_cons.1 hx with rfl|hx
  ·show (w.heap.push o)[w.heap.size]?=some o;simp
  exact vY (h.j x hx)
 ·simp only[List.map_cons,List.nodup_cons];refine ⟨fun hm=>?_,h.nodup⟩;obtain ⟨x,hx,e⟩:=List.mem_map.1 hm;have:=eE (h.j x hx);omega
 ·intro x hx;rcases List.mem_cons.1 hx with rfl|hx
  ·exact h.fresh
  exact h.apart x hx
 rcases List.mem_cons.1 hx with rfl|hx
 ·exact ho
 exact h.oflat x hx
theorem SL.freeze {b:Nat} {o:Obj} (h:SL I ((b,o)::O) E w):I.le (I.put b o)∧SL (I.put b o) O E w:=by
 have hn:=h.nodup;simp only[List.map_cons,List.nodup_cons] at hn;refine ⟨bT.le_put (h.apart (b,o) (by simp)),h.os,h.output,h.tape,?_,fun x hx=>h.j x (List.mem_cons_of_mem _ hx),hn.2,?_,fun b' o' hb=>bT.le_put (h.apart (b,o) (by simp)) b' o' (h.base b' o' hb),?_,fun x hx=>h.oflat x (List.mem_cons_of_mem _ hx)⟩
 ·intro b' o' hb;unfold bT.put at hb;split at hb
  ·rename_i e;subst e;cases hb;exact h.j (b',o) (by simp)
  exact h.pers _ _ hb
 ·intro x hx;unfold bT.put;split
  ·rename_i e;exact absurd (e▸List.mem_map.2 ⟨x,hx,rfl⟩) hn.1
  exact h.apart x (List.mem_cons_of_mem _ hx)
 intro b' o' hb he;unfold bT.put at hb;split at hb
 ·cases hb;exact h.oflat (b,o) (by simp)
 exact h.flat b' o' hb he
theorem SL.alloc_pers (h:SL I O E w) (o:Obj) (ho:zA o:=by first|exact rfl|trivial):I.le (I.put w.heap.size o)∧SL (I.put w.heap.size o) O E (w.alloc o):=(h.alloc o ho).freeze
theorem SL.perm {O':List (Nat × Obj)} (h:SL I O E w) (hp:O'.Perm O):SL I O' E w:=
 ⟨h.os,h.output,h.tape,h.pers,fun x hx=>h.j x (hp.mem_iff.1 hx),(hp.map _).nodup_iff.2 h.nodup,fun x hx=>h.apart x (hp.mem_iff.1 hx),h.base,h.flat,fun x hx=>h.oflat x (hp.mem_iff.1 hx)⟩
theorem SL.sub {O':List (Nat × Obj)} (h:SL I O E w) (hp:O'.Sublist O):SL I O' E w:=
 ⟨h.os,h.output,h.tape,h.pers,fun x hx=>h.j x (hp.subset hx),(hp.map _).nodup h.nodup,fun x hx=>h.apart x (hp.subset hx),h.base,h.flat,fun x hx=>h.oflat x (hp.subset hx)⟩
theorem SL.dropAll {A:List (Nat × Obj)} (h:SL I (A++O) E w):SL I O E w:=h.sub (List.sublist_append_right _ _)
theorem SL.turn {b:Nat} {o o':Obj} {w':World} (h:SL I ((b,o)::O) E w) (h1:w'.os=w.os) (h2:w'.output=w.output) (h3:w'.tape=w.tape)
  (h4:w'.heap[b]?=some o') (h5:∀k,k≠b→w'.heap[k]?=w.heap[k]?) (h6:zA o':=by first|exact rfl|trivial):SL I ((b,o')::O) E w':=by
 have hn:=h.nodup;simp only[List.map_cons,List.nodup_cons] at hn;refine ⟨h1.trans h.os,h2.trans h.output,h3.trans h.tape,?_,?_,by simpa using h.nodup,?_,h.base,h.flat,fun x hx=>?_⟩
 ·intro k ok hk;rw[h5 k (fun e=>?_)]
  ·exact h.pers k ok hk
  subst e;rw[h.apart (k,o) (by simp)] at hk;cases hk
 ·intro x hx;rcases List.mem_cons.1 hx with rfl|hx
  ·exact h4
  rw[h5 x.1 (fun e=>hn.1 (e▸List.mem_map.2 ⟨x,hx,rfl⟩))];exact h.j x (List.mem_cons_of_mem _ hx)
 ·intro x hx;rcases List.mem_cons.1 hx with rfl|hx
  ·exact h.apart (b,o) (by simp)
  exact h.apart x (List.mem_cons_of_mem _ hx)
 rcases List.mem_cons.1 hx with rfl|hx
 ·exact h6
 exact h.oflat x (List.mem_cons_of_mem _ hx)
theorem SL.set {b i:Nat} {c:Array Value} {T:TypeId} {v:Value} (h:SL I ((b,.cells c T (0,0))::O) E w) :
  SL I ((b,.cells (c.setIfInBounds i v) T (0,0))::O) E (w.setCell ⟨b,i,none⟩ v):=by
 have hb:=h.j (b,.cells c T (0,0)) (by simp);exact h.turn rfl rfl rfl (by simp only at hb;simp[World.setCell,Array.getElem?_modify,hb]) (fun k hk=>Go.RowKit.Below.heap_setCell _ _ _ _ (by simpa using hk))
theorem SL.cell_own {b i:Nat} {c:Array Value} {T:TypeId} {f:Nat × Nat} (h:SL I ((b,.cells c T f)::O) E w):w.cell? ⟨b,i,none⟩=c[i]?:=by
 have:=h.j (b,.cells c T f) (by simp);simp only at this;simp[World.cell?,this]
theorem SL.cell_pers {b i:Nat} {c:Array Value} {T:TypeId} {f:Nat × Nat} (h:SL I O E w) (hb:I b=some (.cells c T f)):w.cell? ⟨b,i,none⟩=c[i]?:=by
 simp[World.cell?,h.pers _ _ hb]
def At (I:bT) (O:List (Nat × Obj)) (b i:Nat) (v:Value):Prop:=(∃c T f,I b=some (.cells c T f)∧c[i]?=some v)∨∃c T f,(b,Obj.cells c T f)∈O∧c[i]?=some v
theorem SL.at_ (h:SL I O E w) {b i:Nat} {v:Value} (ha:At I O b i v):w.cell? ⟨b,i,none⟩=some v:=by
 rcases ha with ⟨c,T,f,hb,hv⟩|⟨c,T,f,hm,hv⟩
 ·rw[h.cell_pers hb,hv]
 have:=h.j _ hm;simp only at this;simp[World.cell?,this,hv]
end
theorem ec (b o n:Nat):(⟨b,o,none⟩:Addr).add n=⟨b,o+n,none⟩:=by
 unfold Addr.add;split<;>simp_all
def mB (x:Int):Prop:=-9223372036854775808≤x∧x≤9223372036854775807
section
variable {P:Program} {ops:Array Oper} {K:ei→World→Prop} {ρ:ei} {w:World} {rest:List Oper}
variable {d ty:Nat} {pos:String} {af:Array Edge} {x y z:Operand} {t u:TypeId}
variable {I:bT} {O:List (Nat × Obj)} {E:World}
theorem bL.val {op:Op} {v:Value} (h:(execOp (ev ρ) (Oper.mk (some d) op ty pos af none)).run P w=.ok (.value v) w) (k:bL P ops K rest (upd ρ d v) w) :
  bL P ops K (Oper.mk (some d) op ty pos af none::rest) ρ w:=
 bL.step rfl (by unfold mJ;rw[h];exact k)
theorem bL.guardT {dd:Option Nat} {op:Op} {j s:Nat} {b t:Bool} (hs:(ops[j]?).bind (fun o:Oper=>o.dst)=some s) (hv:ρ s=.bool t) (ht:t=b)
  (k:bL P ops K (Oper.mk dd op ty pos af none::rest) ρ w):bL P ops K (Oper.mk dd op ty pos af (some (j,b))::rest) ρ w:=by
 subst ht;unfold bL at *;rw[if_pos (by simp[eZ])] at k;rw[if_pos (by simp only[eZ,hs,hv];simp)];exact k
theorem bL.guardF {dd:Option Nat} {op:Op} {j s:Nat} {b t:Bool} (hs:(ops[j]?).bind (fun o:Oper=>o.dst)=some s) (hv:ρ s=.bool t) (ht:t=!b)
  (k:bL P ops K rest (updO ρ dd undef) w):bL P ops K (Oper.mk dd op ty pos af (some (j,b))::rest) ρ w:=by
 subst ht;unfold bL;rw[if_neg (by simp only[eZ,hs,hv];cases b<;>simp)];exact k
theorem cR {op:BinOp} {k:IntKind} {a b:Int} (hx:ev ρ x=.int k a) (hy:ev ρ y=.int k b) (h1:op≠.shl) (h2:op≠.shr) :
  (execOp (ev ρ) (Oper.mk (some d) (.binOp op t x y u) ty pos af none)).run P w=((binOp op t (.int k a) (.int k b)).run P w).andThen fun v w'=>.ok (.value v) w':=by
 simp only[execOp,hx,hy];have he:(eqGuard op t x y (.int k a) (.int k b)).run P w=.ok () w:=by
  unfold eqGuard;cases op<;>rfl
 simp[he]
theorem vp {op:BinOp} {a b:Option Addr} {n c n' c':Nat}:(eqGuard op t x y (.slice a n c) (.slice b n' c')).run P w=.ok () w:=by
 unfold eqGuard;cases op<;>rfl
theorem mL {op:BinOp} {a b:ByteArray}:(eqGuard op t x y (.string a) (.string b)).run P w=.ok () w:=by
 unfold eqGuard;cases op<;>rfl
theorem oW {op:BinOp} {a b:Bool}:(eqGuard op t x y (.bool a) (.bool b)).run P w=.ok () w:=by
 unfold eqGuard;cases op<;>rfl
theorem bL.eqNilS {a:Option Addr} {n c:Nat} {e:TypeId} (ht:P.underlying t=some (.slice e)) (hx:ev ρ x=.slice a n c) (hy:ev ρ y=.slice none 0 0) (h:bL P ops K rest (upd ρ d (.bool a.isNone)) w) :
  bL P ops K (Oper.mk (some d) (.binOp .eql t x y u) ty pos af none::rest) ρ w:=
 bL.val (by simp only[execOp,hx,hy];simp[vp,Lib.run_eql_slice_nil w t e a n c 0 0 ht]) h
theorem zB (a b:ByteArray):(a.toList == b.toList)=decide (a=b):=by
 rw[ByteArray.toList_eq,ByteArray.toList_eq]
 by_cases h:a=b
 ·simp[h]
 have:¬a.data.toList=b.data.toList:=fun e=>h (by
  obtain ⟨⟨x⟩⟩:=a;obtain ⟨⟨y⟩⟩:=b;simpa using e)
 rw[decide_eq_false h];exact beq_eq_false_iff_ne.2 this
theorem bL.load1 {b off:Nat} {v:Value} (ha:∀w,(isAgg t).run P w=.ok false w) (hS:SL I O E w) (hx:ev ρ x=.pointer (some ⟨b,off,none⟩)) (hv:At I O b off v)
  (h:bL P ops K rest (upd ρ d v) w):bL P ops K (Oper.mk (some d) (.load t x) ty pos af none::rest) ρ w:=
 bL.val (by simp[execOp,hx,Instr.loadAt,Instr.sureAddr,loadVar,ha,hS.at_ hv]) h
theorem bL.callF {f:FuncId} {args:List Operand} {tys:Array TypeId} {R:Value→World→Prop} (hc:Fn P f (args.map (ev ρ)).toArray w R) (h:∀v w',R v w'→bL P ops K rest (upd ρ d v) w') :
  bL P ops K (Oper.mk (some d) (.call { callee:=.value (.func f),args:=args.toArray,argTypes:=tys }) ty pos af none::rest) ρ w:=by
 refine bL.step rfl ?_;obtain ⟨⟨fn,c,hf,hb,hn⟩,hcalls⟩:=hc;unfold mJ;have:(execOp (ev ρ) (Oper.mk (some d) (.call { callee:=.value (.func f),args:=args.toArray,argTypes:=tys }) ty pos af none)).run P w=.ok (.enter f (args.map (ev ρ)).toArray) w:=by
  simp[execOp,resolve,ev,Deferred.ofValue,invoke,callFunc,hf,hb,hn]
 rw[this];exact hcalls.mono fun e w' ⟨v,h1,h2⟩=>⟨v,h1,h v w' h2⟩
theorem bL.callV {f:FuncId} {args:List Operand} {tys:Array TypeId} {a b:List Value} {R:Value→World→Prop} (hx:ev ρ x=.func (.func f) a.toArray b.toArray) (hc:Fn P f (a++args.map (ev ρ)++b).toArray w R) (h:∀v w',R v w'→bL P ops K rest (upd ρ d v) w') :
  bL P ops K (Oper.mk (some d) (.call { callee:=.value x,args:=args.toArray,argTypes:=tys }) ty pos af none::rest) ρ w:=by
 refine bL.step rfl ?_;obtain ⟨⟨fn,c,hf,hb,hn⟩,hcalls⟩:=hc;unfold mJ;have:(execOp (ev ρ) (Oper.mk (some d) (.call { callee:=.value x,args:=args.toArray,argTypes:=tys }) ty pos af none)).run P w=.ok (.enter f (a++args.map (ev ρ)++b).toArray) w:=by
  simp[execOp,resolve,hx,Deferred.ofValue,invoke,callFunc,hf,hb,hn]
 rw[this];exact hcalls.mono fun e w' ⟨v,h1,h2⟩=>⟨v,h1,h v w' h2⟩
end
def fI (k:Nat) (e:TypeId) (a:Option Addr) (n cap:Nat) (cs:List Value) (A:List (Nat × Obj)):Prop:=
 cs.length=n*k∧n≤cap∧((a=none∧cap=0∧A=[])∨∃b junk,a=some ⟨b,0,none⟩∧A=[(b,.cells (cs++junk).toArray e (0,0))]∧(cs++junk).length=cap*k)
theorem fI.nil (k:Nat) (e:TypeId):fI k e none 0 0 [] []:=⟨by simp,Nat.le_refl _,.inl ⟨rfl,rfl,rfl⟩⟩
theorem fI.made {k:Nat} {e:TypeId} {b n:Nat} {cs:List Value} (h:cs.length=n*k):fI k e (some ⟨b,0,none⟩) n n cs [(b,.cells cs.toArray e (0,0))]:=
 ⟨h,Nat.le_refl _,.inr ⟨b,[],rfl,by simp,by simpa using h⟩⟩
def NX (I:bT) (O:List (Nat × Obj)) (k:Nat) (a:Option Addr) (m:Nat) (cs:List Value):Prop:=
 cs.length=m*k∧(∀u∈cs,u.oneCell'=true)∧((a=none∧m=0)∨∃p,a=some p∧∀(j:Nat) (u:Value),cs[j]?=some u→∃b off,p=⟨b,off,none⟩∧At I O b (off+j) u)
section
variable {P:Program} {ops:Array Oper} {K:ei→World→Prop} {ρ:ei} {w:World} {rest:List Oper}
variable {d ty:Nat} {pos:String} {af:Array Edge} {x y z:Operand} {t u e:TypeId}
variable {I:bT} {O A:List (Nat × Obj)} {E:World}
theorem vq {i:TypeInfo} {z:Value} {k n m cap sc:Nat} {a sa:Option Addr} {cs news:List Value} (ht:P.underlying t=some (.slice e)) (hi:P.info? e=some i) (hz:i.zero=some z) (hk:i.size=k)
  (hzc:z.cells.size=k) (hS:SL I (A++O) E w) (hA:fI k e a n cap cs A) (hs:NX I (A++O) k sa m news) (hb:(n+m)*i.bytes≤140737488355328) (hb2:n+m≤140737488355328) :
  ∃a' cap' A' w',(Builtin.append_ #[t,t] ty #[.slice a n cap,.slice sa m sc]).run P w=.ok (.slice a' (n+m) cap') w'∧fI k e a' (n+m) cap' (cs++news) A'∧SL I (A'++O) E w' ∧
   (a'=none→a=none∧m=0):=by
 subst hk;obtain ⟨hcl,hnc,hA⟩:=hA;obtain ⟨hnl,h1,hs⟩:=hs;rcases hs with ⟨rfl,rfl⟩|⟨sp,rfl,hat⟩
 ·
  have hn:news=[]:=List.eq_nil_of_length_eq_zero (by simpa using hnl);subst hn;refine ⟨a,cap,A,w,?_,⟨by simpa using hcl,by omega,by simpa using hA⟩,hS,fun h=>⟨h,rfl⟩⟩;have hle:n≤cap:=hnc;cases a<;>simp[Builtin.append_,run_underlying ht,sizeOf,typeInfo,hi,Builtin.lenOf,Builtin.firstCells,hle,storeCells]
 have hcell:∀(j:Nat) (v:Value),news[j]?=some v→w.cell? (sp.add j)=some v:=fun j v hj=>by
  obtain ⟨b,off,rfl,h⟩:=hat j v hj;rw[ec];exact hS.at_ h
 rcases hA with ⟨rfl,rfl,rfl⟩|⟨b,junk,rfl,rfl,hjl⟩
 ·have hn0:n=0:=by omega
  subst hn0;have hcs:cs=[]:=List.eq_nil_of_length_eq_zero (by simpa using hcl);subst hcs;rcases Nat.eq_zero_or_pos m with rfl|hm
  ·have hn:news=[]:=List.eq_nil_of_length_eq_zero (by simpa using hnl);subst hn;refine ⟨none,0,[],w,?_,fI.nil _ _,hS,fun _=>⟨rfl,rfl⟩⟩;simp[Builtin.append_,run_underlying ht,sizeOf,typeInfo,hi,Builtin.lenOf,Builtin.firstCells,loadCells,loadCellsFrom]
  have hrun:=run_append_nil (P:=P) w t ty e i z ht hi hz sp m sc news hnl hcell hm (by omega) (by have:=hb;simp at this;omega);simp only[Nat.zero_add,List.nil_append] at *;refine ⟨_,_,[(w.heap.size,.cells (news.toArray++Builtin.zeroCells z.cells (grownCap w m 0 e - m)) e (0,0))],_,hrun,⟨hnl,grownCap_ge _ _ _ _,.inr ⟨_,(Builtin.zeroCells z.cells (grownCap w m 0 e - m)).toList,rfl,?_,?_⟩⟩,(hS.drew).alloc _,fun h=>by cases h⟩
  ·congr 2;congr 1;simp
  have:=grownCap_ge w m 0 e;simp only[List.length_append,hnl,Array.length_toList,size_zeroCells,hzc,←Nat.add_mul]
  congr 1;omega
 have hown:=hS.j (b,.cells (cs++junk).toArray e (0,0)) (by simp);simp only at hown;have hjl':cs.length+junk.length=cap*i.size:=by simpa using hjl
 by_cases hroom:n+m≤cap
 ·have hmul:(n+m)*i.size≤cap*i.size:=Nat.mul_le_mul_right _ hroom;have hrun:=run_append_room (P:=P) w t ty e i ht hi b n cap (cs++junk).toArray hown sp m sc news hnl hcell h1 hroom (by simp;rw[hnl,←Nat.add_mul];omega);have hshape:(List.take (n*i.size) (cs++junk).toArray.toList++news++List.drop (n*i.size+news.length) (cs++junk).toArray.toList)=(cs++news)++junk.drop news.length:=by
   have e1:n*i.size=cs.length:=hcl.symm;simp only[e1];rw[List.take_left,List.drop_append,List.drop_eq_nil_of_le (by omega:cs.length≤cs.length+news.length)];simp
  rw[hshape] at hrun;refine ⟨_,_,[(b,.cells ((cs++news)++junk.drop news.length).toArray e (0,0))],_,hrun,⟨by rw[List.length_append,hcl,hnl,Nat.add_mul],hroom,.inr ⟨b,_,rfl,rfl,?_⟩⟩,?_,fun h=>by cases h⟩
  ·have:news.length≤junk.length:=by
    rw[Nat.add_mul] at hmul;omega
   simp only[List.length_append,List.length_drop];omega
  refine SL.turn (w:=w) hS rfl rfl rfl ?_ ?_
  ·simp[World.setRow,Array.getElem?_modify,hown]
  intro k hk;simp only[World.setRow,Array.getElem?_modify];rw[if_neg (by omega)]
 have hlt:cap<n+m:=by omega
 have hrun:=run_append_grow (P:=P) w t ty e i z ht hi hz ⟨b,0,none⟩ n cap cs hcl (fun j v hj=>by
  rw[ec,Nat.zero_add];refine hS.at_ (.inr ⟨_,_,_,List.mem_append_left _ (List.mem_singleton.2 rfl),?_⟩);have:=(List.getElem?_eq_some_iff.1 hj).1;rw[List.getElem?_toArray,List.getElem?_append_left this];exact hj) sp m sc news hnl hcell hlt (by omega) (growslice_fits hlt hb)
 refine ⟨_,_,[(w.heap.size,.cells (cs.toArray++news.toArray++Builtin.zeroCells z.cells (grownCap w (n+m) cap e - (n+m))) e (0,0))],_,hrun,⟨by rw[List.length_append,hcl,hnl,Nat.add_mul],grownCap_ge _ _ _ _,.inr ⟨_,(Builtin.zeroCells z.cells (grownCap w (n+m) cap e - (n+m))).toList,rfl,?_,?_⟩⟩,?_,fun h=>by cases h⟩
 ·congr 2;congr 1;simp
 ·have:=grownCap_ge w (n+m) cap e;simp only[List.length_append,hcl,hnl,Array.length_toList,size_zeroCells,hzc,←Nat.add_mul]
  congr 1;omega
 have h2:=(hS.drew).alloc (.cells (cs.toArray++news.toArray++Builtin.zeroCells z.cells (grownCap w (n+m) cap e - (n+m))) e (0,0));refine h2.sub ?_;exact List.Sublist.cons_cons _ (List.sublist_cons_self _ _)
theorem bL.append {i:TypeInfo} {z:Value} {k n m cap sc:Nat} {a sa:Option Addr} {cs news:List Value} (ht:P.underlying t=some (.slice e)) (hi:P.info? e=some i) (hz:i.zero=some z) (hk:i.size=k)
  (hzc:z.cells.size=k) (hx:ev ρ x=.slice a n cap) (hy:ev ρ y=.slice sa m sc) (hS:SL I (A++O) E w) (hA:fI k e a n cap cs A) (hs:NX I (A++O) k sa m news) (hb:(n+m)*i.bytes≤140737488355328) (hb2:n+m≤140737488355328)
  (h:∀a' cap' A' w',fI k e a' (n+m) cap' (cs++news) A'→SL I (A'++O) E w'→(a'=none→a=none∧m=0)→bL P ops K rest (upd ρ d (.slice a' (n+m) cap')) w') :
  bL P ops K (Oper.mk (some d) (.call { callee:=.builtin .append,args:=#[x,y],argTypes:=#[t,t] }) ty pos af none::rest) ρ w:=by
 obtain ⟨a',cap',A',w',hrun,h1,h2,h3⟩:=vq (ty:=ty) (sc:=sc) ht hi hz hk hzc hS hA hs hb hb2;refine bL.step rfl ?_;unfold mJ;have:(execOp (ev ρ) (Oper.mk (some d) (.call { callee:=.builtin .append,args:=#[x,y],argTypes:=#[t,t] }) ty pos af none)).run P w=.ok (.value (.slice a' (n+m) cap')) w':=by
  simp[execOp,resolve,hx,hy,invoke,builtin,hrun]
 rw[this];exact h _ _ _ _ h1 h2 h3
theorem oe {v:Value} (w:World):(newVar t v).run P w=.ok ⟨w.heap.size,0,none⟩ (w.alloc (.cells v.cells t)):=by
 simp[newVar,newRow]
theorem bL.boxP {v:Value} (hS:SL I O E w) (hx:ev ρ x=v) (h:∀b w' J,I.le J→J b=some (.cells v.cells t (0,0))→SL J O E w'→bL P ops K rest (upd ρ d (.pointer (some ⟨b,0,none⟩))) w') :
  bL P ops K (Oper.mk (some d) (.box t x) ty pos af none::rest) ρ w:=by
 refine bL.step rfl ?_;unfold mJ;have:(execOp (ev ρ) (Oper.mk (some d) (.box t x) ty pos af none)).run P w=.ok (.value (.pointer (some ⟨w.heap.size,0,none⟩))) (w.alloc (.cells v.cells t)):=by
  simp[execOp,hx,Instr.box,oe]
 rw[this];exact h _ _ _ (hS.alloc_pers _).1 (bT.put_same _ _ _) (hS.alloc_pers _).2
theorem bL.boxO {v:Value} (hS:SL I O E w) (hx:ev ρ x=v) (h:∀b w',SL I ((b,.cells v.cells t (0,0))::O) E w'→bL P ops K rest (upd ρ d (.pointer (some ⟨b,0,none⟩))) w') :
  bL P ops K (Oper.mk (some d) (.box t x) ty pos af none::rest) ρ w:=by
 refine bL.step rfl ?_;unfold mJ;have:(execOp (ev ρ) (Oper.mk (some d) (.box t x) ty pos af none)).run P w=.ok (.value (.pointer (some ⟨w.heap.size,0,none⟩))) (w.alloc (.cells v.cells t)):=by
  simp[execOp,hx,Instr.box,oe]
 rw[this];exact h _ _ (hS.alloc _)
theorem bL.alloc {zv:Value} (hz:∀w,(zeroValue t).run P w=.ok zv w) (hS:SL I O E w) (h:∀b w',SL I ((b,.cells zv.cells t (0,0))::O) E w'→bL P ops K rest (upd ρ d (.pointer (some ⟨b,0,none⟩))) w') :
  bL P ops K (Oper.mk (some d) (.alloc t) ty pos af none::rest) ρ w:=by
 refine bL.step rfl ?_;unfold mJ;have:(execOp (ev ρ) (Oper.mk (some d) (.alloc t) ty pos af none)).run P w=.ok (.value (.pointer (some ⟨w.heap.size,0,none⟩))) (w.alloc (.cells zv.cells t)):=by
  simp[execOp,Instr.alloc,hz,oe]
 rw[this];exact h _ _ (hS.alloc _)
theorem bL.store1 {b off:Nat} {cs:List Value} {T:TypeId} {v:Value} (hs:∀w,(sizeOf t).run P w=.ok 1 w) (hx:ev ρ x=.pointer (some ⟨b,off,none⟩)) (hy:ev ρ y=v) (hv:v.oneCell'=true) (ho:off<cs.length)
  (hS:SL I ([(b,.cells cs.toArray T (0,0))]++O) E w) (h:∀w',SL I ([(b,.cells (cs.set off v).toArray T (0,0))]++O) E w'→bL P ops K rest ρ w') :
  bL P ops K (Oper.mk none (.store t x y) ty pos af none::rest) ρ w:=by
 refine bL.step rfl ?_;unfold mJ;have hS:SL I ((b,.cells cs.toArray T (0,0))::O) E w:=hS;have hown:=hS.j (b,.cells cs.toArray T (0,0)) (by simp);simp only at hown;have hvc:v.cells=#[v]:=by cases v<;>first|rfl|(simp[Value.oneCell'] at hv)
 have hc:w.cell? ⟨b,off,none⟩=some cs[off]:=by simp[World.cell?,hown,ho]
 have hf:w.frozen? ⟨b,off,none⟩=false:=by simp[World.frozen?,hown]
 have hst:(store (⟨b,off,none⟩:Addr) v).run P w=.ok () (w.setCell ⟨b,off,none⟩ v):=by
  rw[run_store P w ⟨b,off,none⟩ v .plain hv];simp[hc,hf]
 have:(execOp (ev ρ) (Oper.mk none (.store t x y) ty pos af none)).run P w=.ok .skip (w.setCell ⟨b,off,none⟩ v):=by
  simp[execOp,hx,hy,Instr.storeAt,Instr.sureAddr,storeVar,hs,hvc,storeCells,ec,hst]
 rw[this];refine h _ ?_;have:=hS.set (i:=off) (v:=v)
 simpa using this
end
section
variable {P:Program} {n:Nat} {Q:Exit→ei→World→Prop} {ρ:ei} {w:World}
variable {R:Value→World→Prop}
theorem rW {b off:Nat} {T:TypeId} {cs:List Value} (ha:∀w,(isAgg T).run P w=.ok true w) (hs:∀w,(sizeOf T).run P w=.ok cs.length w) (hv:∀j v,cs[j]?=some v→w.cell? ⟨b,off+j,none⟩=some v) :
  (loadVar T ⟨b,off,none⟩).run P w=.ok (.agg cs.toArray) w:=by
 have hl:=run_loadCells_list (P:=P) w ⟨b,off,none⟩ cs (fun j v hj=>by rw[ec];exact hv j v hj);simp[loadVar,ha,hs,hl]
end
section
variable {P:Program} {ops:Array Oper} {K:ei→World→Prop} {ρ:ei} {w:World} {rest:List Oper}
variable {d d2 ty ty2:Nat} {pos pos2:String} {af af2:Array Edge} {x y z:Operand} {t u e:TypeId}
variable {I:bT} {O A:List (Nat × Obj)} {E:World}
theorem zC {cs tl:List Value} {off:Nat} {v:Value} (h:cs.drop off=v::tl):cs[off]?=some v:=by
 have:=congrArg (fun l=>l[0]?) h
 simpa using this
theorem bL.buildSlice0 {i:TypeInfo} (ht:P.underlying t=some (.slice e)) (hi:P.info? e=some i) (hS:SL I O E w) (h:∀b w',SL I ([(b,.cells [].toArray e (0,0))]++O) E w'→bL P ops K rest (upd ρ d (.slice (some ⟨b,0,none⟩) 0 0)) w') :
  bL P ops K (Oper.mk (some d) (.buildSlice t 0 #[]) ty pos af none::rest) ρ w:=by
 refine bL.step rfl ?_;unfold mJ;have:(execOp (ev ρ) (Oper.mk (some d) (.buildSlice t 0 #[]) ty pos af none)).run P w=.ok (.value (.slice (some ⟨w.heap.size,0,none⟩) 0 0)) (w.alloc (.cells #[] e)):=by
  simp[execOp,Instr.buildSlice,run_underlying ht,sizeOf,typeInfo,hi,Instr.fill,newRow]
  congr 2
  exact Array.eq_empty_of_size_eq_zero (by simp)
 rw[this];exact h _ _ (hS.alloc _)
end
theorem vr (z:Value) (m:Nat):madeCells #[z] m=(List.replicate m z).toArray:=by
 apply Array.ext
 ·simp[madeCells]
 intro i h1 h2;simp[madeCells,Nat.mod_one]
section
variable {P:Program} {ops:Array Oper} {K:ei→World→Prop} {ρ:ei} {w:World} {rest:List Oper}
variable {d ty:Nat} {pos:String} {af:Array Edge} {x y:Operand} {t e:TypeId}
variable {I:bT} {O:List (Nat × Obj)} {E:World}
theorem bL.make1 {i:TypeInfo} {zv z1:Value} {m:Nat} {k1 k2:IntKind} {l l':Int} (ht:P.underlying t=some (.slice e)) (hi:P.info? e=some i) (hz:i.zero=some zv) (hzc:zv.cells=#[z1]) (hk:i.size=1) (hx:ev ρ x=.int k1 l) (hy:ev ρ y=.int k2 l')
  (hl:l=(m:Int)) (hl':l'=(m:Int)) (hb:(i.bytes:Int)*(m:Int)≤281474976710656) (hm:m≤281474976710656) (hS:SL I O E w)
  (h:∀b w',SL I ([(b,.cells (List.replicate m z1).toArray e (0,0))]++O) E w'→bL P ops K rest (upd ρ d (.slice (some ⟨b,0,none⟩) m m)) w') :
  bL P ops K (Oper.mk (some d) (.makeSlice t x y) ty pos af none::rest) ρ w:=by
 refine bL.step rfl ?_;unfold mJ;subst hl hl';have hrun:=run_make (P:=P) w t e i zv ht hi hz k1 k2 m m (by omega) (by omega) hb (by omega);rw[hzc,hk,Nat.mul_one,Int.toNat_natCast,vr] at hrun;have:(execOp (ev ρ) (Oper.mk (some d) (.makeSlice t x y) ty pos af none)).run P w=.ok (.value (.slice (some ⟨w.heap.size,0,none⟩) m m)) (w.alloc (.cells (List.replicate m z1).toArray e)):=by
  simp[execOp,hx,hy,hrun]
 rw[this];exact h _ _ (hS.alloc _)
end
abbrev O4:=List (Nat × Obj)
section
variable {P:Program} {ops:Array Oper} {K:ei→World→Prop} {ρ:ei} {w:World} {rest:List Oper}
variable {d d2 ty ty2:Nat} {pos pos2:String} {af af2:Array Edge} {x y z:Operand} {t u e:TypeId}
variable {I:bT} {O A:O4} {E:World} {α:Type} {R:bT→O4→List Value→α→Prop} {xs:List α} {v:α}
end
section
variable {P:Program} {ρ:ei} {w:World}
variable {d ty:Nat} {pos:String} {af:Array Edge} {x y z:Operand} {t u e:TypeId}
variable {I:bT} {O:O4} {E:World}
theorem Run.pickT {b:Bool} {v:Value} (hc:ev ρ x=.bool b) (hb:b=true) (hy:ev ρ y=v) :
  (execOp (ev ρ) (Oper.mk (some d) (.pick x y z) ty pos af none)).run P w=.ok (.value (v)) w:=
 (by subst hb;simp[execOp,hc,hy,asBool])
theorem Run.pickF {b:Bool} {v:Value} (hc:ev ρ x=.bool b) (hb:b=false) (hz:ev ρ z=v) :
  (execOp (ev ρ) (Oper.mk (some d) (.pick x y z) ty pos af none)).run P w=.ok (.value (v)) w:=
 (by subst hb;simp[execOp,hc,hz,asBool])
theorem Run.lss {k:IntKind} {a b:Int} (hx:ev ρ x=.int k a) (hy:ev ρ y=.int k b) :
  (execOp (ev ρ) (Oper.mk (some d) (.binOp .lss t x y u) ty pos af none)).run P w=.ok (.value ((.bool (decide (a<b))))) w:=
 (by rw[cR hx hy (by decide) (by decide)];simp[binOp,Op.intCmp])
theorem Run.leq {k:IntKind} {a b:Int} (hx:ev ρ x=.int k a) (hy:ev ρ y=.int k b) :
  (execOp (ev ρ) (Oper.mk (some d) (.binOp .leq t x y u) ty pos af none)).run P w=.ok (.value ((.bool (decide (a≤b))))) w:=
 (by rw[cR hx hy (by decide) (by decide)];simp[binOp,Op.intCmp])
theorem Run.gtr {k:IntKind} {a b:Int} (hx:ev ρ x=.int k a) (hy:ev ρ y=.int k b) :
  (execOp (ev ρ) (Oper.mk (some d) (.binOp .gtr t x y u) ty pos af none)).run P w=.ok (.value ((.bool (decide (b<a))))) w:=
 (by rw[cR hx hy (by decide) (by decide)];simp[binOp,Op.intCmp])
theorem Run.geq {k:IntKind} {a b:Int} (hx:ev ρ x=.int k a) (hy:ev ρ y=.int k b) :
  (execOp (ev ρ) (Oper.mk (some d) (.binOp .geq t x y u) ty pos af none)).run P w=.ok (.value ((.bool (decide (b≤a))))) w:=
 (by rw[cR hx hy (by decide) (by decide)];simp[binOp,Op.intCmp])
theorem Run.eqlI {k:IntKind} {a b:Int} (hx:ev ρ x=.int k a) (hy:ev ρ y=.int k b) :
  (execOp (ev ρ) (Oper.mk (some d) (.binOp .eql t x y u) ty pos af none)).run P w=.ok (.value ((.bool (decide (a=b))))) w:=
 (by
  rw[cR hx hy (by decide) (by decide)];have e:(decide (a=b))=(a == b):=by by_cases h:a=b<;>simp[h]
  rw[e];simp[binOp,Op.intCmp])
theorem Run.neqI {k:IntKind} {a b:Int} (hx:ev ρ x=.int k a) (hy:ev ρ y=.int k b) :
  (execOp (ev ρ) (Oper.mk (some d) (.binOp .neq t x y u) ty pos af none)).run P w=.ok (.value ((.bool (decide (a≠b))))) w:=
 (by
  rw[cR hx hy (by decide) (by decide)];have e:(decide (a≠b))=(a != b):=by by_cases h:a=b<;>simp[h]
  rw[e];simp[binOp,Op.intCmp])
theorem Run.add {a b:Int} (hx:ev ρ x=.int .i64 a) (hy:ev ρ y=.int .i64 b) (hr:mB (a+b)) :
  (execOp (ev ρ) (Oper.mk (some d) (.binOp .add t x y u) ty pos af none)).run P w=.ok (.value ((.int .i64 (a+b)))) w:=
 (by rw[cR hx hy (by decide) (by decide)];simp[binOp,Op.intArith,IntWalk.i64_in _ hr])
theorem Run.sub {a b:Int} (hx:ev ρ x=.int .i64 a) (hy:ev ρ y=.int .i64 b) (hr:mB (a - b)) :
  (execOp (ev ρ) (Oper.mk (some d) (.binOp .sub t x y u) ty pos af none)).run P w=.ok (.value ((.int .i64 (a - b)))) w:=
 (by rw[cR hx hy (by decide) (by decide)];simp[binOp,Op.intArith,IntWalk.i64_in _ hr])
theorem Run.mul {a b:Int} (hx:ev ρ x=.int .i64 a) (hy:ev ρ y=.int .i64 b) (hr:mB (a*b)) :
  (execOp (ev ρ) (Oper.mk (some d) (.binOp .mul t x y u) ty pos af none)).run P w=.ok (.value ((.int .i64 (a*b)))) w:=
 (by rw[cR hx hy (by decide) (by decide)];simp[binOp,Op.intArith,IntWalk.i64_in _ hr])
theorem Run.addW {k:IntKind} {a b:Int} (hx:ev ρ x=.int k a) (hy:ev ρ y=.int k b) :
  (execOp (ev ρ) (Oper.mk (some d) (.binOp .add t x y u) ty pos af none)).run P w=.ok (.value ((.int k (k.wrap (a+b))))) w:=
 (by rw[cR hx hy (by decide) (by decide)];simp[binOp,Op.intArith])
theorem Run.subW {k:IntKind} {a b:Int} (hx:ev ρ x=.int k a) (hy:ev ρ y=.int k b) :
  (execOp (ev ρ) (Oper.mk (some d) (.binOp .sub t x y u) ty pos af none)).run P w=.ok (.value ((.int k (k.wrap (a - b))))) w:=
 (by rw[cR hx hy (by decide) (by decide)];simp[binOp,Op.intArith])
theorem Run.mulW {k:IntKind} {a b:Int} (hx:ev ρ x=.int k a) (hy:ev ρ y=.int k b) :
  (execOp (ev ρ) (Oper.mk (some d) (.binOp .mul t x y u) ty pos af none)).run P w=.ok (.value ((.int k (k.wrap (a*b))))) w:=
 (by rw[cR hx hy (by decide) (by decide)];simp[binOp,Op.intArith])
theorem Run.not {b:Bool} (hx:ev ρ x=.bool b) :
  (execOp (ev ρ) (Oper.mk (some d) (.unOp .not t x) ty pos af none)).run P w=.ok (.value ((.bool (!b)))) w:=
 (by simp[execOp,hx,unary_not])
theorem Run.extract {vs:Array Value} {ix:Nat} {v:Value} (hx:ev ρ x=.tuple vs) (hv:vs[ix]?=some v) :
  (execOp (ev ρ) (Oper.mk (some d) (.extract x ix) ty pos af none)).run P w=.ok (.value (v)) w:=
 (by simp[execOp,hx,Instr.extract,hv])
theorem Run.nilCheck {a:Addr} (hx:ev ρ x=.pointer (some a)) :
  (execOp (ev ρ) (Oper.mk (some d) (.nilCheck x) ty pos af none)).run P w=.ok (.value ((.pointer (some a)))) w:=
 (by simp[execOp,hx])
theorem Run.lenS {a:Option Addr} {n c:Nat} {e:TypeId} (ht:P.underlying t=some (.slice e)) (hx:ev ρ x=.slice a n c) :
  (execOp (ev ρ) (Oper.mk (some d) (.call { callee:=.builtin .len,args:=#[x],argTypes:=#[t] }) ty pos af none)).run P w=.ok (.value ((.int .i64 n))) w:=
 (by simp[execOp,resolve,hx,invoke,builtin,Builtin.len_,run_underlying ht,goInt])
theorem Run.lenT {s:ByteArray} (ht:P.underlying t=some .string) (hx:ev ρ x=.string s) :
  (execOp (ev ρ) (Oper.mk (some d) (.call { callee:=.builtin .len,args:=#[x],argTypes:=#[t] }) ty pos af none)).run P w=.ok (.value ((.int .i64 s.size))) w:=
 (by simp[execOp,resolve,hx,invoke,builtin,Builtin.len_,run_underlying ht,goInt])
theorem Run.eqlT {a b:ByteArray} (hx:ev ρ x=.string a) (hy:ev ρ y=.string b) :
  (execOp (ev ρ) (Oper.mk (some d) (.binOp .eql t x y u) ty pos af none)).run P w=.ok (.value ((.bool (decide (a=b))))) w:=
 (by
  rw[←zB];simp only[execOp,hx,hy];simp[mL,binOp_string_eql])
theorem Run.neqT {a b:ByteArray} (hx:ev ρ x=.string a) (hy:ev ρ y=.string b) :
  (execOp (ev ρ) (Oper.mk (some d) (.binOp .neq t x y u) ty pos af none)).run P w=.ok (.value ((.bool (!decide (a=b))))) w:=
 (by
  rw[←zB];simp only[execOp,hx,hy];simp[mL,binOp_string_neq])
theorem Run.eqlB {a b:Bool} (ht:P.underlying t=some .bool) (hx:ev ρ x=.bool a) (hy:ev ρ y=.bool b) :
  (execOp (ev ρ) (Oper.mk (some d) (.binOp .eql t x y u) ty pos af none)).run P w=.ok (.value ((.bool (a == b)))) w:=
 (by simp only[execOp,hx,hy];simp[oW,run_eql_bool w t a b ht])
theorem Run.neqB {a b:Bool} (ht:P.underlying t=some .bool) (hx:ev ρ x=.bool a) (hy:ev ρ y=.bool b) :
  (execOp (ev ρ) (Oper.mk (some d) (.binOp .neq t x y u) ty pos af none)).run P w=.ok (.value ((.bool (!(a == b))))) w:=
 (by simp only[execOp,hx,hy];simp[oW,run_neq_bool w t a b ht])
theorem Run.load1 {b off:Nat} {v:Value} (ha:∀w,(isAgg t).run P w=.ok false w) (hS:SL I O E w) (hx:ev ρ x=.pointer (some ⟨b,off,none⟩)) (hv:At I O b off v)
  :
  (execOp (ev ρ) (Oper.mk (some d) (.load t x) ty pos af none)).run P w=.ok (.value (v)) w:=
 (by simp[execOp,hx,Instr.loadAt,Instr.sureAddr,loadVar,ha,hS.at_ hv])
theorem Run.loadA {b off:Nat} {cs:List Value} (ha:∀w,(isAgg t).run P w=.ok true w) (hs:∀w,(sizeOf t).run P w=.ok cs.length w) (hS:SL I O E w) (hx:ev ρ x=.pointer (some ⟨b,off,none⟩))
  (hv:∀j v,cs[j]?=some v→At I O b (off+j) v) :
  (execOp (ev ρ) (Oper.mk (some d) (.load t x) ty pos af none)).run P w=.ok (.value ((.agg cs.toArray))) w:=
 (by
  have hl:=run_loadCells_list (P:=P) w ⟨b,off,none⟩ cs (fun j v hj=>by rw[ec];exact hS.at_ (hv j v hj));simp[execOp,hx,Instr.loadAt,Instr.sureAddr,loadVar,ha,hs,hl])
theorem Run.idx {b off n c j k:Nat} {e:TypeId} {i:Int} (ht:P.underlying t=some (.slice e)) (hs:∀w,(sizeOf e).run P w=.ok k w) (hx:ev ρ x=.slice (some ⟨b,off,none⟩) n c)
  (hy:ev ρ y=.int .i64 i) (hi:i=(j:Int)) (hj:j<n) :
  (execOp (ev ρ) (Oper.mk (some d) (.indexAddr t x y) ty pos af none)).run P w=.ok (.value ((.pointer (some ⟨b,off+j*k,none⟩)))) w:=
 (by
  subst hi;simp[execOp,hx,hy,Instr.indexAt,asIntOf,run_underlying ht,hs,hj,ec])
theorem Run.field {fs:Array Field} {f:Field} {i:Nat} {b off r:Nat} {sz:Nat} (ht:P.underlying t=some (.struct fs)) (hf:fs[i]?=some f) (hs:∀w,(sizeOf f.type).run P w=.ok sz w) (hz:sz≠0)
  (hx:ev ρ x=.pointer (some ⟨b,off,none⟩)) (hr:off+f.offset=r) :
  (execOp (ev ρ) (Oper.mk (some d) (.fieldAddr t x i) ty pos af none)).run P w=.ok (.value ((.pointer (some ⟨b,r,none⟩)))) w:=
 (by subst hr;simp[execOp,hx,Instr.fieldAt,run_underlying ht,hf,Instr.sureAddr,fieldPlace,hs,hz,ec])
end
def gg (W:Nat→Bool) (listed:Array Bool):Prop:=∃j,listed.getD j false=true∧W j=true
theorem og {W:Nat→Bool} {listed:Array Bool} {i:Nat} (h:gg W listed):gg W (listed.setIfInBounds i true):=by
 obtain ⟨j,h1,h2⟩:=h;refine ⟨j,?_,h2⟩;rw[Array.getD_eq_getD_getElem?] at h1 ⊢;rw[Array.getElem?_setIfInBounds];split
 ·rename_i e;subst e;split
  ·rfl
  rename_i hn;rw[Array.getElem?_eq_none (by omega)] at h1;cases h1
 exact h1
theorem vZ {W:Nat→Bool} {listed:Array Bool} {i:Nat} (hi:W i=false) (h:gg W (listed.setIfInBounds i true)):gg W listed:=by
 obtain ⟨j,h1,h2⟩:=h;refine ⟨j,?_,h2⟩;rw[Array.getD_eq_getD_getElem?] at h1 ⊢;rw[Array.getElem?_setIfInBounds] at h1;split at h1
 ·rename_i e;subst e;rw[hi] at h2;cases h2
 exact h1
def dn (P:Program) (ops:Array Oper) (S0 S:World→Prop) (W:Nat→Bool) (Q:ei→World→Prop):Nat→Array Bool→ei→World→Prop
 |0,listed,ρ,w=>Region.ready .any ops listed=[]∧Q ρ w
 |fuel+1,listed,ρ,w=>(Region.ready .any ops listed=[]→Q ρ w) ∧
   ∀i∈Region.ready .any ops listed,∀o,ops[i]?=some o→bL P ops (fun ρ' w'=>(S0 w'∧(gg W (listed.setIfInBounds i true)∨S w'))∧dn P ops S0 S W Q fuel (listed.setIfInBounds i true) ρ' w') [o] ρ w
theorem dn.any {P:Program} {n:Nat} {l:List Oper} {S0 S:World→Prop} {W:Nat→Bool} {Q:Exit→ei→World→Prop} (hd:ia n l=true):∀(fuel:Nat) (listed:Array Bool) (ρ:ei) (w:World) (a:Act),kD n a ρ →
  dn P l.toArray S0 S W (Q .normal) fuel listed ρ w→wpAny P .any l.toArray (Mk n Q) fuel listed a w
 |0,_,ρ,_,_,ha,h=>⟨h.1,ρ,ha,h.2⟩
 |fuel+1,listed,ρ,w,a,ha,h=>by
  refine ⟨fun h0=>⟨ρ,ha,h.1 h0⟩,fun i hi=>?_⟩;obtain ⟨_,o,ho,_⟩:=mem_ready.1 hi;have h2:=h.2 i hi o ho;have hdo:o.dst.all (fun d=>decide (d<n))=true:=List.all_eq_true.1 hd _ (by simpa using Array.mem_of_getElem? ho);unfold wpOp;simp only[ho];rw[vX ha _ _ (GX hd)];unfold bL at h2;split
  ·rename_i hw;rw[if_pos hw] at h2;exact .inl (h2.wp ha fun v w' ⟨_,h3⟩=>dn.any hd fuel _ _ _ _ (ha.put hdo v) h3)
  rename_i hw;rw[if_neg hw] at h2;exact dn.any hd fuel _ _ _ _ (ha.put hdo undef) h2.2
theorem E0 (ρ:ei) {x y:Option Nat} (v u:Value) (h:∀d,x=some d→y≠some d):updO (updO ρ x v) y u=updO (updO ρ y u) x v:=by
 cases x with
 |none=>rfl
 |some d=>
  cases y with
  |none=>rfl
  |some e=>
   have hne:d≠e:=fun he=>h d rfl (he▸rfl)
   funext t
   simp only[updO]
   by_cases h1:t=d
   ·subst h1;rw[gD _ _ hne,mK,mK]
   rw[gD _ _ h1]
   by_cases h2:t=e
   ·subst h2;rw[mK,mK]
   rw[gD _ _ h2,gD _ _ h2,gD _ _ h1]
theorem DP {ρ:ei} {ops:Array Oper} {o:Oper} {d:Option Nat} {v:Value} (h:∀e,d=some e→e ∉ o.looksAt ops):∀x∈o.op.operands,ev (updO ρ d v) x=ev ρ x:=by
 intro x hx;cases d with
 |none=>rfl
 |some e=>
  cases x with
  |tmp t=>
   have:t≠e:=fun he=>h e rfl (by
    subst he;exact List.mem_append_left _ (List.mem_filterMap.2 ⟨.tmp t,by simpa using hx,rfl⟩))
   exact gD _ _ this
  |_=>rfl
theorem oX {ρ:ei} {ops:Array Oper} {o:Oper} {d:Option Nat} {v:Value} (h:∀e,d=some e→e ∉ o.looksAt ops):eZ ops o (updO ρ d v)=eZ ops o ρ:=by
 cases d with
 |none=>rfl
 |some e=>
  unfold eZ;cases hg:o.guard with
  |none=>rfl
  |some gw=>
   obtain ⟨g,want⟩:=gw;dsimp only;cases ht:(ops[g]?).bind (fun o:Oper=>o.dst) with
   |none=>rfl
   |some t=>
    have hne:t≠e:=fun he=>h e rfl (by subst he;simp[Oper.looksAt,hg,ht]);have:updO ρ (some e) v t=ρ t:=gD _ _ hne;simp only[this]
def zD (P:Program) (ops:Array Oper) (S:World→Prop) (o:Oper) (v:Value) (ρ:ei):Prop:=
 (eZ ops o ρ=true∧∀w,S w→(execOp (ev ρ) o).run P w=.ok (.value v) w)∨(eZ ops o ρ=false∧v=undef)
theorem zD.ops {P:Program} {ops:Array Oper} {S:World→Prop} {o:Oper} {v:Value} {ρ:ei} {K:ei→World→Prop} {w:World} (h:zD P ops S o v ρ) (hS:S w) (hK:K (updO ρ o.dst v) w):bL P ops K [o] ρ w:=by
 unfold bL;rcases h with ⟨h1,h2⟩|⟨h1,rfl⟩
 ·rw[if_pos h1];unfold mJ;rw[h2 w hS];exact hK
 rw[if_neg (by simp[h1])];exact hK
theorem dn.first {P:Program} {ops:Array Oper} {S0 S:World→Prop} {W:Nat→Bool} {Q:ei→World→Prop} {i:Nat} {oi:Oper} {v:Value} (hi:ops[i]?=some oi) (hsel:∀(j:Nat) (o:Oper) cs b,ops[j]?=some o→o.op≠.select cs b)
  {Sx:World→Prop} {Cq0:Array Bool→Prop} (hWi:W i=false)
  (hC:∀listed (j:Nat) oj,Cq0 listed→ops[j]?=some oj→j≠i→(∀e∈oj.after,Region.binds .any e=true→e.on≠i)→Cq0 (listed.setIfInBounds j true)) (hX:∀listed w,Cq0 listed→S0 w→(gg W listed∨S w)→Sx w) :
  ∀(fuel:Nat) (listed:Array Bool) (ρ:ei) (w:World),
   (∀j oj,ops[j]?=some oj→j≠i→listed.getD j true=false→(∀e∈oj.after,Region.binds .any e=true→e.on≠i)→oi.apart ops oj=true) →
   i∈Region.ready .any ops listed→zD P ops Sx oi v ρ→Cq0 listed→S0 w→(gg W listed∨S w) →
   dn P ops S0 S W Q fuel (listed.setIfInBounds i true) (updO ρ oi.dst v) w→dn P ops S0 S W Q (fuel+1) listed ρ w:=by
 intro fuel;induction fuel with
 |zero=>
  intro listed ρ w _ hr hy hCl hS0 hS Hq0;refine ⟨fun h=>(by rw[h] at hr;cases hr),fun j hj o ho=>?_⟩
  by_cases hji:j=i
  ·subst hji;rw[hi] at ho;cases ho;exact hy.ops (hX _ _ hCl hS0 hS) ⟨⟨hS0,hS.imp og id⟩,Hq0⟩
  have:=ready_mono hj hji;rw[Hq0.1] at this;cases this
 |succ fuel ih=>
  intro listed ρ w hfree hr hy hCl hS0 hS Hq0;refine ⟨fun h=>(by rw[h] at hr;cases hr),fun j hj oj hoj=>?_⟩
  by_cases hji:j=i
  ·subst hji;rw[hi] at hoj;cases hoj;exact hy.ops (hX _ _ hCl hS0 hS) ⟨⟨hS0,hS.imp og id⟩,Hq0⟩
  obtain ⟨hjun,oj',hoj',hall⟩:=mem_ready.1 hj;rw[hoj] at hoj';cases hoj';have hnot:∀e∈oj.after,Region.binds .any e=true→e.on≠i:=fun e he hb heq=>by
   have h1:=hall e he hb;have h0:=(mem_ready.1 hr).1;rw[heq] at h1;rcases Nat.lt_or_ge i listed.size with h'|h'
   ·simp[h'] at h0 h1;rw[h0] at h1;cases h1
   simp[Array.getElem?_eq_none h'] at h1
  have h1:=Hq0.2 j (ready_mono hj hji) oj hoj;obtain ⟨a1,a2,a3⟩:=Oper.apart_spec (hfree j oj hoj hji hjun hnot);have hwt:=oX (ρ:=ρ) (v:=v) (ops:=ops) (o:=oj) (d:=oi.dst) a1;have hex:execOp (ev (updO ρ oi.dst v)) oj=execOp (ev ρ) oj:=execOp_congr oj (fun cs b=>hsel j oj cs b hoj) (DP a1);have hfree':∀k ok,ops[k]?=some ok→k≠i→(listed.setIfInBounds j true).getD k true=false →
    (∀e∈ok.after,Region.binds .any e=true→e.on≠i)→oi.apart ops ok=true:=fun k ok hk hki hun hno=>by
   refine hfree k ok hk hki ?_ hno
   by_cases hjk:j=k
   ·subst hjk;exact hjun
   rw[getD_set_ne true hjk] at hun;exact hun
  have keep:∀u,zD P ops Sx oi v (updO ρ oj.dst u):=fun u=>by
   unfold zD at *;rw[oX a3,execOp_congr oi (fun cs b=>hsel i oi cs b hi) (DP a3)];exact hy
  have next:∀u w',((S0 w'∧(gg W ((listed.setIfInBounds i true).setIfInBounds j true)∨S w'))∧dn P ops S0 S W Q fuel ((listed.setIfInBounds i true).setIfInBounds j true) (updO (updO ρ oi.dst v) oj.dst u) w') →
    (S0 w'∧(gg W (listed.setIfInBounds j true)∨S w'))∧dn P ops S0 S W Q (fuel+1) (listed.setIfInBounds j true) (updO ρ oj.dst u) w':=by
   rintro u w' ⟨h2,h3⟩;have hS':gg W (listed.setIfInBounds j true)∨S w':=h2.2.imp (fun h=>by
    rw[Array.setIfInBounds_comm _ _ (Ne.symm hji)] at h;exact vZ hWi h) id
   refine ⟨⟨h2.1,hS'⟩,ih _ _ _ hfree' (ready_mono hr (Ne.symm hji)) (keep u) (hC _ _ _ hCl hoj hji hnot) h2.1 hS' ?_⟩;rw[←E0 ρ v u a2,Array.setIfInBounds_comm _ _ hji];exact h3
  unfold bL at h1 ⊢;rw[hwt] at h1;split
  ·rename_i hw;rw[if_pos hw] at h1;unfold mJ at h1 ⊢;rw[hex] at h1;split
   ·rename_i heq;rw[heq] at h1;exact next _ _ h1
   ·rename_i heq;rw[heq] at h1;exact next _ _ h1
   ·rename_i heq;rw[heq] at h1;exact h1.mono fun e w'' ⟨u,he,hK⟩=>⟨u,he,next _ _ hK⟩
   rename_i h4 h5 h6;split at h1
   ·rename_i heq;exact (h4 _ _ heq).elim
   ·rename_i heq;exact (h5 _ heq).elim
   ·rename_i heq;exact (h6 _ _ _ heq).elim
   exact h1
  rename_i hw;rw[if_neg hw] at h1;exact next _ _ h1
def jW (l:List Oper) (i:Nat) (W:Nat→Bool):Bool:=(List.range l.length).all fun j=>j == i||!W j||(match l[j]? with|some oj=>oj.after.any (fun e=>Region.binds .any e&&e.on == i)|none=>true)
theorem zE {l:List Oper} {i:Nat} {W:Nat→Bool} (h:jW l i W=true) (j:Nat) (oj:Oper) (hj:l.toArray[j]?=some oj) (hne:j≠i) (hw:W j=true):∃e∈oj.after,Region.binds .any e=true∧e.on=i:=by
 simp only[jW,List.all_eq_true,List.mem_range] at h;have hj':l[j]?=some oj:=by simpa using hj
 have:=h j (List.getElem?_eq_some_iff.1 hj').1;simp only[hj',hw,Bool.not_true,Bool.or_false,Bool.or_eq_true,beq_iff_eq,hne,false_or] at this;obtain ⟨e,he,hb⟩:=Array.any_eq_true'.1 this;simp only[Bool.and_eq_true,beq_iff_eq] at hb;exact ⟨e,he,hb.1,hb.2⟩
def ib (W:Nat→Bool) (listed:Array Bool):Bool:=(List.range listed.size).all fun j=>!(listed.getD j false&&W j)
theorem mM {W:Nat→Bool} {listed:Array Bool} (h:ib W listed=true):¬gg W listed:=fun ⟨j,h1,h2⟩=>by
 have hj:j<listed.size:=by
  rcases Nat.lt_or_ge j listed.size with h|h
  ·exact h
  rw[Array.getD_eq_getD_getElem?,Array.getElem?_eq_none h] at h1;cases h1
 have:=List.all_eq_true.1 h j (List.mem_range.2 hj);rw[h1,h2] at this;cases this
theorem mN {l:List Oper} {i:Nat} {W:Nat→Bool} (hW:jW l i W=true) (listed:Array Bool) (j:Nat) (oj:Oper) (hc:¬gg W listed) (hj:l.toArray[j]?=some oj) (hne:j≠i) (hno:∀e∈oj.after,Region.binds .any e=true→e.on≠i):¬gg W (listed.setIfInBounds j true):=fun h=>by
 refine hc (vZ ?_ h);cases hw:W j with
 |false=>rfl
 |true=>
  obtain ⟨e,he,hb,hon⟩:=zE hW j oj hj hne hw;exact absurd hon (hno e he hb)
section
variable {P:Program} {n:Nat} {l:List Oper} {S0 S:World→Prop} {W:Nat→Bool} {Q:ei→World→Prop} {fuel:Nat} {listed:Array Bool} {ρ:ei} {w:World}
variable {d ty:Nat} {op:Op} {pos:String} {af:Array Edge}
theorem WP.regionDraw (S0 S:World→Prop) (W:Nat→Bool) {Q:Exit→ei→World→Prop} {id:Nat} (hm:P.follows .mixedOrders=true) (hd:ia n l=true) (h:∀w',w'=w.drew→dn P l.toArray S0 S W (Q .normal) l.length (Array.replicate l.length false) ρ w'):WP P n (.region id l.toArray true) Q ρ w:=fun a ha=>
 wp_region_any hm (by have:=dn.any (S0:=S0) (S:=S) (W:=W) hd _ _ _ _ a ha (h _ rfl);simpa using this)
theorem dn.take {i:Nat} {v:Value} (hi:l[i]?=some (Oper.mk (some d) op ty pos af none)) (hs:Region.noSelect l.toArray=true) (hf:Region.free .any l.toArray listed i=true)
  (hr:(Region.ready .any l.toArray listed).contains i=true) (hW:jW l i W=true) (hWi:W i=false) (hcl:ib W listed=true) (hS0:S0 w) (hS:S w) (hy:∀w,S w→(execOp (ev ρ) (Oper.mk (some d) op ty pos af none)).run P w=.ok (.value v) w)
  (h:dn P l.toArray S0 S W Q fuel (listed.setIfInBounds i true) (upd ρ d v) w):dn P l.toArray S0 S W Q (fuel+1) listed ρ w:=
 dn.first (oi:=Oper.mk (some d) op ty pos af none) (by simpa using hi) (Region.noSelect_spec hs) (Sx:=S) (Cq0:=fun listed=>¬gg W listed) hWi (mN hW) (fun _ _ h1 _ h2=>h2.resolve_left h1) fuel listed ρ w (Region.free_spec (by simpa using hi) hf) (by simpa using hr) (.inl ⟨rfl,hy⟩) (mM hcl) hS0 (.inr hS) h
theorem dn.takeK {i:Nat} {v:Value} (hi:l[i]?=some (Oper.mk (some d) op ty pos af none)) (hs:Region.noSelect l.toArray=true) (hf:Region.free .any l.toArray listed i=true)
  (hr:(Region.ready .any l.toArray listed).contains i=true) (hWi:W i=false) (hS0:S0 w) (hS:gg W listed∨S w) (hy:∀w,S0 w→(execOp (ev ρ) (Oper.mk (some d) op ty pos af none)).run P w=.ok (.value v) w)
  (h:dn P l.toArray S0 S W Q fuel (listed.setIfInBounds i true) (upd ρ d v) w):dn P l.toArray S0 S W Q (fuel+1) listed ρ w:=
 dn.first (oi:=Oper.mk (some d) op ty pos af none) (by simpa using hi) (Region.noSelect_spec hs) (Sx:=S0) (Cq0:=fun _=>True) hWi (fun _ _ _ _ _ _ _=>trivial) (fun _ _ _ h _=>h) fuel listed ρ w (Region.free_spec (by simpa using hi) hf) (by simpa using hr) (.inl ⟨rfl,hy⟩) trivial hS0 hS h
theorem dn.takeT {i j s:Nat} {b t:Bool} {v:Value} (hi:l[i]?=some (Oper.mk (some d) op ty pos af (some (j,b)))) (hg:(l[j]?).bind (fun o:Oper=>o.dst)=some s) (hv:ρ s=.bool t) (ht:t=b) (hs:Region.noSelect l.toArray=true) (hf:Region.free .any l.toArray listed i=true)
  (hr:(Region.ready .any l.toArray listed).contains i=true) (hW:jW l i W=true) (hWi:W i=false) (hcl:ib W listed=true) (hS0:S0 w) (hS:S w) (hy:∀w,S w→(execOp (ev ρ) (Oper.mk (some d) op ty pos af none)).run P w=.ok (.value v) w)
  (h:dn P l.toArray S0 S W Q fuel (listed.setIfInBounds i true) (upd ρ d v) w):dn P l.toArray S0 S W Q (fuel+1) listed ρ w:=
 dn.first (oi:=Oper.mk (some d) op ty pos af (some (j,b))) (by simpa using hi) (Region.noSelect_spec hs) (Sx:=S) (Cq0:=fun listed=>¬gg W listed) hWi (mN hW) (fun _ _ h1 _ h2=>h2.resolve_left h1) fuel listed ρ w (Region.free_spec (by simpa using hi) hf) (by simpa using hr)
  (.inl ⟨by simp only[eZ,List.getElem?_toArray,hg,hv,ht];simp,hy⟩) (mM hcl) hS0 (.inr hS) h
theorem dn.takeF {i j s:Nat} {b t:Bool} (hi:l[i]?=some (Oper.mk (some d) op ty pos af (some (j,b)))) (hg:(l[j]?).bind (fun o:Oper=>o.dst)=some s) (hv:ρ s=.bool t) (ht:t=!b) (hs:Region.noSelect l.toArray=true) (hf:Region.free .any l.toArray listed i=true)
  (hr:(Region.ready .any l.toArray listed).contains i=true) (hW:jW l i W=true) (hWi:W i=false) (hcl:ib W listed=true) (hS0:S0 w) (hS:S w)
  (h:dn P l.toArray S0 S W Q fuel (listed.setIfInBounds i true) (upd ρ d undef) w):dn P l.toArray S0 S W Q (fuel+1) listed ρ w:=
 dn.first (oi:=Oper.mk (some d) op ty pos af (some (j,b))) (by simpa using hi) (Region.noSelect_spec hs) (Sx:=S) (Cq0:=fun listed=>¬gg W listed) hWi (mN hW) (fun _ _ h1 _ h2=>h2.resolve_left h1) fuel listed ρ w (Region.free_spec (by simpa using hi) hf) (by simpa using hr)
  (.inr ⟨by simp only[eZ,List.getElem?_toArray,hg,hv,ht];cases b<;>simp,rfl⟩) (mM hcl) hS0 (.inr hS) h
theorem dn.one {i:Nat} {o:Oper} (hi:l[i]?=some o) (hr:Region.ready .any l.toArray listed=[i])
  (h:bL P l.toArray (fun ρ' w'=>(S0 w'∧(gg W (listed.setIfInBounds i true)∨S w'))∧dn P l.toArray S0 S W Q fuel (listed.setIfInBounds i true) ρ' w') [o] ρ w):dn P l.toArray S0 S W Q (fuel+1) listed ρ w:=by
 refine ⟨fun h0=>(by rw[hr] at h0;cases h0),fun j hj o' ho'=>?_⟩;rw[hr,List.mem_singleton] at hj;subst hj;have:o'=o:=by
  rw[List.getElem?_toArray,hi] at ho';exact (Option.some.inj ho').symm
 subst this;exact h
theorem dn.done (hr:Region.ready .any l.toArray listed=[]) (h:Q ρ w):dn P l.toArray S0 S W Q fuel listed ρ w:=by
 cases fuel with
 |zero=>exact ⟨hr,h⟩
 |succ fuel=>exact ⟨fun _=>h,by rw[hr];intro i hi;cases hi⟩
end
section
variable {P:Program} {ops:Array Oper} {K:ei→World→Prop} {ρ:ei} {w:World} {rest:List Oper}
variable {d ty:Nat} {pos:String} {af:Array Edge} {x y:Operand} {t e:TypeId} {I:bT} {O:O4} {E:World}
theorem Fn.ofCalls {f:FuncId} {fn:Func} {c:Code} {args:Array Value} {R:Value→World→Prop} (hf:P.funcs[f]?=some fn) (hb:fn.body=some c) (hn:fn.name≠"runtime.NumGoroutine")
  (h:Calls P f args w fun e w'=>∃v,e=.returned v∧R v w'):Fn P f args w R:=⟨⟨fn,c,hf,hb,hn⟩,h⟩
theorem SL.below {w':World} (h:SL I O E w) (hb:Go.RowKit.Below w.heap.size w w'):SL I O E w':=
 ⟨hb.os.trans h.os,hb.output.trans h.output,hb.tape.trans h.tape,fun b o hI=>by rw[hb.block b (eE (h.pers b o hI))];exact h.pers b o hI,
  fun x hx=>by rw[hb.block x.1 (eE (h.j x hx))];exact h.j x hx,h.nodup,h.apart,h.base,h.flat,h.oflat⟩
theorem bL.rangeT {s:ByteArray} (ht:P.underlying t=some .string) (hS:SL I O E w) (hx:ev ρ x=.string s)
  (h:∀b w',SL I ((b,.stringIter s 0)::O) E w'→bL P ops K rest (upd ρ d (.pointer (some ⟨b,0,none⟩))) w'):bL P ops K (Oper.mk (some d) (.range t x) ty pos af none::rest) ρ w:=by
 refine bL.step rfl ?_;unfold mJ;have:(execOp (ev ρ) (Oper.mk (some d) (.range t x) ty pos af none)).run P w=.ok (.value (.pointer (some ⟨w.heap.size,0,none⟩))) (w.alloc (.stringIter s 0)):=by
  simp[execOp,Instr.range,hx,run_underlying ht]
 rw[this];exact h _ _ (hS.alloc _)
theorem mO {s:ByteArray} {p b:Nat} (hb:w.heap[b]?=some (.stringIter s p)):(getObj b).run P w=.ok (.stringIter s p) w:=by
 unfold getObj;rw[Sem.run,hb];rfl
theorem sQ {s:ByteArray} {p b:Nat} (hb:w.heap[b]?=some (.stringIter s p)) (o:Obj):(setObj b o).run P w=.ok () { w with heap:=w.heap.setIfInBounds b o }:=by
 unfold setObj;rw[Sem.run,hb];rfl
theorem bL.nextT {s:ByteArray} {p b:Nat} (hS:SL I ((b,.stringIter s p)::O) E w) (hx:ev ρ x=.pointer (some ⟨b,0,none⟩)) (hp:p<s.size)
  (h:∀w',SL I ((b,.stringIter s (p+(Utf8.decode s p).2))::O) E w'→bL P ops K rest (upd ρ d (.tuple [.bool true,.int .i64 p,.int .i32 (Utf8.decode s p).1].toArray)) w'):bL P ops K (Oper.mk (some d) (.next x true) ty pos af none::rest) ρ w:=by
 have hb:=hS.j _ (.head _);simp only at hb;refine bL.step rfl ?_;unfold mJ;have:(execOp (ev ρ) (Oper.mk (some d) (.next x true) ty pos af none)).run P w=.ok (.value (.tuple [.bool true,.int .i64 p,.int .i32 (Utf8.decode s p).1].toArray)) { w with heap:=w.heap.setIfInBounds b (.stringIter s (p+(Utf8.decode s p).2)) }:=by
  simp[execOp,Instr.next,hx,mO hb,sQ hb,Result.andThen,hp,goInt]
 rw[this];refine h _ (hS.turn rfl rfl rfl ?_ ?_)
 ·simp[eE hb]
 intro k hk;simp[Array.getElem?_setIfInBounds,Ne.symm hk]
theorem bL.nextTover {s:ByteArray} {p b:Nat} (hS:SL I ((b,.stringIter s p)::O) E w) (hx:ev ρ x=.pointer (some ⟨b,0,none⟩)) (hp:¬p<s.size)
  (h:bL P ops K rest (upd ρ d (.tuple [.bool false].toArray)) w):bL P ops K (Oper.mk (some d) (.next x true) ty pos af none::rest) ρ w:=by
 have hb:=hS.j _ (.head _);simp only at hb;refine bL.step rfl ?_;unfold mJ;have:(execOp (ev ρ) (Oper.mk (some d) (.next x true) ty pos af none)).run P w=.ok (.value (.tuple [.bool false].toArray)) w:=by
  simp[execOp,Instr.next,hx,mO hb,Result.andThen,hp]
 rw[this];exact h
section
variable {n:Nat} {R:Value→World→Prop}
end
theorem xr {s:ByteArray} {p:Nat} {b:UInt8} (h:s.data[p]?=some b) (hb:b<128):Utf8.decode s p=(b.toNat,1):=by
 unfold Utf8.decode;have h1:s.get! p=b:=by
  show s.data[p]! = b;rw[getElem!_def,h]
 have h2:b.toNat<128:=hb;simp[h1,h2]
theorem bL.guardU {dd:Option Nat} {op:Op} {j s:Nat} {b:Bool} (hs:(ops[j]?).bind (fun o:Oper=>o.dst)=some s) (hv:ρ s=undef)
  (k:bL P ops K rest (updO ρ dd undef) w):bL P ops K (Oper.mk dd op ty pos af (some (j,b))::rest) ρ w:=by
 unfold bL;rw[if_neg (by simp only[eZ,hs,hv];simp[undef])];exact k
theorem SL.more {w':World} (h:SL I O E w) (h1:w'.os=w.os) (h2:w'.output=w.output) (h3:w'.tape=w.tape) (h4:∀k,k<w.heap.size→w'.heap[k]?=w.heap[k]?):SL I O E w':=
 ⟨h1.trans h.os,h2.trans h.output,h3.trans h.tape,fun b o hI=>by rw[h4 b (eE (h.pers b o hI))];exact h.pers b o hI,
  fun x hx=>by rw[h4 x.1 (eE (h.j x hx))];exact h.j x hx,h.nodup,h.apart,h.base,h.flat,h.oflat⟩
end
inductive AV where
 |any
 |bool (b:Bool)
 |int (k:IntKind) (n:Int)
 |str (s:ByteArray)
 |agg (cs:List AV)
 |tup (vs:List AV)
 |fro (k:Nat) (rows:List (List AV))
 |j (id n:Nat)
 |po (id off:Nat)
 |os (id off n:Nat)
 |pf (cs:List AV)
 |raw (v:Value)
 |fn (f:FuncId) (first captured:List AV)
 |ifc (t:TypeId) (v:AV)
 |ext (p:bT→Value→Prop)
 deriving Inhabited
abbrev AV.n:AV:=.raw (.slice none 0 0)
abbrev AV.e:AV:=.str ⟨#[]⟩
abbrev AV.i (n:Int):AV:=.int .i64 n
structure G where
 k:bT
 h:Nat→Option (Option Nat × Nat)
structure G.le (I J:G):Prop where
 k:I.k.le J.k
 h:∀i x,I.h i=some x→J.h i=some x
theorem G.le.refl (I:G):I.le I:=⟨bT.le.refl _,fun _ _ h=>h⟩
theorem G.le.trans {I J K:G} (h:I.le J) (k:J.le K):I.le K:=⟨h.k.trans k.k,fun i x hi=>k.h i x (h.h i x hi)⟩
def GR (I:bT) (b i:Nat) (v:Value):Prop:=∃c T f,I b=some (.cells c T f)∧c[i]?=some v
theorem GR.mono {I J:bT} (h:I.le J) {b i:Nat} {v:Value} (hk:GR I b i v):GR J b i v:=let ⟨c,T,f,h1,h2⟩:=hk;⟨c,T,f,h _ _ h1,h2⟩
theorem GR.at_ {I:bT} {b i:Nat} {v:Value} (h:GR I b i v) (O:List (Nat × Obj)):At I O b i v:=.inl h
def adr (b:Option Nat):Option Addr:=b.map fun b=>⟨b,0,none⟩
mutual
def bW (I:G):AV→Value→Prop
 |.any,_=>True
 |.bool b,v=>v=.bool b
 |.int k n,v=>v=.int k n
 |.str s,v=>v=.string s
 |.agg cs,v=>∃vs:List Value,v=.agg vs.toArray∧RepL I cs vs
 |.tup cs,v=>∃vs:List Value,v=.tuple vs.toArray∧RepL I cs vs
 |.fro k rows,v=>∃a n c,v=.slice a n c∧n=rows.length∧n≤c∧(a=none→c=0)∧RepR I k a 0 rows
 |.j id n,v=>∃b c,I.h id=some (b,c)∧v=.slice (adr b) n c
 |.po id off,v=>∃b c,I.h id=some (some b,c)∧v=.pointer (some ⟨b,off,none⟩)
 |.os id off n,v=>∃b c,I.h id=some (some b,c)∧v=.slice (some ⟨b,off,none⟩) n n
 |.pf cs,v=>∃b off vs,v=.pointer (some ⟨b,off,none⟩)∧RepL I cs vs∧∀(j:Nat) u,vs[j]?=some u→GR I.k b (off+j) u
 |.raw w,v=>v=w
 |.fn f a c,v=>∃vs us:List Value,v=.func (.func f) vs.toArray us.toArray∧RepL I a vs∧RepL I c us
 |.ifc t x,v=>∃u,v=.iface t u∧bW I x u
 |.ext p,v=>v.oneCell'=true∧∀J:bT,I.k.le J→p J v
def RepL (I:G):List AV→List Value→Prop
 |[],vs=>vs=[]
 |x::xs,vs=>∃v us,vs=v::us∧bW I x v∧RepL I xs us
def RepR (I:G) (k:Nat) (a:Option Addr) (j:Nat):List (List AV)→Prop
 |[]=>True
 |r::rs=>(∃b off vs,a=some ⟨b,off,none⟩∧vs.length=k∧RepL I r vs∧∀(i:Nat) u,vs[i]?=some u→GR I.k b (off+j*k+i) u)∧RepR I k a (j+1) rs
end
mutual
theorem bW.mono {I J:G} (h:I.le J):∀(x:AV) (v:Value),bW I x v→bW J x v
 |.any,_,_=>trivial
 |.bool _,_,e=>e
 |.int _ _,_,e=>e
 |.str _,_,e=>e
 |.agg cs,_,⟨vs,e,h1⟩=>⟨vs,e,RepL.mono h cs vs h1⟩
 |.tup cs,_,⟨vs,e,h1⟩=>⟨vs,e,RepL.mono h cs vs h1⟩
 |.fro k rows,_,⟨a,n,c,e,h1,h2,h3,h4⟩=>⟨a,n,c,e,h1,h2,h3,RepR.mono h k a 0 rows h4⟩
 |.j id _,_,⟨b,c,h1,e⟩=>⟨b,c,h.h _ _ h1,e⟩
 |.po id _,_,⟨b,c,h1,e⟩=>⟨b,c,h.h _ _ h1,e⟩
 |.os id _ _,_,⟨b,c,h1,e⟩=>⟨b,c,h.h _ _ h1,e⟩
 |.pf cs,_,⟨b,off,vs,e,h1,h2⟩=>⟨b,off,vs,e,RepL.mono h cs vs h1,fun j u hj=>(h2 j u hj).mono h.k⟩
 |.raw _,_,e=>e
 |.fn _ a c,_,⟨vs,us,e,h1,h2⟩=>⟨vs,us,e,RepL.mono h a vs h1,RepL.mono h c us h2⟩
 |.ifc _ x,_,⟨u,e,h1⟩=>⟨u,e,bW.mono h x u h1⟩
 |.ext _,_,⟨h1,h2⟩=>⟨h1,fun J hJ=>h2 J (h.k.trans hJ)⟩
theorem RepL.mono {I J:G} (h:I.le J):∀(x:List AV) (v:List Value),RepL I x v→RepL J x v
 |[],_,e=>e
 |x::xs,_,⟨v,us,e,h1,h2⟩=>⟨v,us,e,bW.mono h x v h1,RepL.mono h xs us h2⟩
theorem RepR.mono {I J:G} (h:I.le J) (k:Nat) (a:Option Addr) (j:Nat):∀(rows:List (List AV)),RepR I k a j rows→RepR J k a j rows
 |[],_=>trivial
 |r::rs,⟨⟨b,off,vs,e,h1,h2,h3⟩,h4⟩=>⟨⟨b,off,vs,e,h1,RepL.mono h r vs h2,fun i u hi=>(h3 i u hi).mono h.k⟩,RepR.mono h k a (j+1) rs h4⟩
end
theorem RepL.length {I:G}:∀{xs:List AV} {vs:List Value},RepL I xs vs→vs.length=xs.length
 |[],_,e=>by simp[RepL] at e;simp[e]
 |x::xs,_,⟨v,us,e,_,h2⟩=>by subst e;simp[RepL.length h2]
theorem RepL.get {I:G}:∀{xs:List AV} {vs:List Value},RepL I xs vs→∀{j:Nat} {x:AV},xs[j]?=some x→∃v,vs[j]?=some v∧bW I x v
 |[],_,_,j,x,hj=>by simp at hj
 |y::ys,_,⟨v,us,e,h1,h2⟩,j,x,hj=>by
  subst e;cases j with
  |zero=>simp at hj;subst hj;exact ⟨v,rfl,h1⟩
  |succ j=>simp at hj;simpa using RepL.get h2 hj
theorem RepL.take {I:G}:∀{xs:List AV} {vs:List Value},RepL I xs vs→∀n,RepL I (xs.take n) (vs.take n)
 |[],_,e,n=>by simp[RepL] at e;simp[e,RepL]
 |y::ys,_,⟨v,us,e,h1,h2⟩,n=>by
  subst e;cases n with
  |zero=>simp[RepL]
  |succ n=>exact ⟨v,us.take n,by simp,h1,RepL.take h2 n⟩
theorem RepL.drop {I:G}:∀{xs:List AV} {vs:List Value},RepL I xs vs→∀n,RepL I (xs.drop n) (vs.drop n)
 |[],_,e,n=>by simp[RepL] at e;simp[e,RepL]
 |y::ys,_,⟨v,us,e,h1,h2⟩,n=>by
  subst e;cases n with
  |zero=>exact ⟨v,us,rfl,h1,h2⟩
  |succ n=>simpa using RepL.drop h2 n
theorem RepL.append {I:G}:∀{xs ys:List AV} {vs us:List Value},RepL I xs vs→RepL I ys us→RepL I (xs++ys) (vs++us)
 |[],_,_,_,e,h=>by simp[RepL] at e;simpa [e] using h
 |y::ys,_,_,_,⟨v,us,e,h1,h2⟩,h=>by subst e;exact ⟨v,_,rfl,h1,RepL.append h2 h⟩
theorem RepR.get {I:G} {k:Nat} {a:Option Addr}:∀{rows:List (List AV)} {j0:Nat},RepR I k a j0 rows→∀{j:Nat} {r:List AV},rows[j]?=some r →
  ∃b off vs,a=some ⟨b,off,none⟩∧vs.length=k∧RepL I r vs∧∀(i:Nat) u,vs[i]?=some u→GR I.k b (off+(j0+j)*k+i) u
 |[],_,_,j,r,hj=>by simp at hj
 |r::rs,j0,⟨h1,h2⟩,j,r',hj=>by
  cases j with
  |zero=>simp at hj;subst hj;simpa using h1
  |succ j=>
   simp at hj;have:=RepR.get h2 hj;have e:j0+1+j=j0+(j+1):=by omega
   rwa [e] at this
theorem RepR.intro {I:G} {k:Nat} {a:Option Addr}:∀{rows:List (List AV)} {j0:Nat},(∀(j:Nat) (r:List AV),rows[j]?=some r →
  ∃b off vs,a=some ⟨b,off,none⟩∧vs.length=k∧RepL I r vs∧∀(i:Nat) u,vs[i]?=some u→GR I.k b (off+(j0+j)*k+i) u)→RepR I k a j0 rows
 |[],_,_=>trivial
 |r::rs,j0,h=>⟨by simpa using h 0 r rfl,RepR.intro fun j r' hj=>by
   have:=h (j+1) r' (by simpa using hj);have e:j0+1+j=j0+(j+1):=by omega
   rwa [e]⟩
theorem RepL.one {I:G} {x:AV} {v:Value} (h:bW I x v):RepL I [x] [v]:=⟨v,[],rfl,h,rfl⟩
def AV.cell:AV→Bool
 |.any | .agg _ | .tup _=>false
 |.raw v=>v.oneCell'
 |_=>true
theorem AV.cell_rep {I:G} {x:AV} {v:Value} (h:bW I x v) (hc:x.cell=true):v.oneCell'=true:=by
 cases x<;>simp only[bW,AV.cell] at h hc
 all_goals first
  |(cases hc;done)
  |exact h.1
  |(subst h;first|rfl|exact hc)
  |(obtain ⟨_,_,_,e,_⟩:=h;subst e;rfl)
  |(obtain ⟨_,_,e,_⟩:=h;subst e;rfl)
  |(obtain ⟨_,_,_,e⟩:=h;subst e;rfl)
  |(obtain ⟨_,e,_⟩:=h;subst e;rfl)
abbrev aU:=Nat→AV
def fy (I:G) (e:aU) (ρ:ei):Prop:=∀t,bW I (e t) (ρ t)
def bB (e:aU) (d:Nat) (v:AV):aU:=fun t=>bif Nat.beq t d then v else e t
def GY (e:aU) (d:Option Nat) (v:AV):aU:=match d with|some d=>bB e d v|none=>e
def bd (e:aU):Operand→AV
 |.tmp t=>e t
 |.const (.bool b)=>.bool b
 |.const (.int k n)=>.int k n
 |.const (.string s)=>.str s
 |.const v=>.raw v
 |.global g=>.raw (.pointer (some ⟨g,0,none⟩))
 |.func f=>.fn f [] []
theorem fy.upd {I:G} {e:aU} {ρ:ei} (h:fy I e ρ) (d:Nat) {x:AV} {v:Value} (hx:bW I x v):fy I (bB e d x) (upd ρ d v):=fun t=>by
 unfold bB Go.Proofs.YtbbonnfjealmpaaGreatDoor.upd;cases Nat.beq t d
 ·exact h t
 exact hx
theorem fy.updO {I:G} {e:aU} {ρ:ei} (h:fy I e ρ) (d:Option Nat) {x:AV} {v:Value} (hx:bW I x v):fy I (GY e d x) (updO ρ d v):=by
 cases d with
 |none=>exact h
 |some d=>exact h.upd d hx
theorem fy.ev {I:G} {e:aU} {ρ:ei} (h:fy I e ρ):∀x,bW I (bd e x) (ev ρ x)
 |.tmp t=>h t
 |.const v=>by cases v<;>exact rfl
 |.global _=>rfl
 |.func _=>⟨[],[],rfl,rfl,rfl⟩
theorem fy.mono {I J:G} {e:aU} {ρ:ei} (hl:I.le J) (h:fy I e ρ):fy J e ρ:=fun t=>bW.mono hl _ _ (h t)
theorem fy.evs {I:G} {e:aU} {ρ:ei} (h:fy I e ρ):∀l:List Operand,RepL I (l.map (bd e)) (l.map (Go.Proofs.YtbbonnfjealmpaaGreatDoor.ev ρ))
 |[]=>rfl
 |x::l=>⟨_,_,rfl,h.ev x,h.evs l⟩
inductive bC where
 |cells (T:TypeId) (cs:List AV)
 |u (k:Nat) (T:TypeId) (cs:List AV)
 |iter (s:ByteArray) (p:Nat)
 |heap (p:List (Nat × Obj)→Prop)
 |heapG (p:G→List (Nat × Obj)→Prop) (hp:∀I J L,G.le I J→p I L→p J L)
 deriving Inhabited
abbrev OL:=List (Nat × bC)
def sR (I:G) (x:Nat × bC) (L:List (Nat × Obj)):Prop:=
 match x.2 with
 |.cells T cs=>∃b c vs,I.h x.1=some (some b,c)∧RepL I cs vs∧(∀u∈vs,u.oneCell'=true)∧L=[(b,.cells vs.toArray T (0,0))]
 |.u k T cs=>∃b c n vs,I.h x.1=some (b,c)∧RepL I cs vs∧(∀u∈vs,u.oneCell'=true)∧fI k T (adr b) n c vs L
 |.iter s p=>∃b c,I.h x.1=some (some b,c)∧L=[(b,.stringIter s p)]
 |.heap p=>p L
 |.heapG p _=>p I L
def cO (I:G):OL→List (Nat × Obj)→Prop
 |[],L=>L=[]
 |x::xs,L=>∃A B,L=A++B∧sR I x A∧cO I xs B
theorem sR.mono {I J:G} (h:I.le J) {x:Nat × bC} {L:List (Nat × Obj)} (hx:sR I x L):sR J x L:=by
 obtain ⟨i,o⟩:=x;cases o<;>simp only[sR] at *
 ·obtain ⟨b,c,vs,h1,h2,h3⟩:=hx;exact ⟨b,c,vs,h.h _ _ h1,RepL.mono h _ _ h2,h3⟩
 ·obtain ⟨b,c,n,vs,h1,h2,h3⟩:=hx;exact ⟨b,c,n,vs,h.h _ _ h1,RepL.mono h _ _ h2,h3⟩
 ·obtain ⟨b,c,h1,h2⟩:=hx;exact ⟨b,c,h.h _ _ h1,h2⟩
 ·exact hx
 rename_i p hp;exact hp _ _ _ h hx
theorem cO.mono {I J:G} (h:I.le J):∀{O:OL} {L:List (Nat × Obj)},cO I O L→cO J O L
 |[],_,e=>e
 |_::_,_,⟨A,B,e,h1,h2⟩=>⟨A,B,e,h1.mono h,cO.mono h h2⟩
theorem cO.append {I:G}:∀{O O':OL} {L:List (Nat × Obj)},cO I (O++O') L↔∃A B,L=A++B∧cO I O A∧cO I O' B
 |[],O',L=>⟨fun h=>⟨[],L,rfl,rfl,h⟩,fun ⟨A,B,e,h1,h2⟩=>by
   have h1:A=[]:=h1;subst h1;subst e;exact h2⟩
 |x::O,O',L=>by
  constructor
  ·rintro ⟨A,B,e,h1,h2⟩;obtain ⟨Cq0,Dq0,e2,h3,h4⟩:=cO.append.1 h2;exact ⟨A++Cq0,Dq0,by simp[e,e2],⟨A,Cq0,rfl,h1,h3⟩,h4⟩
  rintro ⟨A,B,e,⟨Cq0,Dq0,e2,h1,h2⟩,h3⟩;exact ⟨Cq0,Dq0++B,by simp[e,e2],h1,cO.append.2 ⟨Dq0,B,rfl,h2,h3⟩⟩
def iT (I:G) (O:OL) (F:List (Nat × Obj)) (E w:World):Prop:=
 (∃top,∀i,top≤i→I.h i=none)∧∃L,cO I O L∧SL I.k (L++F) E w
inductive dI:OL→Nat→bC→OL→Prop
 |head {i o O}:dI ((i,o)::O) i o O
 |tail {x O i o O'}:dI O i o O'→dI (x::O) i o (x::O')
inductive gc:OL→Nat→bC→bC→OL→Prop
 |head {i o o' O}:gc ((i,o)::O) i o o' ((i,o')::O)
 |tail {x O i o o' O'}:gc O i o o' O'→gc (x::O) i o o' (x::O')
theorem dI.rep {I:G} {O O':OL} {i:Nat} {o:bC} (h:dI O i o O'):∀{L},cO I O L→∃A B,L.Perm (A++B)∧sR I (i,o) A∧cO I O' B:=by
 induction h with
 |head=>rintro L ⟨A,B,e,h1,h2⟩;exact ⟨A,B,e▸.refl _,h1,h2⟩
 |tail h ih=>
  rintro L ⟨A,B,e,h1,h2⟩;obtain ⟨Cq0,Dq0,hp,h3,h4⟩:=ih h2;refine ⟨Cq0,A++Dq0,?_,h3,⟨A,Dq0,rfl,h1,h4⟩⟩;subst e;refine (hp.append_left A).trans ?_;rw[←List.append_assoc,←List.append_assoc];exact List.perm_append_comm.append_right Dq0
theorem gc.rep {I:G} {O O':OL} {i:Nat} {o o':bC} (h:gc O i o o' O'):∀{L},cO I O L→∃A B,L.Perm (A++B)∧sR I (i,o) A ∧
  ∀{J:G} {A'},I.le J→sR J (i,o') A'→∃L',cO J O' L'∧L'.Perm (A'++B):=by
 induction h with
 |head=>rintro L ⟨A,B,e,h1,h2⟩;exact ⟨A,B,e▸.refl _,h1,fun {J A'} hl h=>⟨A'++B,⟨A',B,rfl,h,h2.mono hl⟩,.refl _⟩⟩
 |tail h ih=>
  rintro L ⟨A,B,e,h1,h2⟩;obtain ⟨Cq0,Dq0,hp,h3,h4⟩:=ih h2;refine ⟨Cq0,A++Dq0,?_,h3,fun {J A'} hl h=>?_⟩
  ·subst e;refine (hp.append_left A).trans ?_;rw[←List.append_assoc,←List.append_assoc];exact List.perm_append_comm.append_right Dq0
  obtain ⟨L',h5,h6⟩:=h4 hl h;refine ⟨A++L',⟨A,L',rfl,h1.mono hl,h5⟩,?_⟩;refine (h6.append_left A).trans ?_;rw[←List.append_assoc,←List.append_assoc];exact List.perm_append_comm.append_right Dq0
inductive LR:OL→OL→Prop
 |refl (O):LR O O
 |keep {x O O'}:LR O O'→LR (x::O) (x::O')
 |drop {x O O'}:LR O O'→LR (x::O) O'
theorem cO.sub {I:G} {O O':OL} (h:LR O O'):∀{L},cO I O L→∃L',cO I O' L'∧L'.Sublist L:=by
 induction h with
 |refl=>intro L h;exact ⟨L,h,.refl _⟩
 |keep _ ih=>rintro L ⟨A,B,e,h1,h2⟩;obtain ⟨B',h3,h4⟩:=ih h2;exact ⟨A++B',⟨A,B',rfl,h1,h3⟩,e▸h4.append_left A⟩
 |drop _ ih=>rintro L ⟨A,B,e,h1,h2⟩;obtain ⟨B',h3,h4⟩:=ih h2;exact ⟨B',h3,e▸h4.trans (List.sublist_append_right A B)⟩
theorem iT.sub {I:G} {O O':OL} {F:List (Nat × Obj)} {E w:World} (h:LR O O') (hs:iT I O F E w):iT I O' F E w:=by
 obtain ⟨ht,L,hL,hS⟩:=hs;obtain ⟨L',h1,h2⟩:=hL.sub h;exact ⟨ht,L',h1,hS.sub (h2.append_right F)⟩
def Left (O O':OL):Prop:=∃O'',LR O O''∧O''=O'
theorem Left.sla {I:G} {O O':OL} {F:List (Nat × Obj)} {E w:World} (h:Left O O') (hs:iT I O F E w):iT I O' F E w:=by
 obtain ⟨_,h1,rfl⟩:=h;exact hs.sub h1
end
section
open Go.Proofs.Tryz
def nS (I:G) (F:List (Nat × Obj)) (E:World) (Q:Exit→aU→OL→Prop):Exit→ei→World→Prop:=fun e ρ w=>∃J env O,I.le J∧fy J env ρ∧iT J O F E w∧Q e env O
def dB (I:G) (F:List (Nat × Obj)) (E:World) (K:aU→OL→Prop):ei→World→Prop:=fun ρ w=>∃J env O,I.le J∧fy J env ρ∧iT J O F E w∧K env O
theorem nS.up {I J:G} {F:List (Nat × Obj)} {E:World} {Q:Exit→aU→OL→Prop} (h:I.le J) {e:Exit} {ρ:ei} {w:World}:nS J F E Q e ρ w→nS I F E Q e ρ w:=
 fun ⟨K,env,O,h1,h2⟩=>⟨K,env,O,h.trans h1,h2⟩
theorem dB.up {I J:G} {F:List (Nat × Obj)} {E:World} {Q:aU→OL→Prop} (h:I.le J) {ρ:ei} {w:World}:dB J F E Q ρ w→dB I F E Q ρ w:=
 fun ⟨K,env,O,h1,h2⟩=>⟨K,env,O,h.trans h1,h2⟩
def bY (P:Program) (E:World) (n:Nat) (c:Code) (Q:Exit→aU→OL→Prop) (env:aU) (O:OL):Prop:=
 ∀I F ρ w,fy I env ρ→iT I O F E w→WP P n c (nS I F E Q) ρ w
def sS (K:aU→OL→Prop) (Q:Exit→aU→OL→Prop):Exit→aU→OL→Prop:=fun e env O=>
 match e with
 |.normal=>K env O
 |e=>Q e env O
def xt (id:Nat) (Q:Exit→aU→OL→Prop):Exit→aU→OL→Prop:=fun e env O=>
 match e with
 |.exit i=>if i=id then Q .normal env O else Q (.exit i) env O
 |e=>Q e env O
section
variable {E:World} {P:Program} {n:Nat} {Q:Exit→aU→OL→Prop} {env:aU} {O:OL}
theorem ad {K:aU→OL→Prop} (h:Q .ret env O):sS K Q .ret env O:=h
theorem aa {id:Nat} (h:Q .ret env O):xt id Q .ret env O:=h
theorem bY.mono {c:Code} {Q':Exit→aU→OL→Prop} (h:bY P E n c Q env O) (hq:∀e env O,Q e env O→Q' e env O):bY P E n c Q' env O:=
 fun I F ρ w h1 h2=>(h I F ρ w h1 h2).mono fun _ _ _ ⟨J,env,O,a,b,c,d⟩=>⟨J,env,O,a,b,c,hq _ _ _ d⟩
theorem bY.skip (h:Q .normal env O):bY P E n .skip Q env O:=fun I _ _ _ h1 h2=>WP.skip ⟨I,env,O,.refl _,h1,h2,h⟩
theorem bY.ret (h:Q .ret env O):bY P E n .ret Q env O:=fun I _ _ _ h1 h2=>WP.ret ⟨I,env,O,.refl _,h1,h2,h⟩
theorem bY.exit {id:Nat} (h:Q (.exit id) env O):bY P E n (.exit id) Q env O:=fun I _ _ _ h1 h2=>WP.exit ⟨I,env,O,.refl _,h1,h2,h⟩
theorem bY.seq {x y:Code} (h:bY P E n x (sS (bY P E n y Q) Q) env O):bY P E n (.seq x y) Q env O:=fun I F ρ w h1 h2=>
 WP.seq ((h I F ρ w h1 h2).mono fun e ρ w ⟨J,env,O,a,b,c,d⟩=>by
  cases e<;>first|exact (d J F ρ w b c).mono (fun _ _ _=>nS.up a)|exact ⟨J,env,O,a,b,c,d⟩)
theorem bY.block {id:Nat} {c:Code} (h:bY P E n c (xt id Q) env O):bY P E n (.block id c) Q env O:=fun I F ρ w h1 h2=>
 WP.block ((h I F ρ w h1 h2).mono fun e ρ w ⟨J,env,O,a,b,c,d⟩=>by
  cases e<;>try exact ⟨J,env,O,a,b,c,d⟩
  rename_i i;simp only[xt] at d;simp only[Cr];split<;>rename_i hi
  ·rw[if_pos hi] at d;exact ⟨J,env,O,a,b,c,d⟩
  rw[if_neg hi] at d;exact ⟨J,env,O,a,b,c,d⟩)
theorem bY.cond {c:Operand} {x y:Code} {t:Bool} (hc:bd env c=.bool t) (h:t=true→bY P E n x Q env O) (h':t=false→bY P E n y Q env O):bY P E n (.cond c x y) Q env O:=fun I F ρ w h1 h2=>
 WP.condB (t:=t) (by have:=h1.ev c;rw[hc] at this;exact this) (fun e=>h e I F ρ w h1 h2) (fun e=>h' e I F ρ w h1 h2)
theorem bY.condP {c:Operand} {x y:Code} {p:Prop} [Decidable p] (hc:bd env c=.bool (decide p)) (h:p→bY P E n x Q env O) (h':¬p→bY P E n y Q env O):bY P E n (.cond c x y) Q env O:=
 bY.cond hc (fun e=>h (of_decide_eq_true e)) (fun e=>h' (of_decide_eq_false e))
theorem bY.condT {c:Operand} {x y:Code} {t:Bool} (hc:bd env c=.bool t) (ht:t=true) (h:bY P E n x Q env O):bY P E n (.cond c x y) Q env O:=bY.cond hc (fun _=>h) (fun e=>by rw[ht] at e;cases e)
theorem bY.condF {c:Operand} {x y:Code} {t:Bool} (hc:bd env c=.bool t) (ht:t=false) (h:bY P E n y Q env O):bY P E n (.cond c x y) Q env O:=bY.cond hc (fun e=>by rw[ht] at e;cases e) (fun _=>h)
theorem bY.weak {c:Code} {env':aU} (h:bY P E n c Q env' O) (hw:∀t,env' t=.any∨env' t=env t):bY P E n c Q env O:=fun I F ρ w h1 h2=>
 h I F ρ w (fun t=>by
  rcases hw t with e|e
  ·rw[e];trivial
  rw[e];exact h1 t) h2
def keep (env:aU) (l:List Nat):aU:=fun t=>bif l.any (Nat.beq t) then env t else .any
def put (env:aU):List (Nat × AV)→aU
 |[]=>env
 |(d,v)::l=>bB (put env l) d v
def v7 (env:aU):List (Nat × AV)→Prop
 |[]=>True
 |(d,v)::l=>env d=v∧v7 env l
def fa (env env':aU):List Nat→Prop
 |[]=>True
 |d::l=>env' d=env d∧fa env env' l
theorem zF {env env':aU} {f:List Nat} {l:List (Nat × AV)} (h1:fa env env' f) (h2:v7 env' l):∀t,put (Go.Proofs.YtbbonnfjealmpaaGreatDoor.keep env f) l t=.any∨put (Go.Proofs.YtbbonnfjealmpaaGreatDoor.keep env f) l t=env' t:=by
 intro t;induction l with
 |nil=>
  simp only[put,Go.Proofs.YtbbonnfjealmpaaGreatDoor.keep];cases hb:f.any (Nat.beq t) with
  |false=>simp
  |true=>
   right
   simp only[cond_true];clear h2;induction f with
   |nil=>simp at hb
   |cons d f ih=>
    simp only[List.any_cons,Bool.or_eq_true] at hb;rcases hb with hb|hb
    ·have:t=d:=Nat.eq_of_beq_eq_true hb;subst this;exact h1.1.symm
    exact ih h1.2 hb
 |cons x l ih=>
  obtain ⟨d,v⟩:=x;simp only[put,bB];cases hb:Nat.beq t d with
  |false=>simpa using ih h2.2
  |true=>
   have:t=d:=Nat.eq_of_beq_eq_true hb;subst this;right;exact h2.1.symm
theorem bY.cut {c:Code} (K:aU→OL→Prop) (h:bY P E n c (sS K Q) env O) (hj:∀env O,K env O→Q .normal env O):bY P E n c Q env O:=
 h.mono fun e ρ w hq=>by cases e<;>first|exact hj _ _ hq|exact hq
theorem bY.loop0 {γ:Type} {c:Code} (Inv:γ→aU→OL→Prop) (μ:γ→Nat) (g₀:γ) (h₀:Inv g₀ env O)
  (round:∀g env O,Inv g env O→bY P E n c (sS (fun env' O'=>∃g',Inv g' env' O'∧μ g'<μ g) Q) env O):bY P E n (.loop c) Q env O:=fun I F ρ w h1 h2=>
 WP.loop (γ:=γ) (fun g ρ w=>∃J env O,I.le J∧fy J env ρ∧iT J O F E w∧Inv g env O) μ g₀ ⟨I,env,O,.refl _,h1,h2,h₀⟩
  (fun g ρ w ⟨J,env,O,hl,h3,h4,h5⟩=>(round g env O h5 J F ρ w h3 h4).mono fun e ρ' w' ⟨K,env',O',a,b,c,d⟩=>by
   cases e with
   |normal=>obtain ⟨g',d1,d2⟩:=d;exact ⟨g',⟨K,env',O',hl.trans a,b,c,d1⟩,d2⟩
   |exit _=>exact ⟨K,env',O',hl.trans a,b,c,d⟩
   |goto _=>exact ⟨K,env',O',hl.trans a,b,c,d⟩
   |ret=>exact ⟨K,env',O',hl.trans a,b,c,d⟩
   |panic _=>exact ⟨K,env',O',hl.trans a,b,c,d⟩
   |outgrown=>exact ⟨K,env',O',hl.trans a,b,c,d⟩)
theorem bY.left {c:Code} {O':OL} (hl:Left O O') (h:bY P E n c Q env O'):bY P E n c Q env O:=fun I F ρ w h1 h2=>h I F ρ w h1 (hl.sla h2)
theorem fa.refl (env:aU):∀f,fa env env f
 |[]=>trivial
 |_::f=>⟨rfl,fa.refl env f⟩
theorem bY.loop {γ:Type} {c:Code} (f:List Nat) (S:γ→List (Nat × AV)) (Mq0:γ→OL) (p:γ→Prop) (μ:γ→Nat) (g₀:γ) (h₀:v7 env (S g₀)) (hO:Left O (Mq0 g₀)) (hp:p g₀)
  (round:∀g,p g→bY P E n c (sS (fun env' O'=>∃g',fa env env' f∧v7 env' (S g')∧Left O' (Mq0 g')∧p g'∧μ g'<μ g) Q) (put (Go.Proofs.YtbbonnfjealmpaaGreatDoor.keep env f) (S g)) (Mq0 g)):bY P E n (.loop c) Q env O:=
 bY.loop0 (fun g env' O'=>fa env env' f∧v7 env' (S g)∧Left O' (Mq0 g)∧p g) μ g₀ ⟨fa.refl env f,h₀,hO,hp⟩
  (fun g env' O' ⟨h1,h2,h3,h4⟩=>by
   refine (((round g h4).weak (zF h1 h2)).left h3).mono fun e env O hq=>?_;cases e<;>try exact hq
   obtain ⟨g',a,b,c,d,e⟩:=hq;exact ⟨g',⟨a,b,c,d⟩,e⟩)
theorem bY.cutS {γ:Type} {c d:Code} {Q':Exit→aU→OL→Prop} (f:List Nat) (S:γ→List (Nat × AV)) (Mq0:γ→OL) (p:γ→Prop) (h:bY P E n c (sS (fun env' O'=>∃g,fa env env' f∧v7 env' (S g)∧Left O' (Mq0 g)∧p g) Q) env O)
  (hQ:∀env O,bY P E n d Q' env O→Q .normal env O) (hj:∀g,p g→bY P E n d Q' (put (Go.Proofs.YtbbonnfjealmpaaGreatDoor.keep env f) (S g)) (Mq0 g)):bY P E n c Q env O:=
 bY.cut _ h fun env' O' ⟨g,h1,h2,h3,h4⟩=>hQ _ _ (((hj g h4).weak (zF h1 h2)).left h3)
end
def ax (P:Program) (E:World) (ops:Array Oper) (K:aU→OL→Prop) (l:List Oper) (env:aU) (O:OL):Prop:=
 ∀I F ρ w,fy I env ρ→iT I O F E w→bL P ops (dB I F E K) l ρ w
def Gv (P:Program) (env:aU) (O:OL) (o:Oper) (x:AV):Prop:=
 ∀(I:G) L E ρ,fy I env ρ→cO I O L→∃v,bW I x v∧∀w J L',I.k.le J→SL J L' E w→(∀y∈L,y∈L')→(execOp (ev ρ) o).run P w=.ok (.value v) w
section
variable {E:World} {P:Program} {n:Nat} {ops:Array Oper} {K:aU→OL→Prop} {env:aU} {O:OL} {rest:List Oper}
variable {d ty:Nat} {op:Op} {pos:String} {af:Array Edge}
theorem bY.region {Q:Exit→aU→OL→Prop} {id:Nat} {l:List Oper} (hd:ia n l=true) (h:ax P E l.toArray (Q .normal) l env O):bY P E n (.region id l.toArray false) Q env O:=fun I F ρ w h1 h2=>
 WP.region hd (h I F ρ w h1 h2)
theorem ax.nil (h:K env O):ax P E ops K [] env O:=fun I _ _ _ h1 h2=>bL.nil ⟨I,env,O,.refl _,h1,h2,h⟩
theorem ax.val {x:AV} (h:Gv P env O (Oper.mk (some d) op ty pos af none) x) (k:ax P E ops K rest (bB env d x) O):ax P E ops K (Oper.mk (some d) op ty pos af none::rest) env O:=fun I F ρ w h1 h2=>by
 obtain ⟨L,hL,hS⟩:=h2.2;obtain ⟨v,hv,hr⟩:=h I L E ρ h1 hL;exact bL.val (hr w I.k (L++F) (.refl _) hS fun _ h=>List.mem_append_left _ h) (k I F _ w (h1.upd d hv) h2)
theorem ax.guardT {dd:Option Nat} {j s:Nat} {b t:Bool} (hs:(ops[j]?).bind (fun o:Oper=>o.dst)=some s) (hv:env s=.bool t) (ht:t=b)
  (k:ax P E ops K (Oper.mk dd op ty pos af none::rest) env O):ax P E ops K (Oper.mk dd op ty pos af (some (j,b))::rest) env O:=fun I F ρ w h1 h2=>
 bL.guardT hs (by have:=h1 s;rw[hv] at this;exact this) ht (k I F ρ w h1 h2)
theorem ax.guardF {dd:Option Nat} {j s:Nat} {b t:Bool} (hs:(ops[j]?).bind (fun o:Oper=>o.dst)=some s) (hv:env s=.bool t) (ht:t=!b)
  (k:ax P E ops K rest (GY env dd (.raw undef)) O):ax P E ops K (Oper.mk dd op ty pos af (some (j,b))::rest) env O:=fun I F ρ w h1 h2=>
 bL.guardF hs (by have:=h1 s;rw[hv] at this;exact this) ht (k I F _ w (h1.updO dd rfl) h2)
theorem ax.guardFd {j s:Nat} {b t:Bool} (hs:(ops[j]?).bind (fun o:Oper=>o.dst)=some s) (hv:env s=.bool t) (ht:t=!b)
  (k:ax P E ops K rest (bB env d (.raw undef)) O):ax P E ops K (Oper.mk (some d) op ty pos af (some (j,b))::rest) env O:=ax.guardF hs hv ht k
theorem ax.guardU {dd:Option Nat} {j s:Nat} {b:Bool} (hs:(ops[j]?).bind (fun o:Oper=>o.dst)=some s) (hv:env s=.raw undef)
  (k:ax P E ops K rest (GY env dd (.raw undef)) O):ax P E ops K (Oper.mk dd op ty pos af (some (j,b))::rest) env O:=fun I F ρ w h1 h2=>
 bL.guardU hs (by have:=h1 s;rw[hv] at this;exact this) (k I F _ w (h1.updO dd rfl) h2)
theorem ax.guardUd {j s:Nat} {b:Bool} (hs:(ops[j]?).bind (fun o:Oper=>o.dst)=some s) (hv:env s=.raw undef)
  (k:ax P E ops K rest (bB env d (.raw undef)) O):ax P E ops K (Oper.mk (some d) op ty pos af (some (j,b))::rest) env O:=ax.guardU hs hv k
theorem ax.case {s:Nat} {t:Bool} {l:List Oper} (hv:env s=.bool t) (h1:t=true→ax P E ops K l env O) (h2:t=false→ax P E ops K l env O):ax P E ops K l env O:=by
 have _:=hv;cases t
 ·exact h2 rfl
 exact h1 rfl
end
end
section
open Go.Proofs.Tryz
section
variable {E:World} {P:Program} {env:aU} {O:OL} {d ty:Nat} {pos:String} {af:Array Edge} {x y z:Operand} {t u e:TypeId}
theorem Gv.ofEv {op:Op} {v:AV} (h:∀(I:G) ρ,fy I env ρ→∃u,bW I v u∧∀w,(execOp (ev ρ) (Oper.mk (some d) op ty pos af none)).run P w=.ok (.value u) w):Gv P env O (Oper.mk (some d) op ty pos af none) v:=
 fun I _ _ ρ h1 _=>let ⟨u,h2,h3⟩:=h I ρ h1;⟨u,h2,fun w _ _ _ _ _=>h3 w⟩
theorem Gv.move {v:AV} (hx:bd env x=v):Gv P env O (Oper.mk (some d) (.move x) ty pos af none) v:=Gv.ofEv fun I ρ h=>⟨ev ρ x,hx▸h.ev x,fun _=>rfl⟩
theorem Gv.assign {v:AV} (hx:bd env x=v):Gv P env O (Oper.mk (some d) (.assign x) ty pos af none) v:=Gv.ofEv fun I ρ h=>⟨ev ρ x,hx▸h.ev x,fun _=>rfl⟩
theorem Ml {I:G} {ρ:ei} {b:Bool} (h:fy I env ρ) (hx:bd env x=.bool b):ev ρ x=.bool b:=by have:=h.ev x;rw[hx] at this;exact this
theorem gV {I:G} {ρ:ei} {k:IntKind} {n:Int} (h:fy I env ρ) (hx:bd env x=.int k n):ev ρ x=.int k n:=by have:=h.ev x;rw[hx] at this;exact this
theorem GZ {I:G} {ρ:ei} {s:ByteArray} (h:fy I env ρ) (hx:bd env x=.str s):ev ρ x=.string s:=by have:=h.ev x;rw[hx] at this;exact this
theorem iZ {I:G} {ρ:ei} {v:Value} (h:fy I env ρ) (hx:bd env x=.raw v):ev ρ x=v:=by have:=h.ev x;rw[hx] at this;exact this
theorem Gv.pickT {b:Bool} {v:AV} (hc:bd env x=.bool b) (hb:b=true) (hy:bd env y=v):Gv P env O (Oper.mk (some d) (.pick x y z) ty pos af none) v:=
 Gv.ofEv fun I ρ h=>⟨ev ρ y,hy▸h.ev y,fun _=>Run.pickT (Ml h hc) hb rfl⟩
theorem Gv.pickF {b:Bool} {v:AV} (hc:bd env x=.bool b) (hb:b=false) (hy:bd env z=v):Gv P env O (Oper.mk (some d) (.pick x y z) ty pos af none) v:=
 Gv.ofEv fun I ρ h=>⟨ev ρ z,hy▸h.ev z,fun _=>Run.pickF (Ml h hc) hb rfl⟩
theorem Gv.lss {k:IntKind} {a b:Int} (hx:bd env x=.int k a) (hy:bd env y=.int k b):Gv P env O (Oper.mk (some d) (.binOp .lss t x y u) ty pos af none) (.bool (decide (a<b))):=Gv.ofEv fun I ρ h=>⟨_,rfl,fun _=>Run.lss (gV h hx) (gV h hy)⟩
theorem Gv.leq {k:IntKind} {a b:Int} (hx:bd env x=.int k a) (hy:bd env y=.int k b):Gv P env O (Oper.mk (some d) (.binOp .leq t x y u) ty pos af none) (.bool (decide (a≤b))):=Gv.ofEv fun I ρ h=>⟨_,rfl,fun _=>Run.leq (gV h hx) (gV h hy)⟩
theorem Gv.gtr {k:IntKind} {a b:Int} (hx:bd env x=.int k a) (hy:bd env y=.int k b):Gv P env O (Oper.mk (some d) (.binOp .gtr t x y u) ty pos af none) (.bool (decide (b<a))):=Gv.ofEv fun I ρ h=>⟨_,rfl,fun _=>Run.gtr (gV h hx) (gV h hy)⟩
theorem Gv.geq {k:IntKind} {a b:Int} (hx:bd env x=.int k a) (hy:bd env y=.int k b):Gv P env O (Oper.mk (some d) (.binOp .geq t x y u) ty pos af none) (.bool (decide (b≤a))):=Gv.ofEv fun I ρ h=>⟨_,rfl,fun _=>Run.geq (gV h hx) (gV h hy)⟩
theorem Gv.eqlI {k:IntKind} {a b:Int} (hx:bd env x=.int k a) (hy:bd env y=.int k b):Gv P env O (Oper.mk (some d) (.binOp .eql t x y u) ty pos af none) (.bool (decide (a=b))):=Gv.ofEv fun I ρ h=>⟨_,rfl,fun _=>Run.eqlI (gV h hx) (gV h hy)⟩
theorem Gv.neqI {k:IntKind} {a b:Int} (hx:bd env x=.int k a) (hy:bd env y=.int k b):Gv P env O (Oper.mk (some d) (.binOp .neq t x y u) ty pos af none) (.bool (!decide (a=b))):=Gv.ofEv fun I ρ h=>⟨_,rfl,fun _=>by rw[←decide_not];exact Run.neqI (gV h hx) (gV h hy)⟩
theorem Gv.add {a b:Int} (hx:bd env x=.int .i64 a) (hy:bd env y=.int .i64 b) (hr:mB (a+b)):Gv P env O (Oper.mk (some d) (.binOp .add t x y u) ty pos af none) (.int .i64 (a+b)):=Gv.ofEv fun I ρ h=>⟨_,rfl,fun _=>Run.add (gV h hx) (gV h hy) hr⟩
theorem Gv.sub {a b:Int} (hx:bd env x=.int .i64 a) (hy:bd env y=.int .i64 b) (hr:mB (a - b)):Gv P env O (Oper.mk (some d) (.binOp .sub t x y u) ty pos af none) (.int .i64 (a - b)):=Gv.ofEv fun I ρ h=>⟨_,rfl,fun _=>Run.sub (gV h hx) (gV h hy) hr⟩
theorem Gv.mul {a b:Int} (hx:bd env x=.int .i64 a) (hy:bd env y=.int .i64 b) (hr:mB (a*b)):Gv P env O (Oper.mk (some d) (.binOp .mul t x y u) ty pos af none) (.int .i64 (a*b)):=Gv.ofEv fun I ρ h=>⟨_,rfl,fun _=>Run.mul (gV h hx) (gV h hy) hr⟩
theorem Gv.addW {k:IntKind} {a b:Int} (hx:bd env x=.int k a) (hy:bd env y=.int k b):Gv P env O (Oper.mk (some d) (.binOp .add t x y u) ty pos af none) (.int k (k.wrap (a+b))):=Gv.ofEv fun I ρ h=>⟨_,rfl,fun _=>Run.addW (gV h hx) (gV h hy)⟩
theorem Gv.subW {k:IntKind} {a b:Int} (hx:bd env x=.int k a) (hy:bd env y=.int k b):Gv P env O (Oper.mk (some d) (.binOp .sub t x y u) ty pos af none) (.int k (k.wrap (a - b))):=Gv.ofEv fun I ρ h=>⟨_,rfl,fun _=>Run.subW (gV h hx) (gV h hy)⟩
theorem Gv.mulW {k:IntKind} {a b:Int} (hx:bd env x=.int k a) (hy:bd env y=.int k b):Gv P env O (Oper.mk (some d) (.binOp .mul t x y u) ty pos af none) (.int k (k.wrap (a*b))):=Gv.ofEv fun I ρ h=>⟨_,rfl,fun _=>Run.mulW (gV h hx) (gV h hy)⟩
theorem Gv.not {b:Bool} (hx:bd env x=.bool b):Gv P env O (Oper.mk (some d) (.unOp .not t x) ty pos af none) (.bool (!b)):=Gv.ofEv fun I ρ h=>⟨_,rfl,fun _=>Run.not (Ml h hx)⟩
theorem Gv.eqlT {a b:ByteArray} (hx:bd env x=.str a) (hy:bd env y=.str b):Gv P env O (Oper.mk (some d) (.binOp .eql t x y u) ty pos af none) (.bool (decide (a=b))):=Gv.ofEv fun I ρ h=>⟨_,rfl,fun _=>Run.eqlT (GZ h hx) (GZ h hy)⟩
theorem Gv.neqT {a b:ByteArray} (hx:bd env x=.str a) (hy:bd env y=.str b):Gv P env O (Oper.mk (some d) (.binOp .neq t x y u) ty pos af none) (.bool (!decide (a=b))):=Gv.ofEv fun I ρ h=>⟨_,rfl,fun _=>Run.neqT (GZ h hx) (GZ h hy)⟩
theorem Gv.eqlB {a b:Bool} (ht:P.underlying t=some .bool) (hx:bd env x=.bool a) (hy:bd env y=.bool b):Gv P env O (Oper.mk (some d) (.binOp .eql t x y u) ty pos af none) (.bool (a == b)):=Gv.ofEv fun I ρ h=>⟨_,rfl,fun _=>Run.eqlB ht (Ml h hx) (Ml h hy)⟩
theorem Gv.neqB {a b:Bool} (ht:P.underlying t=some .bool) (hx:bd env x=.bool a) (hy:bd env y=.bool b):Gv P env O (Oper.mk (some d) (.binOp .neq t x y u) ty pos af none) (.bool (!(a == b))):=Gv.ofEv fun I ρ h=>⟨_,rfl,fun _=>Run.neqB ht (Ml h hx) (Ml h hy)⟩
theorem Gv.addT {a b:ByteArray} (hx:bd env x=.str a) (hy:bd env y=.str b) (hl:a.size+b.size≤140737488355328):Gv P env O (Oper.mk (some d) (.binOp .add t x y u) ty pos af none) (.str (a++b)):=Gv.ofEv fun I ρ h=>⟨_,rfl,fun _=>by
 have:¬(((a.size+b.size:Nat):Int)>IntKind.i64.max):=by
  have:IntKind.i64.max=9223372036854775807:=by rfl
  rw[this];omega
 have he:∀w,(eqGuard .add t x y (.string a) (.string b)).run P w=.ok () w:=fun w=>rfl;simp only[execOp,GZ h hx,GZ h hy];simp only[Sem.run_bind,he,Result.andThen];simp[binOp,Op.stringOp];have h2:¬((a.size:Int)+b.size>IntKind.i64.max):=by simpa using this
 simp at h2;rw[if_neg (by omega)]⟩
theorem Gv.extract {vs:List AV} {i:Nat} {v:AV} (hx:bd env x=.tup vs) (hv:vs[i]?=some v):Gv P env O (Oper.mk (some d) (.extract x i) ty pos af none) v:=Gv.ofEv fun I ρ h=>by
 have:=h.ev x;rw[hx] at this;obtain ⟨us,e,hr⟩:=this;obtain ⟨u,hu,hru⟩:=hr.get hv;exact ⟨u,hru,fun _=>Run.extract e (by simpa using hu)⟩
theorem Gv.nilCheckF {cs:List AV} (hx:bd env x=.pf cs):Gv P env O (Oper.mk (some d) (.nilCheck x) ty pos af none) (.pf cs):=Gv.ofEv fun I ρ h=>by
 have h2:=h.ev x;rw[hx] at h2;obtain ⟨b,off,vs,e,h3⟩:=id h2;rw[e] at h2;exact ⟨_,h2,fun _=>Run.nilCheck e⟩
theorem Gv.nilCheckO {i off:Nat} (hx:bd env x=.po i off):Gv P env O (Oper.mk (some d) (.nilCheck x) ty pos af none) (.po i off):=Gv.ofEv fun I ρ h=>by
 have h2:=h.ev x;rw[hx] at h2;obtain ⟨b,c,e1,e⟩:=id h2;rw[e] at h2;exact ⟨_,h2,fun _=>Run.nilCheck e⟩
theorem Gv.lenF {k:Nat} {rows:List (List AV)} (ht:P.underlying t=some (.slice e)) (hx:bd env x=.fro k rows):Gv P env O (Oper.mk (some d) (.call { callee:=.builtin .len,args:=#[x],argTypes:=#[t] }) ty pos af none) (.int .i64 rows.length):=Gv.ofEv fun I ρ h=>by
 have h2:=h.ev x;rw[hx] at h2;obtain ⟨a,n,c,e,rfl,_⟩:=h2;exact ⟨_,rfl,fun _=>Run.lenS ht e⟩
theorem Gv.lenM {α:Type} {enc:α→List AV} {xs:List α} {k:Nat} (ht:P.underlying t=some (.slice e)) (hx:bd env x=.fro k (xs.map enc)):Gv P env O (Oper.mk (some d) (.call { callee:=.builtin .len,args:=#[x],argTypes:=#[t] }) ty pos af none) (.int .i64 xs.length):=by
 have:=Gv.lenF (d:=d) (ty:=ty) (pos:=pos) (af:=af) (O:=O) ht hx
 rwa [List.length_map] at this
theorem Gv.lenO {i n:Nat} (ht:P.underlying t=some (.slice e)) (hx:bd env x=.j i n):Gv P env O (Oper.mk (some d) (.call { callee:=.builtin .len,args:=#[x],argTypes:=#[t] }) ty pos af none) (.int .i64 n):=Gv.ofEv fun I ρ h=>by
 have h2:=h.ev x;rw[hx] at h2;obtain ⟨b,c,_,e⟩:=h2;exact ⟨_,rfl,fun _=>Run.lenS ht e⟩
theorem Gv.lenT {s:ByteArray} (ht:P.underlying t=some .string) (hx:bd env x=.str s):Gv P env O (Oper.mk (some d) (.call { callee:=.builtin .len,args:=#[x],argTypes:=#[t] }) ty pos af none) (.int .i64 s.size):=Gv.ofEv fun I ρ h=>⟨_,rfl,fun _=>Run.lenT ht (GZ h hx)⟩
theorem Gv.load1F {c:AV} {cs:List AV} (ha:∀w,(isAgg t).run P w=.ok false w) (hx:bd env x=.pf (c::cs)):Gv P env O (Oper.mk (some d) (.load t x) ty pos af none) c:=fun I L E ρ h1 _=>by
 have h2:=h1.ev x;rw[hx] at h2;obtain ⟨b,off,vs,e,⟨v,us,e2,h3,h4⟩,h5⟩:=h2;subst e2;exact ⟨v,h3,fun w J L' hl hS _=>Run.load1 ha hS e ((h5 0 v rfl).mono hl |>.at_ _)⟩
theorem Gv.loadAF {n:Nat} {cs l:List AV} (ha:∀w,(isAgg t).run P w=.ok true w) (hs:∀w,(sizeOf t).run P w=.ok n w) (hx:bd env x=.pf cs) (hn:Nat.ble n cs.length=true) (hl:cs.take n=l):Gv P env O (Oper.mk (some d) (.load t x) ty pos af none) (.agg l):=fun I L E ρ h1 _=>by
 have h2:=h1.ev x;rw[hx] at h2;obtain ⟨b,off,vs,e,h3,h5⟩:=h2;refine ⟨.agg (vs.take n).toArray,⟨_,rfl,hl▸h3.take n⟩,fun w J L' hk hS _=>Run.loadA ha ?_ hS e ?_⟩
 ·have hn:=Nat.le_of_ble_eq_true hn;have:=h3.length;rw[List.length_take,Nat.min_eq_left (by omega)];exact hs
 intro j v hj;rw[List.getElem?_take] at hj;split at hj
 ·exact ((h5 j v hj).mono hk).at_ _
 cases hj
theorem Gv.loadWF {n:Nat} {cs:List AV} (ha:∀w,(isAgg t).run P w=.ok true w) (hs:∀w,(sizeOf t).run P w=.ok n w) (hx:bd env x=.pf cs) (hn:cs.length=n):Gv P env O (Oper.mk (some d) (.load t x) ty pos af none) (.agg cs):=
 Gv.loadAF ha hs hx (by rw[hn];simp) (by rw[←hn];simp)
theorem Gv.fieldF {fs:Array Field} {f:Field} {i sz:Nat} {cs cs':List AV} (ht:P.underlying t=some (.struct fs)) (hf:fs[i]?=some f) (hs:∀w,(sizeOf f.type).run P w=.ok sz w) (hz:sz≠0)
  (hx:bd env x=.pf cs) (hr:cs.drop f.offset=cs'):Gv P env O (Oper.mk (some d) (.fieldAddr t x i) ty pos af none) (.pf cs'):=fun I L E ρ h1 _=>by
 have h2:=h1.ev x;rw[hx] at h2;obtain ⟨b,off,vs,e,h3,h5⟩:=h2;refine ⟨.pointer (some ⟨b,off+f.offset,none⟩),⟨b,_,vs.drop f.offset,rfl,hr▸h3.drop _,fun j u hj=>?_⟩,fun w J L' _ _ _=>Run.field ht hf hs hz e rfl⟩;rw[List.getElem?_drop] at hj;have:=h5 _ _ hj
 rwa [←Nat.add_assoc] at this
theorem Gv.fieldO {fs:Array Field} {f:Field} {i id off r sz:Nat} (ht:P.underlying t=some (.struct fs)) (hf:fs[i]?=some f) (hs:∀w,(sizeOf f.type).run P w=.ok sz w) (hz:sz≠0)
  (hx:bd env x=.po id off) (hr:off+f.offset=r):Gv P env O (Oper.mk (some d) (.fieldAddr t x i) ty pos af none) (.po id r):=fun I L E ρ h1 _=>by
 have h2:=h1.ev x;rw[hx] at h2;obtain ⟨b,c,e1,e⟩:=h2;exact ⟨_,⟨b,c,e1,rfl⟩,fun w J L' _ _ _=>Run.field ht hf hs hz e hr⟩
theorem Gv.idxF {k j:Nat} {i:Int} {rows:List (List AV)} {r:List AV} (ht:P.underlying t=some (.slice e)) (hs:∀w,(sizeOf e).run P w=.ok k w) (hx:bd env x=.fro k rows) (hy:bd env y=.int .i64 i) (hi:i=(j:Int)) (hj:rows[j]?=some r) :
  Gv P env O (Oper.mk (some d) (.indexAddr t x y) ty pos af none) (.pf r):=fun I L E ρ h1 _=>by
 have h2:=h1.ev x;rw[hx] at h2;obtain ⟨a,n,c,ex,hn,_,_,h3⟩:=h2;obtain ⟨b,off,vs,rfl,h4,h5,h6⟩:=h3.get hj;have hlt:j<n:=by rw[hn];exact (List.getElem?_eq_some_iff.1 hj).1
 refine ⟨.pointer (some ⟨b,off+j*k,none⟩),⟨b,_,vs,rfl,h5,fun i u hu=>?_⟩,fun w J L' _ _ _=>Run.idx ht hs ex (gV h1 hy) hi hlt⟩;have:=h6 i u hu
 rwa [Nat.zero_add] at this
theorem Gv.idxM {α:Type} {enc:α→List AV} {xs:List α} {k j:Nat} {i:Int} {v:α} (ht:P.underlying t=some (.slice e)) (hs:∀w,(sizeOf e).run P w=.ok k w) (hx:bd env x=.fro k (xs.map enc)) (hy:bd env y=.int .i64 i) (hi:i=(j:Int)) (hj:xs[j]?=some v) :
  Gv P env O (Oper.mk (some d) (.indexAddr t x y) ty pos af none) (.pf (enc v)):=Gv.idxF ht hs hx hy hi (by rw[List.getElem?_map,hj];rfl)
end
def sT (O:OL) (i:Nat) (o:bC):Prop:=∃O',dI O i o O'
theorem sT.cells {I:G} {O:OL} {L:List (Nat × Obj)} {i:Nat} {T:TypeId} {cs:List AV} (h:sT O i (.cells T cs)) (hL:cO I O L):∃b c vs,I.h i=some (some b,c)∧RepL I cs vs∧(b,Obj.cells vs.toArray T (0,0))∈L:=by
 obtain ⟨O',h⟩:=h;obtain ⟨A,B,hp,h1,_⟩:=h.rep hL;obtain ⟨b,c,vs,h2,h3,_,rfl⟩:=h1;exact ⟨b,c,vs,h2,h3,hp.mem_iff.2 (by simp)⟩
theorem sT.u {I:G} {O:OL} {L:List (Nat × Obj)} {i k:Nat} {T:TypeId} {cs:List AV} (h:sT O i (.u k T cs)) (hL:cO I O L) (hne:cs≠[]):∃b c vs junk,I.h i=some (some b,c)∧RepL I cs vs∧(b,Obj.cells (vs++junk).toArray T (0,0))∈L:=by
 obtain ⟨O',h⟩:=h;obtain ⟨A,B,hp,h1,_⟩:=h.rep hL;obtain ⟨b,c,n,vs,h2,h3,_,h4,h5,h6⟩:=h1;rcases h6 with ⟨_,h6,_⟩|⟨b',junk,e,e2,h6⟩
 ·have:=h3.length;have:n=0:=by omega
  subst this;simp at h4;subst h4;simp at this;exact absurd this.symm (by simpa using hne)
 cases b with
 |none=>simp[adr] at e
 |some b=>
  simp[adr] at e;subst e e2;exact ⟨b,c,vs,junk,h2,h3,hp.mem_iff.2 (by simp)⟩
section
variable {E:World} {P:Program} {env:aU} {O:OL} {d ty:Nat} {pos:String} {af:Array Edge} {x y z:Operand} {t u e:TypeId}
theorem Gv.load1C {i off:Nat} {T:TypeId} {c:AV} {cs tl:List AV} (ha:∀w,(isAgg t).run P w=.ok false w) (hx:bd env x=.po i off) (hO:sT O i (.cells T cs)) (hv:cs.drop off=c::tl):Gv P env O (Oper.mk (some d) (.load t x) ty pos af none) c:=fun I L E ρ h1 hL=>by
 have h2:=h1.ev x;rw[hx] at h2;obtain ⟨b,k,e1,e⟩:=h2;obtain ⟨b',k',vs,e2,h3,hm⟩:=hO.cells hL;rw[e1] at e2;cases e2;have h4:=h3.drop off;rw[hv] at h4;obtain ⟨v,us,e5,h6,h7⟩:=h4;exact ⟨v,h6,fun w J L' hl hS hsub=>Run.load1 ha hS e (.inr ⟨_,_,_,hsub _ hm,by rw[List.getElem?_toArray];exact zC e5⟩)⟩
theorem Gv.loadAC {i off n:Nat} {T:TypeId} {cs l:List AV} (ha:∀w,(isAgg t).run P w=.ok true w) (hs:∀w,(sizeOf t).run P w=.ok n w) (hx:bd env x=.po i off) (hO:sT O i (.cells T cs)) (hn:Nat.ble (off+n) cs.length=true) (hl:(cs.drop off).take n=l) :
  Gv P env O (Oper.mk (some d) (.load t x) ty pos af none) (.agg l):=fun I L E ρ h1 hL=>by
 have h2:=h1.ev x;rw[hx] at h2;obtain ⟨b,k,e1,e⟩:=h2;obtain ⟨b',k',vs,e2,h3,hm⟩:=hO.cells hL;rw[e1] at e2;cases e2;refine ⟨.agg ((vs.drop off).take n).toArray,⟨_,rfl,hl▸(h3.drop off).take n⟩,fun w J L' hk hS hsub=>Run.loadA ha ?_ hS e ?_⟩
 ·have hn:=Nat.le_of_ble_eq_true hn;have:=h3.length;rw[List.length_take,List.length_drop,Nat.min_eq_left (by omega)];exact hs
 intro j v hj;rw[List.getElem?_take] at hj;split at hj
 ·rw[List.getElem?_drop] at hj;exact .inr ⟨_,_,_,hsub _ hm,by rw[List.getElem?_toArray];exact hj⟩
 cases hj
theorem Gv.loadWC {i n:Nat} {T:TypeId} {cs:List AV} (ha:∀w,(isAgg t).run P w=.ok true w) (hs:∀w,(sizeOf t).run P w=.ok n w) (hx:bd env x=.po i 0) (hO:sT O i (.cells T cs)) (hn:cs.length=n):Gv P env O (Oper.mk (some d) (.load t x) ty pos af none) (.agg cs):=
 Gv.loadAC ha hs hx hO (by rw[hn];simp) (by rw[←hn];simp)
theorem Gv.load1G {i off k:Nat} {T:TypeId} {c:AV} {cs tl:List AV} (ha:∀w,(isAgg t).run P w=.ok false w) (hx:bd env x=.po i off) (hO:sT O i (.u k T cs)) (hv:cs.drop off=c::tl):Gv P env O (Oper.mk (some d) (.load t x) ty pos af none) c:=fun I L E ρ h1 hL=>by
 have h2:=h1.ev x;rw[hx] at h2;obtain ⟨b,k,e1,e⟩:=h2;obtain ⟨b',k',vs,junk,e2,h3,hm⟩:=hO.u hL (by intro h;subst h;simp at hv);rw[e1] at e2;cases e2;have h4:=h3.drop off;rw[hv] at h4;obtain ⟨v,us,e5,h6,h7⟩:=h4;exact ⟨v,h6,fun w J L' hl hS hsub=>Run.load1 ha hS e (.inr ⟨_,_,_,hsub _ hm,by
  have:=zC e5;rw[List.getElem?_toArray,List.getElem?_append_left (List.getElem?_eq_some_iff.1 this).1];exact this⟩)⟩
theorem Gv.loadAG {i off n k:Nat} {T:TypeId} {cs l:List AV} (ha:∀w,(isAgg t).run P w=.ok true w) (hs:∀w,(sizeOf t).run P w=.ok n w) (hx:bd env x=.po i off) (hO:sT O i (.u k T cs)) (hne:cs≠[]) (hn:off+n≤cs.length) (hl:(cs.drop off).take n=l) :
  Gv P env O (Oper.mk (some d) (.load t x) ty pos af none) (.agg l):=fun I L E ρ h1 hL=>by
 have h2:=h1.ev x;rw[hx] at h2;obtain ⟨b,k,e1,e⟩:=h2;obtain ⟨b',k',vs,junk,e2,h3,hm⟩:=hO.u hL hne;rw[e1] at e2;cases e2;refine ⟨.agg ((vs.drop off).take n).toArray,⟨_,rfl,hl▸(h3.drop off).take n⟩,fun w J L' hk hS hsub=>Run.loadA ha ?_ hS e ?_⟩
 ·have:=h3.length;rw[List.length_take,List.length_drop,Nat.min_eq_left (by omega)];exact hs
 intro j v hj;rw[List.getElem?_take] at hj;split at hj
 ·rw[List.getElem?_drop] at hj;exact .inr ⟨_,_,_,hsub _ hm,by rw[List.getElem?_toArray,List.getElem?_append_left (List.getElem?_eq_some_iff.1 hj).1];exact hj⟩
 cases hj
theorem Gv.idxO {i n k j:Nat} {a:Int} {T:TypeId} {cs:List AV} (ht:P.underlying t=some (.slice e)) (hs:∀w,(sizeOf e).run P w=.ok k w) (hx:bd env x=.j i n) (hy:bd env y=.int .i64 a) (hi:a=(j:Int)) (hO:sT O i (.u k T cs)) (hne:cs≠[]) (hj:j<n) :
  Gv P env O (Oper.mk (some d) (.indexAddr t x y) ty pos af none) (.po i (j*k)):=fun I L E ρ h1 hL=>by
 have h2:=h1.ev x;rw[hx] at h2;obtain ⟨b,c,e1,e⟩:=h2;obtain ⟨b',k',vs,junk,e2,_⟩:=hO.u hL hne;rw[e1] at e2;cases e2;refine ⟨.pointer (some ⟨b',0+j*k,none⟩),⟨b',_,e1,by rw[Nat.zero_add]⟩,fun w J L' _ _ _=>Run.idx ht hs e (gV h1 hy) hi hj⟩
end
end
section
open Go.Proofs.Tryz
def lit:Value→AV
 |.bool b=>.bool b
 |.int k n=>.int k n
 |.string s=>.str s
 |v=>.raw v
theorem DQ (I:G) (v:Value):bW I (lit v) v:=by cases v<;>exact rfl
theorem fj (I:G):∀l:List Value,RepL I (l.map lit) l
 |[]=>rfl
 |v::l=>⟨v,l,rfl,DQ I v,fj I l⟩
def AV.cs:AV→List AV
 |.agg cs=>cs
 |x=>[x]
def AV.sto:AV→Bool
 |.any | .tup _=>false
 |.raw v=>v.oneCell'
 |_=>true
theorem AV.cs_rep {I:G} {x:AV} {v:Value} (h:bW I x v) (hs:x.sto=true):RepL I x.cs v.cells.toList:=by
 cases x
 case agg cs=>obtain ⟨vs,e,h2⟩:=h;subst e;simpa [AV.cs,Value.cells] using h2
 case any=>cases hs
 case tup=>cases hs
 all_goals
  have hc:v.cells=#[v]:=by
   have:=AV.cell_rep h (by first|rfl|exact hs);cases v<;>first|rfl|(simp[Value.oneCell'] at this)
  rw[hc];exact RepL.one h
theorem iT.name {I:G} {O:OL} {F:List (Nat × Obj)} {E w:World} (h:iT I O F E w):∃i,∀hd:Option Nat × Nat,∃J:G,J.k=I.k∧I.le J∧J.h i=some hd∧∃top,∀i,top≤i→J.h i=none:=by
 obtain ⟨⟨top,ht⟩,_⟩:=h;refine ⟨top,fun hd=>⟨⟨I.k,fun j=>if j=top then some hd else I.h j⟩,rfl,⟨.refl _,fun i x hi=>?_⟩,by simp,top+1,fun i hi=>?_⟩⟩
 ·have:i≠top:=fun e=>by rw[e,ht top (Nat.le_refl _)] at hi;cases hi
  simp[this,hi]
 simp only;rw[if_neg (by omega)];exact ht i (by omega)
theorem cO.perm {I:G} {O O':OL} (h:O.Perm O'):∀{L},cO I O L→∃L',cO I O' L'∧L.Perm L':=by
 induction h with
 |nil=>intro L h;exact ⟨L,h,.refl _⟩
 |cons x _ ih=>rintro L ⟨A,B,e,h1,h2⟩;obtain ⟨B',h3,h4⟩:=ih h2;exact ⟨A++B',⟨A,B',rfl,h1,h3⟩,e▸h4.append_left A⟩
 |swap x y l=>
  rintro L ⟨A,B,e,h1,Cq0,Dq0,e2,h2,h3⟩;refine ⟨Cq0++(A++Dq0),⟨Cq0,A++Dq0,rfl,h2,A,Dq0,rfl,h1,h3⟩,?_⟩;subst e e2;rw[←List.append_assoc,←List.append_assoc];exact List.perm_append_comm.append_right Dq0
 |trans _ _ ih1 ih2=>intro L h;obtain ⟨L1,h1,h2⟩:=ih1 h;obtain ⟨L2,h3,h4⟩:=ih2 h1;exact ⟨L2,h3,h2.trans h4⟩
def aX (P:Program) (E:World) (f:FuncId) (args:List AV) (O:OL) (R:AV→OL→Prop):Prop:=
 ∀I F w vs,RepL I args vs→iT I O F E w→Fn P f vs.toArray w fun v w'=>∃J x O',I.le J∧bW J x v∧iT J O' F E w'∧R x O'
def aS (P:Program) (E:World) (f:FuncId) (args:List AV) (r:AV):Prop:=aX P E f args [] fun x _=>x=r
theorem aX.mono {E:World} {P:Program} {f:FuncId} {args:List AV} {O:OL} {R R':AV→OL→Prop} (h:aX P E f args O R) (hr:∀x O,R x O→R' x O):aX P E f args O R':=fun I F w vs h1 h2=>
 (h I F w vs h1 h2).mono fun _ _ ⟨J,x,O',a,b,c,d⟩=>⟨J,x,O',a,b,c,hr _ _ d⟩
def Pb (E:World) (rs:Array ResultVar) (env:aU) (O:OL) (P:Program) (x:AV):Prop:=
 ∀I F ρ w,fy I env ρ→iT I O F E w→∃v,xq rs ρ P w=.ok v w∧bW I x v
def fk (P:Program) (E:World) (rs:Array ResultVar) (R:AV→OL→Prop):Exit→aU→OL→Prop:=fun e env O=>
 match e with
 |.normal | .ret=>∀I F ρ w,fy I env ρ→iT I O F E w→∃v,xq rs ρ P w=.ok v w∧∃J x O',I.le J∧bW J x v∧iT J O' F E w∧R x O'
 |_=>False
def G0 (args:List AV):aU:=fun t=>(args[t]?).getD (.raw undef)
theorem E1 {I:G} {args:List AV} {vs:List Value} (h:RepL I args vs):fy I (G0 args) (J8 vs.toArray):=fun t=>by
 unfold G0 J8;cases ha:args[t]? with
 |none=>
  have:vs[t]?=none:=by
   rw[List.getElem?_eq_none_iff] at ha ⊢;rw[h.length];exact ha
  simp[Array.getD_eq_getD_getElem?,this,bW]
 |some x=>
  obtain ⟨v,hv,hr⟩:=h.get ha;simp[Array.getD_eq_getD_getElem?,hv,hr]
theorem aX.intro {E:World} {P:Program} {f:FuncId} {fn:Func} {c:Code} {args:List AV} {O:OL} {R:AV→OL→Prop} (hf:P.funcs[f]?=some fn) (hb:fn.body=some c)
  (hn:fn.name≠"runtime.NumGoroutine") (hs:Nat.ble args.length fn.ntmps=true) (h:bY P E fn.ntmps c (fk P E fn.results R) (G0 args) O):aX P E f args O R:=fun I F w vs h1 h2=>
 Fn.intro hf hb hn (by rw[List.size_toArray,h1.length];exact hs) ((h I F _ w (E1 h1) h2).mono fun e ρ w ⟨J,env,O,a,b,c,d⟩=>by
  cases e<;>first|exact d.elim|(obtain ⟨v,h3,K,x,O',h4,h5,h6,h7⟩:=d J F ρ w b c;exact ⟨v,h3,K,x,O',a.trans h4,h5,h6,h7⟩))
section
variable {E:World} {P:Program} {env:aU} {O:OL} {R:AV→OL→Prop}
theorem fk.of {rs:Array ResultVar} {x:AV} (h:Pb E rs env O P x) (hr:R x O):fk P E rs R .ret env O:=fun I F ρ w h1 h2=>by
 obtain ⟨v,h3,h4⟩:=h I F ρ w h1 h2;exact ⟨v,h3,I,x,O,.refl _,h4,h2,hr⟩
theorem fk.t1 {t:Nat} {x:AV} (hv:env t=x) (h:R x O):fk P E #[.tmp t] R .ret env O:=fk.of (fun I F ρ w h1 _=>⟨_,by simp[xq],hv▸h1 t⟩) h
theorem fk.t0 (h:R (.tup []) O):fk P E #[] R .ret env O:=fk.of (x:=.tup []) (fun I F ρ w h1 _=>⟨.tuple #[],by simp[xq],⟨[],rfl,rfl⟩⟩) h
theorem fk.t2 {t u:Nat} {x y:AV} (hv:env t=x) (hu:env u=y) (h:R (.tup [x,y]) O):fk P E #[.tmp t,.tmp u] R .ret env O:=
 fk.of (x:=.tup [x,y]) (fun I F ρ w h1 _=>⟨.tuple #[ρ t,ρ u],by simp[xq],⟨[ρ t,ρ u],rfl,⟨_,_,rfl,hv▸h1 t,⟨_,_,rfl,hu▸h1 u,rfl⟩⟩⟩⟩) h
theorem fk.c1 {t T i:Nat} {T':TypeId} {cs:List AV} {n:Nat} (hv:env t=.po i 0) (hO:sT O i (.cells T' cs)) (ha:∀w,(isAgg T).run P w=.ok true w) (hs:∀w,(sizeOf T).run P w=.ok n w) (hn:cs.length=n) (h:R (.agg cs) O) :
  fk P E #[.cell t T] R .ret env O:=fk.of (fun I F ρ w h1 h2=>by
 obtain ⟨L,hL,hS⟩:=h2.2;have h3:=h1 t;rw[hv] at h3;obtain ⟨b,c,e1,e⟩:=h3;obtain ⟨b',c',vs,e2,h4,hm⟩:=hO.cells hL;rw[e1] at e2;cases e2;have hl:=rW (P:=P) (w:=w) (b:=b) (off:=0) ha (cs:=vs) (by rw[h4.length,hn];exact hs) (fun j v hj=>by
  rw[Nat.zero_add];exact hS.at_ (.inr ⟨_,_,_,List.mem_append_left _ hm,by rw[List.getElem?_toArray];exact hj⟩))
 exact ⟨.agg vs.toArray,by simp[xq,e,asAddr,hl],⟨vs,rfl,h4⟩⟩) h
end
section
variable {E:World} {P:Program} {ops:Array Oper} {K:aU→OL→Prop} {env:aU} {O O':OL} {rest:List Oper}
variable {d ty:Nat} {pos:String} {af:Array Edge} {x y z:Operand} {t u e:TypeId}
theorem ax.boxF {v:AV} {cs:List AV} (hx:bd env x=v) (hv:v.sto=true) (hc:v.cs=cs) (k:ax P E ops K rest (bB env d (.pf cs)) O):ax P E ops K (Oper.mk (some d) (.box t x) ty pos af none::rest) env O:=fun I F ρ w h1 h2=>by
 obtain ⟨ht,L,hL,hS⟩:=h2;refine bL.boxP hS rfl fun b w' J hl hb hS'=>?_;have h3:=h1.ev x;rw[hx] at h3;have h4:=AV.cs_rep h3 hv;rw[hc] at h4
 let I':G:=⟨J,I.h⟩
 have hle:I.le I':=⟨hl,fun _ _ h=>h⟩;refine bL.mono (fun _ _=>dB.up hle) _ _ _ (k I' F _ w' ((h1.mono hle).upd d ⟨b,0,_,rfl,RepL.mono hle _ _ h4,fun j u hj=>⟨_,_,_,hb,?_⟩⟩) ⟨ht,L,hL.mono hle,hS'⟩);rw[Nat.zero_add];simpa using hj
theorem G1 {I:G} {F:List (Nat × Obj)} {E w w':World} {L:List (Nat × Obj)} {b:Nat} {T:TypeId} {cs:List AV} {vs:List Value} (h2:iT I O F E w) (hL:cO I O L) (hr:RepL I cs vs) (h1c:∀u∈vs,u.oneCell'=true)
  (hS:SL I.k ((b,.cells vs.toArray T (0,0))::(L++F)) E w'):∃i J,I.le J∧J.h i=some (some b,0)∧iT J ((i,.cells T cs)::O) F E w':=by
 obtain ⟨i,hi⟩:=h2.name;obtain ⟨J,e1,hle,e2,htop⟩:=hi (some b,0);exact ⟨i,J,hle,e2,htop,_,⟨_,L,rfl,⟨b,0,vs,e2,RepL.mono hle _ _ hr,h1c,rfl⟩,hL.mono hle⟩,by rw[e1];exact hS⟩
theorem RepL.cell1 {I:G} {cs:List AV} {vs:List Value} (h4:RepL I cs vs) (hc1:cs.all AV.cell=true):∀u∈vs,u.oneCell'=true:=by
 intro u hu;obtain ⟨j,hj⟩:=List.mem_iff_getElem?.1 hu;have hlen:=h4.length;have hjl:=(List.getElem?_eq_some_iff.1 hj).1;have hx:cs[j]?=some cs[j]:=List.getElem?_eq_getElem (by omega);obtain ⟨v',hv',hr'⟩:=h4.get hx;rw[hj] at hv';cases hv';exact AV.cell_rep hr' (List.all_eq_true.1 hc1 _ (List.getElem_mem _))
theorem ax.boxO {v:AV} {cs:List AV} (hx:bd env x=v) (hv:v.sto=true) (hc:v.cs=cs) (hc1:cs.all AV.cell=true) (k:∀i,ax P E ops K rest (bB env d (.po i 0)) ((i,.cells t cs)::O)) :
  ax P E ops K (Oper.mk (some d) (.box t x) ty pos af none::rest) env O:=fun I F ρ w h1 h2=>by
 obtain ⟨L,hL,hS⟩:=h2.2;refine bL.boxO hS rfl fun b w' hS'=>?_;have h3:=h1.ev x;rw[hx] at h3;have h4:=AV.cs_rep h3 hv;rw[hc] at h4;obtain ⟨i,J,hle,e2,h5⟩:=G1 (O:=O) (w':=w') (b:=b) (T:=t) h2 hL h4 (h4.cell1 hc1) (by simpa using hS');exact bL.mono (fun _ _=>dB.up hle) _ _ _ (k i J F _ w' ((h1.mono hle).upd d ⟨b,0,e2,rfl⟩) h5)
theorem ax.alloc {zv:Value} {cs:List AV} (hz:∀w,(zeroValue t).run P w=.ok zv w) (hc:zv.cells.toList.map lit=cs) (h1c:zv.cells.toList.all Value.oneCell'=true) (k:∀i,ax P E ops K rest (bB env d (.po i 0)) ((i,.cells t cs)::O)) :
  ax P E ops K (Oper.mk (some d) (.alloc t) ty pos af none::rest) env O:=fun I F ρ w h1 h2=>by
 obtain ⟨L,hL,hS⟩:=h2.2;refine bL.alloc hz hS fun b w' hS'=>?_;obtain ⟨i,J,hle,e2,h5⟩:=G1 (O:=O) (w':=w') (b:=b) (T:=t) h2 hL (hc▸fj I zv.cells.toList) (List.all_eq_true.1 h1c) (by simpa using hS');exact bL.mono (fun _ _=>dB.up hle) _ _ _ (k i J F _ w' ((h1.mono hle).upd d ⟨b,0,e2,rfl⟩) h5)
theorem rr {b off n:Nat} {vs:List Value} {T:TypeId} {v:Value} {old:List Value} {w:World} (hs:∀w,(sizeOf t).run P w=.ok n w) (hvc:v.cells=vs.toArray) (hn:vs.length=n) (h1c:∀u∈vs,u.oneCell'=true) (hb:off+n≤old.length)
  (hown:w.heap[b]?=some (.cells old.toArray T (0,0))):(Instr.storeAt t (.pointer (some ⟨b,off,none⟩)) v).run P w=.ok () (w.setRow b (old.take off++vs++old.drop (off+n)).toArray):=by
 have hst:(storeCells (⟨b,off,none⟩:Addr) vs 0).run P w=.ok () (w.setRow b (old.take off++vs++old.drop (off+n)).toArray):=by
  rw[run_storeCells_at (P:=P) b off T vs 0 old.toArray w hown (by simp;omega) h1c];simp[hn]
 have hvs:v.cells.size=n:=by rw[hvc];simpa using hn
 simp[Instr.storeAt,Instr.sureAddr,storeVar,hs,hvc,hn,hst]
theorem SL.turn1 {I:bT} {L:List (Nat × Obj)} {E w:World} {b:Nat} {old new:List Value} {T:TypeId} (h:SL I ((b,.cells old.toArray T (0,0))::L) E w):SL I ((b,.cells new.toArray T (0,0))::L) E (w.setRow b new.toArray):=by
 have hown:=h.j _ (.head _);simp only at hown;refine h.turn rfl rfl rfl ?_ ?_
 ·simp[World.setRow,Array.getElem?_modify,hown]
 intro k hk;simp only[World.setRow,Array.getElem?_modify];rw[if_neg (by omega)]
theorem ax.storeC {i off n:Nat} {T:TypeId} {v:AV} {cs l new:List AV} (hs:∀w,(sizeOf t).run P w=.ok n w) (hx:bd env x=.po i off) (hy:bd env y=v) (hv:v.sto=true) (hl:v.cs=l) (hl1:l.all AV.cell=true) (hn:l.length=n)
  (hO:gc O i (.cells T cs) (.cells T new) O') (hb:Nat.ble (off+n) cs.length=true) (hnew:cs.take off++l++cs.drop (off+n)=new) (k:ax P E ops K rest env O'):ax P E ops K (Oper.mk none (.store t x y) ty pos af none::rest) env O:=fun I F ρ w h1 h2=>by
 obtain ⟨htop,L,hL,hS⟩:=h2;have h3:=h1.ev x;rw[hx] at h3;obtain ⟨b,c,e1,e⟩:=h3;have h4:=h1.ev y;rw[hy] at h4;have h5:=AV.cs_rep h4 hv;rw[hl] at h5;obtain ⟨A,B,hp,⟨b',c',vs,e2,h6,h6c,rfl⟩,hback⟩:=hO.rep hL;rw[e1] at e2;cases e2;have hS2:SL I.k ((b,.cells vs.toArray T (0,0))::(B++F)) E w:=hS.perm ((hp.append_right F).symm);have hb:=Nat.le_of_ble_eq_true hb;have hrun:=rr (P:=P) (t:=t) (b:=b) (off:=off) (v:=ev ρ y) (vs:=(ev ρ y).cells.toList) (old:=vs) (w:=w) hs (by simp) (by rw[h5.length,hn]) (h5.cell1 hl1) (by rw[h6.length];exact hb) (hS2.j _ (.head _));refine bL.step rfl ?_;unfold mJ;have:(execOp (ev ρ) (Oper.mk none (.store t x y) ty pos af none)).run P w=.ok .skip (w.setRow b (vs.take off++(ev ρ y).cells.toList++vs.drop (off+n)).toArray):=by
  simp only[execOp,e];rw[Sem.run_bind,hrun];rfl
 rw[this];have hnr:RepL I new (vs.take off++(ev ρ y).cells.toList++vs.drop (off+n)):=hnew▸((h6.take off).append h5).append (h6.drop (off+n));obtain ⟨L',h7,h8⟩:=hback (G.le.refl I) (A':=[(b,.cells (vs.take off++(ev ρ y).cells.toList++vs.drop (off+n)).toArray T (0,0))]) ⟨b,c,_,e1,hnr,by
  intro u hu;simp only[List.mem_append] at hu;rcases hu with (hu|hu)|hu
  ·exact h6c u (List.mem_of_mem_take hu)
  ·exact h5.cell1 hl1 u hu
  exact h6c u (List.mem_of_mem_drop hu),rfl⟩
 exact k I F ρ _ h1 ⟨htop,L',h7,(hS2.turn1).perm (h8.append_right F)⟩
end
end
section
open Go.Proofs.Tryz
def mi (place:Nat→Option (Nat × Nat)):List AV→List (Nat × List AV)→Option (List AV)
 |cells,[]=>some cells
 |cells,(i,xs)::rest=>
  match place i with
  |none=>none
  |some (off,size)=>bif Nat.beq xs.length size&&Nat.ble (off+size) cells.length then mi place (cells.take off++(xs++cells.drop (off+size))) rest else none
theorem E2 (off:Nat):∀(l:List Value) (k:Nat) (cs:Array Value),off+k+l.length≤cs.size→((l.zipIdx k).foldl (fun cs (x:Value × Nat)=>cs.setIfInBounds (off+x.2) x.1) cs).toList=cs.toList.take (off+k)++l++cs.toList.drop (off+k+l.length):=by
 intro l;induction l with
 |nil=>intro k cs _;simp
 |cons c l ih=>
  intro k cs hk;simp only[List.zipIdx_cons,List.foldl_cons];rw[ih (k+1) _ (by simp at hk ⊢;omega)];simp only[Array.toList_setIfInBounds,List.length_cons];have hk':off+k<cs.toList.length:=by simp at hk ⊢;omega
  rw[←Nat.add_assoc off k 1,List.take_succ_eq_append_getElem (by simpa using hk'),List.getElem_set_self,List.take_set_of_le (Nat.le_refl _)];rw[List.drop_set_of_lt (by omega:off+k<off+k+1+l.length)];simp only[List.append_assoc,List.singleton_append];have:off+k+1+l.length=off+k+(l.length+1):=by omega
  rw[this]
theorem oY {I:G} {place:Nat→Option (Nat × Nat)}:∀(l:List (Nat × Value)) (cps:List (Nat × List AV)) (cells:List AV) (vcells:Array Value) (rs:List AV),
  cps.map (·.1)=l.map (·.1)→(∀(j:Nat) p q,l[j]?=some p→cps[j]?=some q→RepL I q.2 p.2.cells.toList)→RepL I cells vcells.toList→mi place cells cps=some rs →
  ∃vc,Instr.fill place vcells l=some vc∧RepL I rs vc.toList
 |[],[],cells,vcells,rs,_,_,h,hf=>⟨vcells,rfl,by cases hf;exact h⟩
 |[],_::_,_,_,_,h,_,_,_=>by cases h
 |_::_,[],_,_,_,h,_,_,_=>by cases h
 |(i,v)::l,(i',xs)::cps,cells,vcells,rs,hk,hp,h,hf=>by
  simp only[List.map_cons,List.cons.injEq] at hk;obtain ⟨rfl,hk⟩:=hk;unfold mi at hf;unfold Instr.fill;cases hpl:place i' with
  |none=>rw[hpl] at hf;cases hf
  |some os=>
   obtain ⟨off,size⟩:=os;rw[hpl] at hf;simp only at hf ⊢;have hx:=hp 0 _ _ rfl rfl;simp only at hx;have hxl:=hx.length;have hcl:=h.length;simp only[Array.length_toList] at hxl hcl;cases hb:(Nat.beq xs.length size&&Nat.ble (off+size) cells.length) with
   |false=>rw[hb] at hf;cases hf
   |true=>
    rw[hb] at hf;simp only[cond_true] at hf;simp only[Bool.and_eq_true] at hb;have e1:=Nat.eq_of_beq_eq_true hb.1;have e2:=Nat.le_of_ble_eq_true hb.2;rw[if_neg (show ¬((v.cells.size≠size||off+v.cells.size>vcells.size)=true) by simp;omega)];have hfold:=E2 off v.cells.toList 0 vcells (by simp;omega);simp only[Nat.add_zero] at hfold;have hfa:(v.cells.zipIdx.foldl (fun cs (x:Value × Nat)=>cs.setIfInBounds (off+x.2) x.1) vcells).toList=vcells.toList.take off++v.cells.toList++vcells.toList.drop (off+size):=by
     rw[←Array.foldl_toList];have:v.cells.zipIdx.toList=v.cells.toList.zipIdx 0:=by simp
     have hlen:v.cells.toList.length=size:=by rw[Array.length_toList];omega
     rw[this,hfold,hlen]
    refine oY l cps _ _ rs hk (fun j p q h1 h2=>hp (j+1) p q (by simpa using h1) (by simpa using h2)) ?_ hf;rw[hfa,List.append_assoc];exact (h.take off).append (hx.append (h.drop _))
def eS (P:Program) (t:TypeId) (places:Array (Nat × Nat)) (zs:List AV):Prop:=
 ∃fs zv,P.underlying t=some (.struct fs)∧(∀w,(zeroValue t).run P w=.ok zv w)∧(∀w,(fs.mapM (m:=Sem) fun f=>do pure (f.offset,←sizeOf f.type)).run P w=.ok places w)∧zv.cells.toList.map lit=zs
def lJ (P:Program) (t:TypeId) (k:Nat) (zs:List AV):Prop:=
 ∃n e zv,P.underlying t=some (.array n e)∧(∀w,(zeroValue t).run P w=.ok zv w)∧(∀w,(sizeOf e).run P w=.ok k w)∧zv.cells.toList.map lit=zs
section
variable {E:World} {P:Program} {ops:Array Oper} {K:aU→OL→Prop} {env:aU} {O O':OL} {rest:List Oper}
variable {d ty:Nat} {pos:String} {af:Array Edge} {x y z:Operand} {t u e:TypeId}
theorem p7 {I:G} {ρ:ei} (h1:fy I env ρ) (l:List (Nat × Operand)) (hs:l.all (fun p=>(bd env p.2).sto)=true) (j:Nat) (p:Nat × Value) (q:Nat × List AV)
  (hp:(l.map fun p=>(p.1,ev ρ p.2))[j]?=some p) (hq:(l.map fun p=>(p.1,(bd env p.2).cs))[j]?=some q):RepL I q.2 p.2.cells.toList:=by
 rw[List.getElem?_map] at hp hq;cases hl:l[j]? with
 |none=>rw[hl] at hp;cases hp
 |some o=>
  rw[hl] at hp hq;cases hp;cases hq;exact AV.cs_rep (h1.ev o.2) (List.all_eq_true.1 hs _ (List.mem_of_getElem? hl))
theorem Gv.build {places:Array (Nat × Nat)} {zs rs:List AV} {l:List (Nat × Operand)} {cps:List (Nat × List AV)} (hpl:eS P t places zs) (hs:l.all (fun p=>(bd env p.2).sto)=true) (hv:l.map (fun p=>(p.1,(bd env p.2).cs))=cps)
  (hf:mi (places[·]?) zs cps=some rs):Gv P env O (Oper.mk (some d) (.build t l.toArray) ty pos af none) (.agg rs):=Gv.ofEv fun I ρ h=>by
 obtain ⟨fs,zv,ht,hz,hp,hc⟩:=hpl;obtain ⟨vc,h1,h2⟩:=oY (I:=I) (place:=(places[·]?)) (l.map fun p=>(p.1,ev ρ p.2)) cps zs zv.cells rs (by subst hv;simp) (fun j p q hj hq=>p7 h l hs j p q hj (hv▸hq)) (hc▸fj I _) hf;refine ⟨.agg vc,⟨vc.toList,by simp,h2⟩,fun w=>?_⟩;have hrun:(Instr.build t (l.map fun p=>(p.1,ev ρ p.2)).toArray).run P w=.ok (.agg vc) w:=by
  unfold Instr.build;simp only[Sem.run_bind,hz,Result.andThen_ok,run_underlying ht];rw[hp];simp only[Result.andThen_ok,h1]
  rfl
 simp only[execOp,List.map_toArray];rw[Sem.run_bind,hrun];rfl
theorem Gv.buildA {k:Nat} {zs rs:List AV} {l:List (Nat × Operand)} {cps:List (Nat × List AV)} (hpl:lJ P t k zs) (hs:l.all (fun p=>(bd env p.2).sto)=true) (hv:l.map (fun p=>(p.1,(bd env p.2).cs))=cps)
  (hf:mi (fun i=>some (i*k,k)) zs cps=some rs):Gv P env O (Oper.mk (some d) (.build t l.toArray) ty pos af none) (.agg rs):=Gv.ofEv fun I ρ h=>by
 obtain ⟨n,e,zv,ht,hz,hp,hc⟩:=hpl;obtain ⟨vc,h1,h2⟩:=oY (I:=I) (place:=fun i=>some (i*k,k)) (l.map fun p=>(p.1,ev ρ p.2)) cps zs zv.cells rs (by subst hv;simp) (fun j p q hj hq=>p7 h l hs j p q hj (hv▸hq)) (hc▸fj I _) hf;refine ⟨.agg vc,⟨vc.toList,by simp,h2⟩,fun w=>?_⟩;have hrun:(Instr.build t (l.map fun p=>(p.1,ev ρ p.2)).toArray).run P w=.ok (.agg vc) w:=by
  unfold Instr.build;simp only[Sem.run_bind,hz,Result.andThen_ok,run_underlying ht,hp,h1]
  rfl
 simp only[execOp,List.map_toArray];rw[Sem.run_bind,hrun];rfl
def dp (P:Program) (t e:TypeId) (n k:Nat) (zs:List AV):Prop:=
 ∃zv,P.underlying t=some (.slice e)∧(∀w,(sizeOf e).run P w=.ok k w)∧(∀w,(zeroValue e).run P w=.ok zv w)∧0<n*k∧n*k≤2 ^ 24∧((Array.range (n*k)).map (zv.cells[·% zv.cells.size]!)).toList.map lit=zs
theorem mj {n k:Nat} {zs rs:List AV} {l:List (Nat × Operand)} {cps:List (Nat × List AV)} (hpl:dp P t e n k zs) (hs:l.all (fun p=>(bd env p.2).sto)=true) (hv:l.map (fun p=>(p.1,(bd env p.2).cs))=cps)
  (hf:mi (fun i=>some (i*k,k)) zs cps=some rs) {I:G} {ρ:ei} (h:fy I env ρ):∃vc:List Value,RepL I rs vc∧∀w,(execOp (ev ρ) (Oper.mk (some d) (.buildSlice t n l.toArray) ty pos af none)).run P w=.ok (.value (.slice (some ⟨w.heap.size,0,none⟩) n n)) (w.alloc (.cells vc.toArray e)):=by
 obtain ⟨zv,ht,hsz,hz,h0,h24,hc⟩:=hpl;obtain ⟨vc,h1,h2⟩:=oY (I:=I) (place:=fun i=>some (i*k,k)) (l.map fun p=>(p.1,ev ρ p.2)) cps zs ((Array.range (n*k)).map (zv.cells[·% zv.cells.size]!)) rs (by subst hv;simp) (fun j p q hj hq=>p7 h l hs j p q hj (hv▸hq)) (hc▸fj I _) hf;refine ⟨vc.toList,h2,fun w=>?_⟩;have hrun:(Instr.buildSlice t n (l.map fun p=>(p.1,ev ρ p.2)).toArray).run P w=.ok (.slice (some ⟨w.heap.size,0,none⟩) n n) (w.alloc (.cells vc e)):=by
  unfold Instr.buildSlice;simp only[Sem.run_bind,Result.andThen_ok,run_underlying ht,hsz];rw[if_neg (by omega)];simp only[Sem.run_pure,Result.andThen_ok,if_neg (by omega:¬n*k=0),Sem.run_bind,hz,h1,newRow];simp
 simp only[execOp,List.map_toArray];rw[Sem.run_bind,hrun];simp
theorem RepR.of_flat {I:G} {k b:Nat} {c:Array Value} {T:TypeId} {f:Nat × Nat} (hb:I.k b=some (.cells c T f)):∀(rows:List (List AV)) (vs:List Value) (j:Nat),(∀r∈rows,r.length=k)→RepL I rows.flatten vs→(∀(i:Nat) u,vs[i]?=some u→c[j*k+i]?=some u)→RepR I k (some ⟨b,0,none⟩) j rows
 |[],_,_,_,_,_=>trivial
 |r::rows,vs,j,hk,h,hc=>by
  have hr:=hk r (by simp);have h1:=h.take r.length;have h2:=h.drop r.length;simp only[List.flatten_cons,List.take_left,List.drop_left] at h1 h2;refine ⟨⟨b,0,vs.take r.length,rfl,?_,h1,fun i u hu=>⟨c,T,f,hb,?_⟩⟩,RepR.of_flat hb rows _ (j+1) (fun r hr=>hk r (by simp[hr])) h2 fun i u hu=>?_⟩
  ·rw[h1.length,hr]
  ·rw[List.getElem?_take] at hu;split at hu
   ·rw[Nat.zero_add];exact hc i u hu
   cases hu
  rw[List.getElem?_drop,hr] at hu;have:=hc _ u hu;rw[Nat.add_mul,Nat.one_mul,Nat.add_assoc];exact this
theorem ax.buildSliceF {n k:Nat} {zs rs:List AV} {rows:List (List AV)} {l:List (Nat × Operand)} {cps:List (Nat × List AV)} (hpl:dp P t e n k zs) (hs:l.all (fun p=>(bd env p.2).sto)=true) (hv:l.map (fun p=>(p.1,(bd env p.2).cs))=cps)
  (hf:mi (fun i=>some (i*k,k)) zs cps=some rs) (hr:rows.flatten=rs) (hk:rows.all (fun r=>Nat.beq r.length k)=true) (hn:rows.length=n) (kk:ax P E ops K rest (bB env d (.fro k rows)) O) :
  ax P E ops K (Oper.mk (some d) (.buildSlice t n l.toArray) ty pos af none::rest) env O:=fun I F ρ w h1 h2=>by
 obtain ⟨htop,L,hL,hS⟩:=h2;obtain ⟨vc,hrep,hrun⟩:=mj (d:=d) (ty:=ty) (pos:=pos) (af:=af) hpl hs hv hf h1;refine bL.step rfl ?_;unfold mJ;rw[hrun w];obtain ⟨hl,hS'⟩:=hS.alloc_pers (.cells vc.toArray e)
 let J:G:=⟨I.k.put w.heap.size (.cells vc.toArray e),I.h⟩
 have hle:I.le J:=⟨hl,fun _ _ h=>h⟩;have hb:J.k w.heap.size=some (.cells vc.toArray e):=bT.put_same _ _ _;refine bL.mono (fun _ _=>dB.up hle) _ _ _ (kk J F _ _ ((h1.mono hle).upd d ⟨_,n,n,rfl,hn.symm,Nat.le_refl _,fun h=>by (cases h),?_⟩) ⟨htop,L,hL.mono hle,hS'⟩);exact RepR.of_flat hb rows vc 0 (fun r h=>Nat.eq_of_beq_eq_true (List.all_eq_true.1 hk r h)) (hr▸RepL.mono hle _ _ hrep) (fun i u hu=>by simpa using hu)
theorem ax.buildSliceO {n k:Nat} {zs rs:List AV} {l:List (Nat × Operand)} {cps:List (Nat × List AV)} (hpl:dp P t e n k zs) (hs:l.all (fun p=>(bd env p.2).sto)=true) (hv:l.map (fun p=>(p.1,(bd env p.2).cs))=cps)
  (hf:mi (fun i=>some (i*k,k)) zs cps=some rs) (hk:rs.length=n*k) (hc1:rs.all AV.cell=true) (kk:∀i,ax P E ops K rest (bB env d (.j i n)) ((i,.u k e rs)::O)) :
  ax P E ops K (Oper.mk (some d) (.buildSlice t n l.toArray) ty pos af none::rest) env O:=fun I F ρ w h1 h2=>by
 obtain ⟨L,hL,hS⟩:=h2.2;obtain ⟨vc,hrep,hrun⟩:=mj (d:=d) (ty:=ty) (pos:=pos) (af:=af) hpl hs hv hf h1;refine bL.step rfl ?_;unfold mJ;rw[hrun w];obtain ⟨i,hi⟩:=h2.name;obtain ⟨J,e1,hle,e2,htop⟩:=hi (some w.heap.size,n);have hS':=hS.alloc (.cells vc.toArray e);refine bL.mono (fun _ _=>dB.up hle) _ _ _ (kk i J F _ _ ((h1.mono hle).upd d ⟨_,n,e2,rfl⟩) ⟨htop,_,⟨[(w.heap.size,.cells vc.toArray e (0,0))],L,rfl,⟨_,n,n,vc,e2,RepL.mono hle _ _ hrep,hrep.cell1 hc1,fI.made (by rw[hrep.length,hk])⟩,hL.mono hle⟩,by rw[e1];exact hS'⟩)
theorem ax.buildSlice0 {i:TypeInfo} {k:Nat} (ht:P.underlying t=some (.slice e)) (hi:P.info? e=some i) (kk:∀j,ax P E ops K rest (bB env d (.j j 0)) ((j,.u k e [])::O)) :
  ax P E ops K (Oper.mk (some d) (.buildSlice t 0 #[]) ty pos af none::rest) env O:=fun I F ρ w h1 h2=>by
 obtain ⟨L,hL,hS⟩:=h2.2;obtain ⟨j,hj⟩:=h2.name;refine bL.buildSlice0 ht hi hS fun b w' hS'=>?_;obtain ⟨J,e1,hle,e2,htop⟩:=hj (some b,0);refine bL.mono (fun _ _=>dB.up hle) _ _ _ (kk j J F _ _ ((h1.mono hle).upd d ⟨_,0,e2,rfl⟩) ⟨htop,_,⟨[(b,.cells [].toArray e (0,0))],L,rfl,⟨some b,0,0,[],e2,rfl,(by simp),fI.made (n:=0) (by simp)⟩,hL.mono hle⟩,by rw[e1];exact hS'⟩)
theorem ax.make1 {i:TypeInfo} {zv z1:Value} {m:Nat} {k1 k2:IntKind} {l l':Int} (ht:P.underlying t=some (.slice e)) (hi:P.info? e=some i) (hz:i.zero=some zv) (hzc:zv.cells=#[z1]) (hk:i.size=1) (hx:bd env x=.int k1 l) (hy:bd env y=.int k2 l')
  (hl:l=(m:Int)) (hl':l'=(m:Int)) (hb:(i.bytes:Int)*(m:Int)≤281474976710656) (hm:m≤281474976710656) (hz1:z1.oneCell'=true) (kk:∀j,ax P E ops K rest (bB env d (.j j m)) ((j,.u 1 e (List.replicate m (lit z1)))::O)) :
  ax P E ops K (Oper.mk (some d) (.makeSlice t x y) ty pos af none::rest) env O:=fun I F ρ w h1 h2=>by
 obtain ⟨L,hL,hS⟩:=h2.2;obtain ⟨j,hj⟩:=h2.name;refine bL.make1 ht hi hz hzc hk (gV h1 hx) (gV h1 hy) hl hl' hb hm hS fun b w' hS'=>?_;obtain ⟨J,e1,hle,e2,htop⟩:=hj (some b,m);have hrep:RepL J (List.replicate m (lit z1)) (List.replicate m z1):=by
  have:=fj J (List.replicate m z1)
  rwa [List.map_replicate] at this
 refine bL.mono (fun _ _=>dB.up hle) _ _ _ (kk j J F _ _ ((h1.mono hle).upd d ⟨_,m,e2,rfl⟩) ⟨htop,_,⟨[(b,.cells (List.replicate m z1).toArray e (0,0))],L,rfl,⟨some b,m,m,_,e2,hrep,(fun u hu=>by rw[List.eq_of_mem_replicate hu];exact hz1),fI.made (by simp)⟩,hL.mono hle⟩,by rw[e1];exact hS'⟩)
end
end
section
open Go.Proofs.Tryz
theorem RepR.flat {I:G} {k:Nat} {a:Option Addr}:∀{rows:List (List AV)} {j:Nat},RepR I k a j rows→rows≠[]→∃b off vs,a=some ⟨b,off,none⟩∧RepL I rows.flatten vs∧vs.length=rows.length*k∧∀(i:Nat) u,vs[i]?=some u→GR I.k b (off+j*k+i) u
 |[],_,_,h=>absurd rfl h
 |[r],j,⟨⟨b,off,vs,e,h1,h2,h3⟩,_⟩,_=>⟨b,off,vs,e,by simpa using h2,by simpa using h1,h3⟩
 |r::r'::rows,j,⟨⟨b,off,vs,e,h1,h2,h3⟩,h4⟩,_=>by
  obtain ⟨b',off',us,e',h5,h6,h7⟩:=RepR.flat h4 (by simp);subst e;cases e';refine ⟨b,off,vs++us,rfl,by simpa using h2.append h5,by simp only[List.length_append,h1,h6,List.length_cons,Nat.add_mul];omega,fun i u hu=>?_⟩
  by_cases hi:i<vs.length
  ·rw[List.getElem?_append_left hi] at hu;exact h3 i u hu
  rw[List.getElem?_append_right (by omega)] at hu;have:=h7 _ u hu;have e:off+(j+1)*k+(i - vs.length)=off+j*k+i:=by rw[Nat.add_mul,h1];omega
  rwa [e] at this
theorem J9 {I:G} {k:Nat} {rows:List (List AV)} {v:Value} (h:bW I (.fro k rows) v) (hc:rows.flatten.all AV.cell=true):∃a n c vs,v=.slice a n c∧n=rows.length∧RepL I rows.flatten vs∧(∀u∈vs,u.oneCell'=true)∧∀O,NX I.k O k a n vs:=by
 obtain ⟨a,n,c,e,hn,hnc,hnil,hr⟩:=h;cases rows with
 |nil=>
  refine ⟨a,n,c,[],e,hn,rfl,by simp,fun O=>⟨by simp[hn],by simp,?_⟩⟩;cases a with
  |none=>exact .inl ⟨rfl,hn⟩
  |some p=>exact .inr ⟨p,rfl,by simp⟩
 |cons r rows=>
  obtain ⟨b,off,vs,e',h1,h2,h3⟩:=hr.flat (by simp);refine ⟨a,n,c,vs,e,hn,h1,h1.cell1 hc,fun O=>⟨by rw[h2,hn],h1.cell1 hc,.inr ⟨_,e',fun j u hj=>⟨b,off,rfl,?_⟩⟩⟩⟩;have:=h3 j u hj;rw[Nat.zero_mul,Nat.add_zero] at this;exact .inl this
section
variable {E:World} {P:Program} {ops:Array Oper} {K:aU→OL→Prop} {env:aU} {O O':OL} {rest:List Oper}
variable {d ty:Nat} {pos:String} {af:Array Edge} {x y z:Operand} {t u e:TypeId}
theorem iT.split {I:G} {O1 O2:OL} {F:List (Nat × Obj)} {E w:World} (hO:O.Perm (O1++O2)) (h:iT I O F E w):∃L2,cO I O2 L2∧iT I O1 (L2++F) E w:=by
 obtain ⟨ht,L,hL,hS⟩:=h;obtain ⟨L',h1,h2⟩:=hL.perm hO;obtain ⟨A,B,rfl,h3,h4⟩:=cO.append.1 h1;exact ⟨B,h4,ht,A,h3,hS.perm (by rw[←List.append_assoc];exact (h2.append_right F).symm)⟩
theorem iT.join {I J:G} {O1 O2:OL} {L2 F:List (Nat × Obj)} {E w:World} (hle:I.le J) (h2:cO I O2 L2) (h:iT J O1 (L2++F) E w):iT J (O1++O2) F E w:=by
 obtain ⟨ht,L,hL,hS⟩:=h;exact ⟨ht,L++L2,cO.append.2 ⟨L,L2,rfl,hL,h2.mono hle⟩,by rw[List.append_assoc];exact hS⟩
theorem iT.drops {I:G} {O1:OL} {L2 F:List (Nat × Obj)} {E w:World} (h:iT I O1 (L2++F) E w):SL I.k (L2++F) E w:=by
 obtain ⟨ht,L,hL,hS⟩:=h;exact hS.dropAll
theorem ax.callA {f:FuncId} {args:List Operand} {tys:Array TypeId} {as0:List AV} {O1 O2:OL} {R:AV→OL→Prop} (ha:args.map (bd env)=as0) (hO:O.Perm (O1++O2)) (hc:aX P E f as0 O1 R)
  (k:∀r O1',R r O1'→ax P E ops K rest (bB env d r) (O1'++O2)):ax P E ops K (Oper.mk (some d) (.call { callee:=.value (.func f),args:=args.toArray,argTypes:=tys }) ty pos af none::rest) env O:=fun I F ρ w h1 h2=>by
 obtain ⟨L2,hL2,h3⟩:=h2.split hO;refine bL.callF (hc I (L2++F) w (args.map (ev ρ)) (ha▸h1.evs args) h3) ?_;rintro v w' ⟨J,r,O1',hle,hr,hS,hR⟩;exact bL.mono (fun _ _=>dB.up hle) _ _ _ (k r O1' hR J F _ _ ((h1.mono hle).upd d hr) (hS.join hle hL2))
theorem ax.callP {f:FuncId} {args:List Operand} {tys:Array TypeId} {as0:List AV} {r:AV} (hc:aS P E f as0 r) (ha:args.map (bd env)=as0)
  (k:ax P E ops K rest (bB env d r) O):ax P E ops K (Oper.mk (some d) (.call { callee:=.value (.func f),args:=args.toArray,argTypes:=tys }) ty pos af none::rest) env O:=fun I F ρ w h1 h2=>by
 obtain ⟨L2,hL2,h3⟩:=h2.split (O1:=[]) (O2:=O) (.refl _);refine bL.callF (hc I (L2++F) w (args.map (ev ρ)) (ha▸h1.evs args) h3) ?_;rintro v w' ⟨J,r',O1',hle,hr,hS,rfl⟩;exact bL.mono (fun _ _=>dB.up hle) _ _ _ (k J F _ _ ((h1.mono hle).upd d hr) ⟨hS.1,L2,hL2.mono hle,hS.drops⟩)
theorem ax.callVP {f:FuncId} {args:List Operand} {tys:Array TypeId} {a c as0:List AV} {r:AV} (hx:bd env x=.fn f a c) (hc:aS P E f as0 r) (ha:a++args.map (bd env)++c=as0)
  (k:ax P E ops K rest (bB env d r) O):ax P E ops K (Oper.mk (some d) (.call { callee:=.value x,args:=args.toArray,argTypes:=tys }) ty pos af none::rest) env O:=fun I F ρ w h1 h2=>by
 obtain ⟨L2,hL2,h3⟩:=h2.split (O1:=[]) (O2:=O) (.refl _);have h4:=h1.ev x;rw[hx] at h4;obtain ⟨vs,us,e,h5,h6⟩:=h4;refine bL.callV e (hc I (L2++F) w (vs++args.map (ev ρ)++us) (ha▸(h5.append (h1.evs args)).append h6) h3) ?_;rintro v w' ⟨J,r',O1',hle,hr,hS,rfl⟩;exact bL.mono (fun _ _=>dB.up hle) _ _ _ (k J F _ _ ((h1.mono hle).upd d hr) ⟨hS.1,L2,hL2.mono hle,hS.drops⟩)
theorem Gv.func {f:FuncId} {l m:List Operand} {a c:List AV} (hl:l.map (bd env)=a) (hm:m.map (bd env)=c):Gv P env O (Oper.mk (some d) (.makeFunc (.func f) l.toArray m.toArray) ty pos af none) (.fn f a c):=Gv.ofEv fun I ρ h=>
 ⟨.func (.func f) (l.map (ev ρ)).toArray (m.map (ev ρ)).toArray,⟨_,_,rfl,hl▸h.evs l,hm▸h.evs m⟩,fun w=>by simp[execOp,Instr.makeFunc]⟩
def aR (E:World) (env:aU) (O:OL) (env':aU) (O':OL):Prop:=∀I F ρ w,fy I env ρ→iT I O F E w→∃J,I.le J∧fy J env' ρ∧iT J O' F E w
end
section
variable {E:World} {P:Program} {n:Nat} {os:Array Oper} {env env':aU} {O O':OL}
theorem aR.wp {c:Code} {Q:Exit→aU→OL→Prop} (g:aR E env O env' O') (h:bY P E n c Q env' O'):bY P E n c Q env O:=fun I F ρ w h1 h2=>by
 obtain ⟨J,hle,h3,h4⟩:=g I F ρ w h1 h2;exact (h J F ρ w h3 h4).mono fun _ _ _=>nS.up hle
theorem aR.ops {K:aU→OL→Prop} {l:List Oper} (g:aR E env O env' O') (h:ax P E os K l env' O'):ax P E os K l env O:=fun I F ρ w h1 h2=>by
 obtain ⟨J,hle,h3,h4⟩:=g I F ρ w h1 h2;exact bL.mono (fun _ _=>dB.up hle) _ _ _ (h J F ρ w h3 h4)
theorem aR.fin {rs:Array ResultVar} {R:AV→OL→Prop} (g:aR E env O env' O') (h:fk P E rs R .ret env' O'):fk P E rs R .ret env O:=fun I F ρ w h1 h2=>by
 obtain ⟨J,hle,h3,h4⟩:=g I F ρ w h1 h2;obtain ⟨v,h5,K,x,O'',h6,h7⟩:=h J F ρ w h3 h4;exact ⟨v,h5,K,x,O'',hle.trans h6,h7⟩
theorem aR.perm (h:O.Perm O'):aR E env O env O':=fun I F ρ w h1 h2=>by
 obtain ⟨L2,hL2,h3⟩:=h2.split (O1:=O') (O2:=[]) (by simpa using h);have:L2=[]:=hL2;subst this;exact ⟨I,.refl _,h1,h3⟩
theorem aR.drop {i:Nat} {o:bC} (h:dI O i o O'):aR E env O env O':=fun I F ρ w h1 h2=>by
 obtain ⟨ht,L,hL,hS⟩:=h2;obtain ⟨A,B,hp,_,hB⟩:=h.rep hL;exact ⟨I,.refl _,h1,ht,B,hB,(hS.perm (by rw[←List.append_assoc];exact (hp.append_right F).symm):SL I.k (A++(B++F)) E w).dropAll⟩
theorem aR.slot {t:Nat} {x y:AV} (hv:env t=x) (hi:∀I v,bW I x v→bW I y v):aR E env O (bB env t y) O:=fun I F ρ w h1 h2=>by
 refine ⟨I,.refl _,fun s=>?_,h2⟩;unfold bB;cases hb:Nat.beq s t with
 |false=>exact h1 s
 |true=>
  have:s=t:=Nat.eq_of_beq_eq_true hb;subst this;exact hi I _ (hv▸h1 s)
end
section
variable {E:World} {P:Program} {n:Nat} {ops:Array Oper} {env:aU} {O O':OL}
theorem gN {c:Code} {Q:Exit→aU→OL→Prop} {t k:Nat} {T:TypeId} (hv:env t=.raw (.slice none 0 0)) (h:∀i,bY P E n c Q (bB env t (.j i 0)) ((i,.u k T [])::O)):bY P E n c Q env O:=fun I F ρ w h1 h2=>by
 obtain ⟨i,hi⟩:=h2.name;obtain ⟨J,e1,hle,e2,htop⟩:=hi (none,0);obtain ⟨_,L,hL,hS⟩:=h2;have h3:ρ t=.slice none 0 0:=by have:=h1 t;rw[hv] at this;exact this
 refine (h i J F ρ w (fun s=>?_) ⟨htop,_,⟨[],L,rfl,⟨none,0,0,[],e2,rfl,by simp,fI.nil k T⟩,hL.mono hle⟩,by rw[e1];exact hS⟩).mono fun _ _ _=>nS.up hle;unfold bB;cases hb:Nat.beq s t with
 |false=>exact bW.mono hle _ _ (h1 s)
 |true=>
  have:s=t:=Nat.eq_of_beq_eq_true hb;subst this;exact ⟨none,0,e2,h3⟩
theorem know {I:G} {F:List (Nat × Obj)} {E w:World} {i k m:Nat} {T:TypeId} {rows:List (List AV)} (hO:dI O i (.u k T rows.flatten) O') (hk:∀r∈rows,r.length=k) (hk0:0<k) (hm:rows.length=m) (h:iT I O F E w) :
  ∃J,I.le J∧iT J O' F E w∧∀v,bW I (.j i m) v→bW J (.fro k rows) v:=by
 obtain ⟨ht,L,hL,hS⟩:=h;obtain ⟨A,B,hp,⟨b,c,n,vs,e1,hvs,hvc,hown⟩,hB⟩:=hO.rep hL;simp only at e1;have hS2:SL I.k (A++(B++F)) E w:=hS.perm (by rw[←List.append_assoc];exact (hp.append_right F).symm);have hflat:rows.flatten.length=rows.length*k:=by
  clear hO hvs hm;induction rows with
  |nil=>simp
  |cons r rows ih=>simp only[List.flatten_cons,List.length_append,List.length_cons,ih (fun r h=>hk r (by simp[h])),hk r (by simp),Nat.add_mul];omega
 have hnm:n=m:=by
  have h5:=hown.1;have h6:=hvs.length;have:n*k=m*k:=by rw[←hm];omega
  exact Nat.eq_of_mul_eq_mul_right hk0 this
 subst hnm;obtain ⟨h5,h6,h7⟩:=hown;rcases h7 with ⟨ea,rfl,rfl⟩|⟨b',junk,ea,rfl,hj⟩
 ·refine ⟨I,.refl _,⟨ht,B,hB,by simpa using hS2⟩,?_⟩;rintro v ⟨b2,c2,e2,rfl⟩;rw[e1] at e2;simp only[Option.some.injEq,Prod.mk.injEq] at e2;obtain ⟨rfl,rfl⟩:=e2;have h0:rows=[]:=List.eq_nil_of_length_eq_zero (by omega);subst h0;exact ⟨adr b,n,0,rfl,hm.symm,h6,fun _=>rfl,trivial⟩
 cases b with
 |none=>simp[adr] at ea
 |some b=>
  simp[adr] at ea;subst ea;obtain ⟨hl,hS3⟩:=SL.freeze (by simpa using hS2:SL I.k ((b,.cells (vs++junk).toArray T (0,0))::(B++F)) E w)
  let J:G:=⟨I.k.put b (.cells (vs++junk).toArray T (0,0)),I.h⟩
  have hle:I.le J:=⟨hl,fun _ _ h=>h⟩;have hb:J.k b=some (.cells (vs++junk).toArray T (0,0)):=bT.put_same _ _ _;refine ⟨J,hle,⟨ht,B,hB.mono hle,hS3⟩,?_⟩;rintro v ⟨b2,c2,e2,rfl⟩;rw[e1] at e2;simp only[Option.some.injEq,Prod.mk.injEq] at e2;obtain ⟨rfl,rfl⟩:=e2;refine ⟨adr (some b),n,c,rfl,hm.symm,h6,fun h=>by simp[adr] at h,RepR.of_flat hb rows vs 0 hk (RepL.mono hle _ _ hvs) fun i u hu=>?_⟩;rw[Nat.zero_mul,Nat.zero_add,List.getElem?_toArray,List.getElem?_append_left (List.getElem?_eq_some_iff.1 hu).1];exact hu
theorem aR.know {t i k m:Nat} {T:TypeId} {rows:List (List AV)} (hv:env t=.j i m) (hO:dI O i (.u k T rows.flatten) O') (hk:∀r∈rows,r.length=k) (hk0:0<k) (hm:rows.length=m):aR E env O (bB env t (.fro k rows)) O':=fun I F ρ w h1 h2=>by
 obtain ⟨J,hle,h3,h4⟩:=Go.Proofs.YtbbonnfjealmpaaGreatDoor.know hO hk hk0 hm h2;refine ⟨J,hle,fun s=>?_,h3⟩;unfold bB;cases hb:Nat.beq s t with
 |false=>exact bW.mono hle _ _ (h1 s)
 |true=>
  have:s=t:=Nat.eq_of_beq_eq_true hb;subst this;exact h4 _ (hv▸h1 s)
end
end
section
open Go.Proofs.Tryz
theorem dn.mono {P:Program} {ops:Array Oper} {S0 S0' S S':World→Prop} {W:Nat→Bool} {Q Q':ei→World→Prop} (hS0:∀w,S0 w→S0' w) (hS:∀w,S w→S' w) (hQ:∀ρ w,Q ρ w→Q' ρ w):∀(fuel:Nat) (listed:Array Bool) (ρ:ei) (w:World),
  dn P ops S0 S W Q fuel listed ρ w→dn P ops S0' S' W Q' fuel listed ρ w
 |0,_,_,_,h=>⟨h.1,hQ _ _ h.2⟩
 |fuel+1,_,_,_,h=>⟨fun h0=>hQ _ _ (h.1 h0),fun i hi o ho=>bL.mono (fun _ _ ⟨a,b⟩=>⟨⟨hS0 _ a.1,a.2.imp id (hS _)⟩,dn.mono hS0 hS hQ fuel _ _ _ b⟩) _ _ _ (h.2 i hi o ho)⟩
def eY (J0:bT) (L:List (Nat × Obj)) (E:World) (w:World):Prop:=∃J L',J0.le J∧SL J L' E w∧∀y∈L,y∈L'
def bJ (P:Program) (E:World) (l:List Oper) (W:Nat→Bool) (Q:aU→OL→Prop) (fuel:Nat) (listed:Array Bool) (env:aU) (Os Om:OL):Prop:=
 ∀I F ρ w Ls,fy I env ρ→cO I Os Ls→iT I Om (Ls++F) E w→dn P l.toArray (eY I.k [] E) (eY I.k Ls E) W (dB I F E Q) fuel listed ρ w
def ru (P:Program) (E:World) (l:List Oper) (W:Nat→Bool) (Q:aU→OL→Prop) (fuel:Nat) (listed:Array Bool) (env:aU) (O:OL):Prop:=
 ∀I F ρ w,fy I env ρ→iT I O F E w→∀S,dn P l.toArray (eY I.k [] E) S W (dB I F E Q) fuel listed ρ w
theorem iT.here {I:G} {Om:OL} {Ls F:List (Nat × Obj)} {E w:World} (h:iT I Om (Ls++F) E w):eY I.k Ls E w:=by
 obtain ⟨_,L,_,hS⟩:=h;exact ⟨I.k,_,.refl _,hS,fun y hy=>by simp[hy]⟩
theorem iT.together {I:G} {Os Om:OL} {Ls F:List (Nat × Obj)} {E w:World} (hs:cO I Os Ls) (h:iT I Om (Ls++F) E w):iT I (Os++Om) F E w:=by
 obtain ⟨ht,L,hL,hS⟩:=h;refine ⟨ht,Ls++L,cO.append.2 ⟨Ls,L,rfl,hs,hL⟩,hS.perm ?_⟩;rw[←List.append_assoc];exact (List.perm_append_comm).append_right F
theorem eY.less {J0:bT} {L:List (Nat × Obj)} {E w:World} (h:eY J0 L E w):eY J0 [] E w:=let ⟨J,L',a,b,_⟩:=h;⟨J,L',a,b,fun _ h=>(by cases h)⟩
section
variable {E:World} {P:Program} {n:Nat} {l:List Oper} {W:Nat→Bool} {Q:aU→OL→Prop} {fuel:Nat} {listed:Array Bool} {env:aU} {O Os Om:OL}
variable {d ty:Nat} {op:Op} {pos:String} {af:Array Edge}
theorem bY.regionDraw (W:Nat→Bool) {Q:Exit→aU→OL→Prop} {id:Nat} (hm:P.follows .mixedOrders=true) (hd:ia n l=true) (hO:O.Perm (Om++Os)) (h:bJ P E l W (Q .normal) l.length (Array.replicate l.length false) env Os Om):bY P E n (.region id l.toArray true) Q env O:=fun I F ρ w h1 h2=>by
 obtain ⟨Ls,hLs,h3⟩:=h2.split hO;refine WP.regionDraw (eY I.k [] E) (eY I.k Ls E) W hm hd fun w' hw=>?_;subst hw;refine h I F ρ _ Ls h1 hLs ?_;obtain ⟨ht,L,hL,hS⟩:=h3;exact ⟨ht,L,hL,hS.drew⟩
theorem G2 {i:Nat} (hr:Region.ready .any l.toArray listed=[i]) (hW:(W i||!ib W listed)=true):gg W (listed.setIfInBounds i true):=by
 have h1:=(mem_ready.1 (show i∈Region.ready .any l.toArray listed by rw[hr];exact .head _)).1;have hi:i<listed.size:=by
  rcases Nat.lt_or_ge i listed.size with h|h
  ·exact h
  rw[Array.getD_eq_getD_getElem?,Array.getElem?_eq_none h] at h1;cases h1
 rcases Bool.or_eq_true_iff.1 hW with h|h
 ·refine ⟨i,?_,h⟩;rw[Array.getD_eq_getD_getElem?,Array.getElem?_setIfInBounds,if_pos rfl,if_pos hi];rfl
 refine og ?_;have h:ib W listed=false:=by simpa using h
 unfold ib at h;obtain ⟨j,_,hj⟩:=List.all_eq_false.1 h;simp only[Bool.not_eq_true,Bool.not_eq_false',Bool.and_eq_true] at hj;exact ⟨j,by simpa using hj⟩
theorem bJ.takeK {i:Nat} {x:AV} (hi:l[i]?=some (Oper.mk (some d) op ty pos af none)) (hs:Region.noSelect l.toArray=true) (hf:Region.free .any l.toArray listed i=true)
  (hr:(Region.ready .any l.toArray listed).contains i=true) (hWi:W i=false) (hg:Gv P env [] (Oper.mk (some d) op ty pos af none) x)
  (h:bJ P E l W Q fuel (listed.setIfInBounds i true) (bB env d x) Os Om):bJ P E l W Q (fuel+1) listed env Os Om:=fun I F ρ w Ls h1 hLs h2=>by
 obtain ⟨v,hv,hrun⟩:=hg I [] E ρ h1 rfl;exact dn.takeK hi hs hf hr hWi h2.here.less (.inr h2.here) (fun w ⟨J,L',a,b,c⟩=>hrun w J L' a b c) (h I F _ w Ls (h1.upd d hv) hLs h2)
theorem bJ.take {i:Nat} {x:AV} (hi:l[i]?=some (Oper.mk (some d) op ty pos af none)) (hs:Region.noSelect l.toArray=true) (hf:Region.free .any l.toArray listed i=true)
  (hr:(Region.ready .any l.toArray listed).contains i=true) (hW:jW l i W=true) (hWi:W i=false) (hcl:ib W listed=true) (hg:Gv P env Os (Oper.mk (some d) op ty pos af none) x)
  (h:bJ P E l W Q fuel (listed.setIfInBounds i true) (bB env d x) Os Om):bJ P E l W Q (fuel+1) listed env Os Om:=fun I F ρ w Ls h1 hLs h2=>by
 obtain ⟨v,hv,hrun⟩:=hg I Ls E ρ h1 hLs;exact dn.take hi hs hf hr hW hWi hcl h2.here.less h2.here (fun w ⟨J,L',a,b,c⟩=>hrun w J L' a b c) (h I F _ w Ls (h1.upd d hv) hLs h2)
theorem bJ.takeT {i j s:Nat} {b t:Bool} {x:AV} (hi:l[i]?=some (Oper.mk (some d) op ty pos af (some (j,b)))) (hg0:(l[j]?).bind (fun o:Oper=>o.dst)=some s) (hv0:env s=.bool t) (ht:t=b) (hs:Region.noSelect l.toArray=true) (hf:Region.free .any l.toArray listed i=true)
  (hr:(Region.ready .any l.toArray listed).contains i=true) (hW:jW l i W=true) (hWi:W i=false) (hcl:ib W listed=true) (hg:Gv P env Os (Oper.mk (some d) op ty pos af none) x)
  (h:bJ P E l W Q fuel (listed.setIfInBounds i true) (bB env d x) Os Om):bJ P E l W Q (fuel+1) listed env Os Om:=fun I F ρ w Ls h1 hLs h2=>by
 obtain ⟨v,hv,hrun⟩:=hg I Ls E ρ h1 hLs;exact dn.takeT hi hg0 (by have:=h1 s;rw[hv0] at this;exact this) ht hs hf hr hW hWi hcl h2.here.less h2.here (fun w ⟨J,L',a,b,c⟩=>hrun w J L' a b c) (h I F _ w Ls (h1.upd d hv) hLs h2)
theorem bJ.takeF {i j s:Nat} {b t:Bool} (hi:l[i]?=some (Oper.mk (some d) op ty pos af (some (j,b)))) (hg0:(l[j]?).bind (fun o:Oper=>o.dst)=some s) (hv0:env s=.bool t) (ht:t=!b) (hs:Region.noSelect l.toArray=true) (hf:Region.free .any l.toArray listed i=true)
  (hr:(Region.ready .any l.toArray listed).contains i=true) (hW:jW l i W=true) (hWi:W i=false) (hcl:ib W listed=true)
  (h:bJ P E l W Q fuel (listed.setIfInBounds i true) (bB env d (.raw undef)) Os Om):bJ P E l W Q (fuel+1) listed env Os Om:=fun I F ρ w Ls h1 hLs h2=>
 dn.takeF hi hg0 (by have:=h1 s;rw[hv0] at this;exact this) ht hs hf hr hW hWi hcl h2.here.less h2.here (h I F _ w Ls (h1.upd d rfl) hLs h2)
theorem bJ.one {i:Nat} {o:Oper} (hi:l[i]?=some o) (hr:Region.ready .any l.toArray listed=[i])
  (h:ax P E l.toArray (fun env' Om'=>bJ P E l W Q fuel (listed.setIfInBounds i true) env' Os Om') [o] env Om):bJ P E l W Q (fuel+1) listed env Os Om:=fun I F ρ w Ls h1 hLs h2=>
 dn.one hi hr (bL.mono (fun ρ' w' ⟨J,env',Om',a,b,c,d⟩=>by
  have hst:eY I.k Ls E w':=by
   obtain ⟨J',L',h3,h4,h5⟩:=c.here;exact ⟨J',L',a.k.trans h3,h4,h5⟩
  refine ⟨⟨hst.less,.inr hst⟩,dn.mono ?_ ?_ (fun _ _=>dB.up a) _ _ _ _ (d J F ρ' w' Ls b (hLs.mono a) c)⟩
  ·rintro w ⟨J',L',h3,h4⟩;exact ⟨J',L',a.k.trans h3,h4⟩
  rintro w ⟨J',L',h3,h4⟩;exact ⟨J',L',a.k.trans h3,h4⟩) _ _ _ (h I (Ls++F) ρ w h1 h2))
theorem bJ.done (hr:Region.ready .any l.toArray listed=[]) (h:Q env (Os++Om)):bJ P E l W Q fuel listed env Os Om:=fun I F ρ w Ls h1 hLs h2=>
 dn.done hr ⟨I,env,Os++Om,.refl _,h1,iT.together hLs h2,h⟩
theorem bJ.case {t:Bool} {s:Nat} (_:env s=.bool t) (h1:t=true→bJ P E l W Q fuel listed env Os Om) (h2:t=false→bJ P E l W Q fuel listed env Os Om):bJ P E l W Q fuel listed env Os Om:=by
 cases t
 ·exact h2 rfl
 exact h1 rfl
theorem bJ.writes (h:ru P E l W Q fuel listed env (Os++Om)):bJ P E l W Q fuel listed env Os Om:=fun I F ρ w Ls h1 hLs h2=>h I F ρ w h1 (iT.together hLs h2) _
theorem ru.one {i:Nat} {o:Oper} (hi:l[i]?=some o) (hr:Region.ready .any l.toArray listed=[i]) (hW:(W i||!ib W listed)=true)
  (h:ax P E l.toArray (fun env' O'=>ru P E l W Q fuel (listed.setIfInBounds i true) env' O') [o] env O):ru P E l W Q (fuel+1) listed env O:=fun I F ρ w h1 h2 S=>
 dn.one hi hr (bL.mono (fun ρ' w' ⟨J,env',O',a,b,c,d⟩=>⟨⟨(by
  obtain ⟨_,L',_,h4⟩:=c;exact ⟨J.k,_,a.k,h4,fun _ h=>(by cases h)⟩),.inl (G2 hr hW)⟩,dn.mono (fun _ ⟨J',L',h3,h4⟩=>⟨J',L',a.k.trans h3,h4⟩) (fun _ h=>h) (fun _ _=>dB.up a) _ _ _ _ (d J F ρ' w' b c S)⟩) _ _ _ (h I F ρ w h1 h2))
theorem ru.done (hr:Region.ready .any l.toArray listed=[]) (h:Q env O):ru P E l W Q fuel listed env O:=fun I F ρ w h1 h2 S=>
 dn.done hr ⟨I,env,O,.refl _,h1,h2,h⟩
end
theorem RepL.same {I J:G} (hle:I.le J):∀{cs:List AV} {vs:List Value},RepL I cs vs→∀{off:Nat} {x y:AV},cs[off]?=some x→(∀v,bW I x v→bW J y v)→RepL J (cs.set off y) vs
 |[],_,_,_,_,_,h,_=>by simp at h
 |c::cs,_,⟨v,us,e,h1,h2⟩,off,x,y,h,hxy=>by
  subst e;cases off with
  |zero=>simp at h;subst h;exact ⟨v,us,rfl,hxy v h1,RepL.mono hle _ _ h2⟩
  |succ off=>exact ⟨v,us,rfl,bW.mono hle _ _ h1,RepL.same hle h2 (by simpa using h) hxy⟩
section
variable {E:World} {P:Program} {n:Nat} {env:aU} {O O' O'':OL}
theorem gc.same {I J:G} {F:List (Nat × Obj)} {E w:World} {j off:Nat} {T:TypeId} {cs:List AV} {x y:AV} (hle:I.le J) (hk:J.k=I.k∨True) (hp:gc O j (.cells T cs) (.cells T (cs.set off y)) O') (hc:cs[off]?=some x) (hxy:∀v,bW I x v→bW J y v)
  {L:List (Nat × Obj)} (hL:cO I O L):∃L',cO J O' L'∧L.Perm L':=by
 obtain ⟨A,B,hp1,⟨b,c,vs,e1,hvs,hvc,rfl⟩,hback⟩:=hp.rep hL;obtain ⟨L',h1,h2⟩:=hback hle (A':=[(b,.cells vs.toArray T (0,0))]) ⟨b,c,vs,hle.h _ _ e1,hvs.same hle hc hxy,hvc,rfl⟩;exact ⟨L',h1,hp1.trans h2.symm⟩
theorem aR.knowC {j off i k m:Nat} {T T':TypeId} {cs:List AV} {rows:List (List AV)} (hO:dI O i (.u k T rows.flatten) O') (hP:gc O' j (.cells T' cs) (.cells T' (cs.set off (.fro k rows))) O'') (hc:cs[off]?=some (.j i m))
  (hk:∀r∈rows,r.length=k) (hk0:0<k) (hm:rows.length=m):aR E env O env O'':=fun I F ρ w h1 h2=>by
 obtain ⟨J,hle,h3,h4⟩:=Go.Proofs.YtbbonnfjealmpaaGreatDoor.know hO hk hk0 hm h2;obtain ⟨ht,L,hL,hS⟩:=h3;obtain ⟨_,L0,hL0,hS0⟩:=h2;obtain ⟨A,B,hp,⟨b,c,vs,e1,hvs,hvc,rfl⟩,hback⟩:=hP.rep hL;obtain ⟨A0,B0,hp0,_,hB0⟩:=hO.rep hL0;obtain ⟨A1,B1,hp1,⟨b1,c1,vs1,e2,hvs1,hvc1,rfl⟩,_⟩:=hP.rep hB0;have e3:=hle.h _ _ e2;simp only at e1 e3;rw[e1] at e3;simp only[Option.some.injEq,Prod.mk.injEq] at e3;obtain ⟨rfl,rfl⟩:=e3;have hS1:SL I.k (A0++(B0++F)) E w:=hS0.perm (by rw[←List.append_assoc];exact (hp0.append_right F).symm);have hv1:=hS1.j (b,.cells vs1.toArray T' (0,0)) (by simp;right;left;exact hp1.mem_iff.2 (by simp));have hv:=hS.j (b,.cells vs.toArray T' (0,0)) (by simp;left;exact hp.mem_iff.2 (by simp));simp only at hv hv1;rw[hv] at hv1;simp only[Option.some.injEq,Obj.cells.injEq] at hv1;have hvv:vs=vs1:=by have:=congrArg Array.toList hv1.1;simpa using this
 subst hvv;obtain ⟨L',h5,h6⟩:=hback (G.le.refl J) (A':=[(b,.cells vs.toArray T' (0,0))]) ⟨b,c,vs,e1,hvs1.same hle hc h4,hvc,rfl⟩;exact ⟨J,hle,h1.mono hle,ht,L',h5,hS.perm (((h6.trans hp.symm).append_right F))⟩
theorem fY {j off k:Nat} {T T':TypeId} {cs:List AV} {c:Code} {Q:Exit→aU→OL→Prop} {f:Nat→OL} (hP:∀i,gc O j (.cells T' cs) (.cells T' (cs.set off (.j i 0))) (f i)) (hc:cs[off]?=some (.raw (.slice none 0 0)))
  (h:∀i,bY P E n c Q env ((i,.u k T [])::f i)):bY P E n c Q env O:=fun I F ρ w h1 h2=>by
 obtain ⟨i,hi⟩:=h2.name;obtain ⟨J,e1,hle,e2,htop⟩:=hi (none,0);obtain ⟨_,L,hL,hS⟩:=h2;obtain ⟨L',h3,h4⟩:=gc.same (F:=F) (E:=E) (w:=w) hle (.inr trivial) (hP i) hc (fun v hv=>⟨none,0,e2,hv⟩) hL;exact (h i J F ρ w (h1.mono hle) ⟨htop,_,⟨[],L',rfl,⟨none,0,0,[],e2,rfl,by simp,fI.nil k T⟩,h3⟩,by rw[e1];exact hS.perm (h4.symm.append_right F)⟩).mono fun _ _ _=>nS.up hle
end
def AV.plain:AV→Bool
 |.bool _ | .int _ _ | .str _=>true
 |_=>false
theorem AV.plain_rep {I J:G} {x:AV} {v:Value} (hp:x.plain=true) (h:bW I x v):bW J x v:=by
 cases x<;>first|exact h|cases hp
theorem zG {k:Nat} {rows:List (List AV)} (hk:∀r∈rows,r.length=k):rows.flatten.length=rows.length*k:=by
 induction rows with
 |nil=>simp
 |cons r rows ih=>simp only[List.flatten_cons,List.length_append,List.length_cons,ih (fun r h=>hk r (by simp[h])),hk r (by simp),Nat.add_mul];omega
end
section
open Go.Proofs.Tryz
inductive zH:OL→OL→OL→Prop
 |rest (O):zH O O []
 |l {x O A B}:zH O A B→zH (x::O) (x::A) B
 |r {x O A B}:zH O A B→zH (x::O) A (x::B)
theorem zH.perm {O A B:OL} (h:zH O A B):O.Perm (A++B):=by
 induction h with
 |rest=>simp
 |l _ ih=>exact ih.cons _
 |r _ ih=>exact (ih.cons _).trans List.perm_middle.symm
section
variable {E:World} {P:Program} {n:Nat} {ops:Array Oper} {K:aU→OL→Prop} {env:aU} {O O':OL} {rest:List Oper}
variable {d ty:Nat} {pos:String} {af:Array Edge} {x y z:Operand} {t u e:TypeId}
theorem ax.storeW {i m:Nat} {T:TypeId} {v:AV} {cs l:List AV} (hs:∀w,(sizeOf t).run P w=.ok m w) (hx:bd env x=.po i 0) (hy:bd env y=v) (hv:v.sto=true) (hl:v.cs=l) (hl1:l.all AV.cell=true) (hn:l.length=m)
  (hO:gc O i (.cells T cs) (.cells T l) O') (hb:cs.length=m) (k:ax P E ops K rest env O'):ax P E ops K (Oper.mk none (.store t x y) ty pos af none::rest) env O:=
 ax.storeC (off:=0) hs hx hy hv hl hl1 hn hO (by rw[hb];simp) (by rw[Nat.zero_add,List.drop_eq_nil_of_le (by omega)];simp) k
theorem ax.storeG {i off m k:Nat} {T:TypeId} {v:AV} {cs l new:List AV} (hs:∀w,(sizeOf t).run P w=.ok m w) (hx:bd env x=.po i off) (hy:bd env y=v) (hv:v.sto=true) (hl:v.cs=l) (hl1:l.all AV.cell=true) (hn:l.length=m)
  (hO:gc O i (.u k T cs) (.u k T new) O') (hb:off+m≤cs.length) (hm:0<m) (hnew:cs.take off++l++cs.drop (off+m)=new) (kk:ax P E ops K rest env O'):ax P E ops K (Oper.mk none (.store t x y) ty pos af none::rest) env O:=fun I F ρ w h1 h2=>by
 obtain ⟨htop,L,hL,hS⟩:=h2;have h3:=h1.ev x;rw[hx] at h3;obtain ⟨b,c,e1,e⟩:=h3;have h4:=h1.ev y;rw[hy] at h4;have h5:=AV.cs_rep h4 hv;rw[hl] at h5;obtain ⟨A,B,hp,⟨b',c',n',vs,e2,h6,h6c,hown⟩,hback⟩:=hO.rep hL;simp only at e2;rw[e1] at e2;simp only[Option.some.injEq,Prod.mk.injEq] at e2;obtain ⟨rfl,rfl⟩:=e2;obtain ⟨g1,g2,g3⟩:=hown;rcases g3 with ⟨g3,_,_⟩|⟨b'',junk,g3,rfl,g4⟩
 ·simp[adr] at g3
 simp[adr] at g3;subst g3;have hS2:SL I.k ((b,.cells (vs++junk).toArray T (0,0))::(B++F)) E w:=hS.perm ((hp.append_right F).symm);have hlen:=h6.length;have hrun:=rr (P:=P) (t:=t) (b:=b) (off:=off) (v:=ev ρ y) (vs:=(ev ρ y).cells.toList) (old:=vs++junk) (w:=w) hs (by simp) (by rw[h5.length,hn]) (h5.cell1 hl1) (by rw[List.length_append];omega) (hS2.j _ (.head _));have hre:(vs++junk).take off++(ev ρ y).cells.toList++(vs++junk).drop (off+m)=(vs.take off++(ev ρ y).cells.toList++vs.drop (off+m))++junk:=by
  rw[List.take_append_of_le_length (by omega),List.drop_append_of_le_length (by omega)];simp
 rw[hre] at hrun;refine bL.step rfl ?_;unfold mJ;have:(execOp (ev ρ) (Oper.mk none (.store t x y) ty pos af none)).run P w=.ok .skip (w.setRow b ((vs.take off++(ev ρ y).cells.toList++vs.drop (off+m))++junk).toArray):=by
  simp only[execOp,e];rw[Sem.run_bind,hrun];rfl
 rw[this];have hnr:RepL I new (vs.take off++(ev ρ y).cells.toList++vs.drop (off+m)):=hnew▸((h6.take off).append h5).append (h6.drop (off+m));have hnl:(vs.take off++(ev ρ y).cells.toList++vs.drop (off+m)).length=vs.length:=by
  have:=h5.length;simp only[List.length_append,List.length_take,List.length_drop];omega
 obtain ⟨L',h7,h8⟩:=hback (G.le.refl I) (A':=[(b,.cells ((vs.take off++(ev ρ y).cells.toList++vs.drop (off+m))++junk).toArray T (0,0))]) ⟨some b,_,n',_,e1,hnr,by
  intro u hu;simp only[List.mem_append] at hu;rcases hu with (hu|hu)|hu
  ·exact h6c u (List.mem_of_mem_take hu)
  ·exact h5.cell1 hl1 u hu
  exact h6c u (List.mem_of_mem_drop hu),by rw[hnl];exact g1,g2,.inr ⟨b,junk,rfl,rfl,by
  simp only[List.length_append] at g4 ⊢;simp only[List.length_append] at hnl;omega⟩⟩
 exact kk I F ρ _ h1 ⟨htop,L',h7,(hS2.turn1).perm (h8.append_right F)⟩
theorem ax.storeG1 {i off k:Nat} {T:TypeId} {v:AV} {cs:List AV} (hs:∀w,(sizeOf t).run P w=.ok 1 w) (hx:bd env x=.po i off) (hy:bd env y=v) (hv:v.sto=true) (hl:v.cs=[v]) (hl1:v.cell=true)
  (hO:gc O i (.u k T cs) (.u k T (cs.set off v)) O') (hb:off<cs.length) (kk:ax P E ops K rest env O'):ax P E ops K (Oper.mk none (.store t x y) ty pos af none::rest) env O:=
 ax.storeG hs hx hy hv hl (by simp[hl1]) rfl hO (by omega) (by omega) (by rw[List.set_eq_take_append_cons_drop,if_pos hb];simp) kk
theorem Gv.field1 {fs:Array Field} {f:Field} {i:Nat} {cs:List AV} {v:AV} (ht:P.underlying t=some (.struct fs)) (hf:fs[i]?=some f) (ha:∀w,(isAgg f.type).run P w=.ok false w) (hx:bd env x=.agg cs) (hv:cs[f.offset]?=some v) :
  Gv P env O (Oper.mk (some d) (.field t x i) ty pos af none) v:=Gv.ofEv fun I ρ h=>by
 have h2:=h.ev x;rw[hx] at h2;obtain ⟨vs,e,hr⟩:=h2;obtain ⟨u,hu,hru⟩:=hr.get hv;exact ⟨u,hru,fun w=>by simp[execOp,e,Instr.field,run_underlying ht,hf,part,ha,hu,asAgg,Result.andThen]⟩
theorem Gv.fieldA {fs:Array Field} {f:Field} {i sz:Nat} {cs l:List AV} (ht:P.underlying t=some (.struct fs)) (hf:fs[i]?=some f) (ha:∀w,(isAgg f.type).run P w=.ok true w) (hs:∀w,(sizeOf f.type).run P w=.ok sz w) (hx:bd env x=.agg cs) (hl:(cs.drop f.offset).take sz=l) :
  Gv P env O (Oper.mk (some d) (.field t x i) ty pos af none) (.agg l):=Gv.ofEv fun I ρ h=>by
 have h2:=h.ev x;rw[hx] at h2;obtain ⟨vs,e,hr⟩:=h2;refine ⟨.agg ((vs.drop f.offset).take sz).toArray,⟨_,rfl,hl▸(hr.drop _).take _⟩,fun w=>?_⟩;simp[execOp,e,Instr.field,run_underlying ht,hf,part,ha,hs,asAgg,Result.andThen]
theorem Gv.idxAF {n k j:Nat} {i:Int} {cs cs':List AV} (ht:P.underlying t=some (.array n e)) (hs:∀w,(sizeOf e).run P w=.ok k w) (hx:bd env x=.pf cs) (hy:bd env y=.int .i64 i) (hi:i=(j:Int)) (hj:j<n) (hl:cs.drop (j*k)=cs') :
  Gv P env O (Oper.mk (some d) (.indexAddr t x y) ty pos af none) (.pf cs'):=fun I L E ρ h1 _=>by
 have h2:=h1.ev x;rw[hx] at h2;obtain ⟨b,off,vs,ex,h3,h5⟩:=h2;refine ⟨.pointer (some ⟨b,off+j*k,none⟩),⟨b,_,vs.drop (j*k),rfl,hl▸h3.drop _,fun m u hu=>?_⟩,fun w J L' _ _ _=>?_⟩
 ·rw[List.getElem?_drop] at hu;have:=h5 _ _ hu
  rwa [←Nat.add_assoc] at this
 subst hi;simp[execOp,ex,gV h1 hy,Instr.indexAt,asIntOf,run_underlying ht,hs,hj,ec,Instr.sureAddr]
theorem Gv.idxAO {n k j id off:Nat} {i:Int} (ht:P.underlying t=some (.array n e)) (hs:∀w,(sizeOf e).run P w=.ok k w) (hx:bd env x=.po id off) (hy:bd env y=.int .i64 i) (hi:i=(j:Int)) (hj:j<n) {r:Nat} (hr:off+j*k=r) :
  Gv P env O (Oper.mk (some d) (.indexAddr t x y) ty pos af none) (.po id r):=fun I L E ρ h1 _=>by
 have h2:=h1.ev x;rw[hx] at h2;obtain ⟨b,c,e1,ex⟩:=h2;refine ⟨.pointer (some ⟨b,r,none⟩),⟨b,c,e1,rfl⟩,fun w J L' _ _ _=>?_⟩;subst hi hr;simp[execOp,ex,gV h1 hy,Instr.indexAt,asIntOf,run_underlying ht,hs,hj,ec,Instr.sureAddr]
theorem Gv.index1 {n j:Nat} {i:Int} {cs:List AV} {v:AV} (ht:P.underlying t=some (.array n e)) (ha:∀w,(isAgg e).run P w=.ok false w) (hs:∀w,(sizeOf e).run P w=.ok 1 w) (hx:bd env x=.agg cs) (hy:bd env y=.int .i64 i) (hi:i=(j:Int)) (hj:j<n) (hv:cs[j]?=some v) :
  Gv P env O (Oper.mk (some d) (.index t x y) ty pos af none) v:=Gv.ofEv fun I ρ h=>by
 have h2:=h.ev x;rw[hx] at h2;obtain ⟨vs,ex,hr⟩:=h2;obtain ⟨u,hu,hru⟩:=hr.get hv;refine ⟨u,hru,fun w=>?_⟩;subst hi;simp[execOp,ex,gV h hy,Instr.index,asIntOf,run_underlying ht,hj,hs,part,ha,hu,Result.andThen]
theorem Gv.indexA {n j k:Nat} {i:Int} {cs l:List AV} (ht:P.underlying t=some (.array n e)) (ha:∀w,(isAgg e).run P w=.ok true w) (hs:∀w,(sizeOf e).run P w=.ok k w) (hx:bd env x=.agg cs) (hy:bd env y=.int .i64 i) (hi:i=(j:Int)) (hj:j<n) (hl:(cs.drop (j*k)).take k=l) :
  Gv P env O (Oper.mk (some d) (.index t x y) ty pos af none) (.agg l):=Gv.ofEv fun I ρ h=>by
 have h2:=h.ev x;rw[hx] at h2;obtain ⟨vs,ex,hr⟩:=h2;refine ⟨.agg ((vs.drop (j*k)).take k).toArray,⟨_,rfl,hl▸(hr.drop _).take _⟩,fun w=>?_⟩;subst hi;simp[execOp,ex,gV h hy,Instr.index,asIntOf,run_underlying ht,hj,hs,part,ha,Result.andThen]
theorem Gv.indexT {j:Nat} {i:Int} {s:ByteArray} {c:UInt8} (ht:P.underlying t=some .string) (hx:bd env x=.str s) (hy:bd env y=.int .i64 i) (hi:i=(j:Int)) (hv:s.data[j]?=some c) :
  Gv P env O (Oper.mk (some d) (.index t x y) ty pos af none) (.int .u8 c.toNat):=Gv.ofEv fun I ρ h=>by
 refine ⟨_,rfl,fun w=>?_⟩;subst hi;have hj:s[j]?=some c:=by
  have h1:=(Array.getElem?_eq_some_iff.1 hv);obtain ⟨h1,h2⟩:=h1;show (if h:j<s.size then some s[j] else none)=some c;rw[dif_pos (show j<s.size from h1)];exact congrArg some h2
 simp[execOp,GZ h hx,gV h hy,Instr.index,asIntOf,run_underlying ht,hj]
theorem ax.rangeT {s:ByteArray} (ht:P.underlying t=some .string) (hx:bd env x=.str s) (k:∀i,ax P E ops K rest (bB env d (.po i 0)) ((i,.iter s 0)::O)):ax P E ops K (Oper.mk (some d) (.range t x) ty pos af none::rest) env O:=fun I F ρ w h1 h2=>by
 obtain ⟨L,hL,hS⟩:=h2.2;obtain ⟨i,hi⟩:=h2.name;refine bL.rangeT ht hS (GZ h1 hx) fun b w' hS'=>?_;obtain ⟨J,e1,hle,e2,htop⟩:=hi (some b,0);exact bL.mono (fun _ _=>dB.up hle) _ _ _ (k i J F _ _ ((h1.mono hle).upd d ⟨b,0,e2,rfl⟩) ⟨htop,_,⟨_,L,rfl,⟨b,0,e2,rfl⟩,hL.mono hle⟩,by rw[e1];exact hS'⟩)
theorem ax.nextT {i p:Nat} {s:ByteArray} (hx:bd env x=.po i 0) (hO:gc O i (.iter s p) (.iter s (p+(Utf8.decode s p).2)) O') (hp:p<s.size)
  (k:ax P E ops K rest (bB env d (.tup [.bool true,.int .i64 p,.int .i32 (Utf8.decode s p).1])) O'):ax P E ops K (Oper.mk (some d) (.next x true) ty pos af none::rest) env O:=fun I F ρ w h1 h2=>by
 obtain ⟨ht,L,hL,hS⟩:=h2;have h3:=h1.ev x;rw[hx] at h3;obtain ⟨b,c,e1,e⟩:=h3;obtain ⟨A,B,hp1,⟨b',c',e2,rfl⟩,hback⟩:=hO.rep hL;simp only at e2;rw[e1] at e2;simp only[Option.some.injEq,Prod.mk.injEq] at e2;obtain ⟨rfl,rfl⟩:=e2;have hS2:SL I.k ((b,.stringIter s p)::(B++F)) E w:=hS.perm ((hp1.append_right F).symm);refine bL.nextT hS2 e hp fun w' hS'=>?_;obtain ⟨L',h7,h8⟩:=hback (G.le.refl I) (A':=[(b,.stringIter s (p+(Utf8.decode s p).2))]) ⟨b,c,e1,rfl⟩;exact k I F _ _ (h1.upd d ⟨[.bool true,.int .i64 p,.int .i32 (Utf8.decode s p).1],rfl,⟨_,_,rfl,rfl,⟨_,_,rfl,rfl,⟨_,_,rfl,rfl,rfl⟩⟩⟩⟩) ⟨ht,L',h7,hS'.perm (h8.append_right F)⟩
theorem ax.nextTover {i p:Nat} {s:ByteArray} (hx:bd env x=.po i 0) (hO:dI O i (.iter s p) O') (hp:¬p<s.size)
  (k:ax P E ops K rest (bB env d (.tup [.bool false])) O):ax P E ops K (Oper.mk (some d) (.next x true) ty pos af none::rest) env O:=fun I F ρ w h1 h2=>by
 obtain ⟨ht,L,hL,hS⟩:=id h2;have h3:=h1.ev x;rw[hx] at h3;obtain ⟨b,c,e1,e⟩:=h3;obtain ⟨A,B,hp1,⟨b',c',e2,rfl⟩,_⟩:=hO.rep hL;simp only at e2;rw[e1] at e2;simp only[Option.some.injEq,Prod.mk.injEq] at e2;obtain ⟨rfl,rfl⟩:=e2;have hS2:SL I.k ((b,.stringIter s p)::(B++F)) E w:=hS.perm (by have:=(hp1.append_right F).symm;simpa using this);exact bL.nextTover hS2 e hp (k I F _ _ (h1.upd d ⟨[.bool false],rfl,⟨_,_,rfl,rfl,rfl⟩⟩) h2)
theorem ax.nextA {i p:Nat} {s:ByteArray} {c:UInt8} (hx:bd env x=.po i 0) (hc:s.data[p]?=some c) (hc2:c<128) (hO:gc O i (.iter s p) (.iter s (p+1)) O')
  (k:ax P E ops K rest (bB env d (.tup [.bool true,.int .i64 p,.int .i32 (c.toNat:Int)])) O'):ax P E ops K (Oper.mk (some d) (.next x true) ty pos af none::rest) env O:=by
 have hp:p<s.size:=by
  by_cases hp:p<s.data.size
  ·exact hp
  rw[Array.getElem?_eq_none (by omega)] at hc;cases hc
 have hd:=xr hc hc2;exact ax.nextT hx (by rw[hd];exact hO) hp (by rw[hd];exact k)
end
end
section
open Go.Proofs.Tryz
theorem p8 {k:Nat}:∀(xs:List (List AV)) (i:Nat) (pre zs:List AV),(∀x∈xs,x.length=k)→zs.length=xs.length*k→pre.length=i*k →
  mi (fun i=>some (i*k,k)) (pre++zs) ((xs.zipIdx i).map fun p=>(p.2,p.1))=some (pre++xs.flatten)
 |[],i,pre,zs,_,h,_=>by simp at h;subst h;simp[mi]
 |x::xs,i,pre,zs,hk,h,hp=>by
  have hx:=hk x (by simp);have e1:Nat.beq x.length k=true:=by rw[hx];exact Nat.beq_refl k
  have e2:Nat.ble (i*k+k) (pre++zs).length=true:=by
   rw[Nat.ble_eq,List.length_append,hp,h,List.length_cons,Nat.add_mul];omega
  simp only[List.zipIdx_cons,List.map_cons,mi,e1,e2,Bool.and_self,cond_true];have h1:(pre++zs).take (i*k)=pre:=by rw[←hp];simp
  have h2:(pre++zs).drop (i*k+k)=zs.drop k:=by rw[←hp,List.drop_append];simp
  rw[h1,h2,←List.append_assoc];rw[p8 xs (i+1) (pre++x) (zs.drop k) (fun y hy=>hk y (by simp[hy])) (by rw[List.length_drop,h,List.length_cons,Nat.add_mul];omega) (by rw[List.length_append,hp,hx,Nat.add_mul];omega)];simp
theorem DR {α:Type} {enc:α→List AV} {k:Nat} (hk:∀x,(enc x).length=k):∀(l:List α) (j:Nat) {x:α},l[j]?=some x→((l.flatMap enc).drop (j*k)).take k=enc x
 |[],j,x,h=>by simp at h
 |y::l,0,x,h=>by simp at h;subst h;simp[List.take_append_of_le_length,hk]
 |y::l,j+1,x,h=>by
  simp only[List.getElem?_cons_succ] at h;rw[←DR hk l j h,List.flatMap_cons,Nat.add_mul,Nat.one_mul,Nat.add_comm,←List.drop_drop]
  congr 2
  rw[←hk y];simp
section
variable {E:World} {P:Program} {env:aU} {O:OL} {d ty:Nat} {pos:String} {af:Array Edge} {t:TypeId}
theorem Gv.buildAF {k:Nat} {zs:List AV} {xs:List (List AV)} {l:List (Nat × Operand)} (hpl:lJ P t k zs) (hs:l.all (fun p=>(bd env p.2).sto)=true) (hv:l.map (fun p=>(p.1,(bd env p.2).cs))=(xs.zipIdx 0).map fun p=>(p.2,p.1))
  (hk:xs.all (fun x=>Nat.beq x.length k)=true) (hz:zs.length=xs.length*k):Gv P env O (Oper.mk (some d) (.build t l.toArray) ty pos af none) (.agg xs.flatten):=
 Gv.buildA hpl hs hv (by
  have:=p8 xs 0 [] zs (fun x hx=>Nat.eq_of_beq_eq_true (List.all_eq_true.1 hk x hx)) hz (by simp)
  simpa using this)
end
inductive sw:OL→Nat→bC→Nat→bC→OL→Prop
 |head {i o j o' O}:sw ((i,o)::O) i o j o' ((j,o')::O)
 |tail {x O i o j o' O'}:sw O i o j o' O'→sw (x::O) i o j o' (x::O')
theorem sw.rep {I:G} {O O':OL} {i j:Nat} {o o':bC} (h:sw O i o j o' O'):∀{L},cO I O L→∃A B,L.Perm (A++B)∧sR I (i,o) A ∧
  ∀{J:G} {A'},I.le J→sR J (j,o') A'→∃L',cO J O' L'∧L'.Perm (A'++B):=by
 induction h with
 |head=>rintro L ⟨A,B,e,h1,h2⟩;exact ⟨A,B,e▸.refl _,h1,fun {J A'} hl h=>⟨A'++B,⟨A',B,rfl,h,h2.mono hl⟩,.refl _⟩⟩
 |tail h ih=>
  rintro L ⟨A,B,e,h1,h2⟩;obtain ⟨Cq0,Dq0,hp,h3,h4⟩:=ih h2;refine ⟨Cq0,A++Dq0,?_,h3,fun {J A'} hl h=>?_⟩
  ·subst e;refine (hp.append_left A).trans ?_;rw[←List.append_assoc,←List.append_assoc];exact List.perm_append_comm.append_right Dq0
  obtain ⟨L',h5,h6⟩:=h4 hl h;refine ⟨A++L',⟨A,L',rfl,h1.mono hl,h5⟩,?_⟩;refine (h6.append_left A).trans ?_;rw[←List.append_assoc,←List.append_assoc];exact List.perm_append_comm.append_right Dq0
section
variable {E:World} {P:Program} {ops:Array Oper} {K:aU→OL→Prop} {env:aU} {O O':OL} {rest:List Oper}
variable {d ty:Nat} {pos:String} {af:Array Edge} {x y z:Operand} {t u e:TypeId}
theorem ax.appendS {ti:TypeInfo} {zv:Value} {k n i:Nat} {cs:List AV} {rows:List (List AV)} {f:Nat→OL} (ht:P.underlying t=some (.slice e)) (hi:P.info? e=some ti) (hz:ti.zero=some zv) (hk:ti.size=k) (hzc:zv.cells.size=k)
  (hx:bd env x=.j i n) (hy:bd env y=.fro k rows) (hO:∀j,sw O i (.u k e cs) j (.u k e (cs++rows.flatten)) (f j)) (hn:cs.length=n*k) (hk0:0<k) (hc1:rows.flatten.all AV.cell=true) (hb:(n+rows.length)*ti.bytes≤140737488355328) (hb2:n+rows.length≤140737488355328)
  (kk:∀j,ax P E ops K rest (bB env d (.j j (n+rows.length))) (f j)) :
  ax P E ops K (Oper.mk (some d) (.call { callee:=.builtin .append,args:=#[x,y],argTypes:=#[t,t] }) ty pos af none::rest) env O:=fun I F ρ w h1 h2=>by
 obtain ⟨htop,L,hL,hS⟩:=id h2;have h3:=h1.ev x;rw[hx] at h3;obtain ⟨b,cap,e1,ex⟩:=h3;have h4:=h1.ev y;rw[hy] at h4;obtain ⟨sa,m,sc,vs,ey,hm,hvs,hvc,hsrc⟩:=J9 h4 hc1;obtain ⟨j,hj⟩:=h2.name;obtain ⟨A,B,hp,⟨b',cap',n',us,e2,hus,huc,hown⟩,hback⟩:=(hO j).rep hL;simp only at e2;rw[e1] at e2;simp only[Option.some.injEq,Prod.mk.injEq] at e2;obtain ⟨rfl,rfl⟩:=e2;have hnn:n'=n:=by
  have h5:=hown.1;have h6:=hus.length;have:n'*k=n*k:=by omega
  exact Nat.eq_of_mul_eq_mul_right hk0 this
 subst hnn;subst hm;have hS2:SL I.k (A++(B++F)) E w:=hS.perm (by rw[←List.append_assoc];exact (hp.append_right F).symm);refine bL.append ht hi hz hk hzc ex ey hS2 hown (hsrc _) hb hb2 fun a' c' A' w' h5 h6 h7=>?_;have hb':∃b'',a'=adr b'':=by
  rcases h5.2.2 with ⟨e,_⟩|⟨b'',junk,e,_⟩
  ·exact ⟨none,e⟩
  exact ⟨some b'',e⟩
 obtain ⟨b'',rfl⟩:=hb';obtain ⟨J,ek,hle,e3,htop'⟩:=hj (b'',c');obtain ⟨L',h8,h9⟩:=hback hle (A':=A') ⟨b'',c',_,us++vs,e3,RepL.mono hle _ _ (hus.append hvs),(by
  intro u hu;rcases List.mem_append.1 hu with hu|hu
  ·exact huc u hu
  exact hvc u hu),h5⟩
 exact bL.mono (fun _ _=>dB.up hle) _ _ _ (kk j J F _ _ ((h1.mono hle).upd d ⟨b'',c',e3,rfl⟩) ⟨htop',L',h8,by rw[ek];exact h6.perm (by rw[←List.append_assoc];exact h9.append_right F)⟩)
end
theorem ft {α:Type} {enc:α→List AV} {xs ys:List α} {x:α} (h:ys=xs++[x]):(xs.map enc).flatten++[enc x].flatten=(ys.map enc).flatten:=by subst h;simp
theorem er {α:Type} {enc:α→List AV} {k:Nat} (hk:∀x,(enc x).length=k) (xs:List α):(xs.map enc).flatten.length=xs.length*k:=by
 rw[zG (k:=k) (by simp[hk]),List.length_map]
end
section
open Go.Proofs.Tryz
theorem Mm {I:G} {x v:Value} (h:bW I (lit x) v):v=x:=by cases x<;>exact h
theorem nw {I:G}:∀{xs vs:List Value},RepL I (xs.map lit) vs→vs=xs
 |[],_,h=>h
 |x::xs,_,⟨v,us,e,h1,h2⟩=>by rw[e,Mm h1,nw h2]
section
variable {E:World} {P:Program} {env:aU} {O:OL} {d ty:Nat} {pos:String} {af:Array Edge} {x y:Operand} {t u:TypeId}
theorem Gv.eqlP {xs ys:List Value} {r:Bool} (hg:P.eqGuardType P.depth t=false) (hx:bd env x=.agg (xs.map lit)) (hy:bd env y=.agg (ys.map lit)) (hr:∀w,(Op.equalIn 10000 t (.agg xs.toArray) (.agg ys.toArray)).run P w=.ok r w) :
  Gv P env O (Oper.mk (some d) (.binOp .eql t x y u) ty pos af none) (.bool r):=Gv.ofEv fun I ρ h=>by
 have h1:=h.ev x;have h2:=h.ev y;rw[hx] at h1;rw[hy] at h2;obtain ⟨vs,e1,hv⟩:=h1;obtain ⟨us,e2,hu⟩:=h2;rw[nw hv] at e1;rw[nw hu] at e2;exact ⟨_,rfl,fun w=>by simp only[execOp,e1,e2];simp[run_eqGuard_agg w .eql t x y xs.toArray ys.toArray hg,run_eql_struct,hr]⟩
end
theorem NY {α:Type} {xs ys:List α} {k:Nat} (h1:k<xs.length) (h2:k<ys.length) (h:¬xs[k]=ys[k]):¬xs=ys:=fun e=>by subst e;exact h rfl
theorem E3 {α:Type} {xs ys:List α} {k:Nat} (h1:k<xs.length) (h2:k<ys.length) (he:xs.take k=ys.take k) (h:xs[k]=ys[k]):xs.take (k+1)=ys.take (k+1):=by
 rw[List.take_succ_eq_append_getElem h1,List.take_succ_eq_append_getElem h2,he,h]
theorem E4 {α:Type} {xs ys:List α} {k:Nat} (hl:xs.length=ys.length) (hk:xs.length≤k) (he:xs.take k=ys.take k):xs=ys:=by
 rwa [List.take_of_length_le hk,List.take_of_length_le (by omega)] at he
end
section
open Go.Proofs.Tryz
section
variable {E:World} {P:Program} {ops:Array Oper} {K:aU→OL→Prop} {env:aU} {O O':OL} {rest:List Oper}
variable {d ty:Nat} {pos:String} {af:Array Edge} {x y:Operand} {t u e:TypeId}
theorem ax.isNil {k:Nat} {rows:List (List AV)} (ht:P.underlying t=some (.slice e)) (hx:bd env x=.fro k rows) (hy:bd env y=.raw (.slice none 0 0)) (kt:rows=[]→ax P E ops K rest (bB env d (.bool true)) O) (kf:ax P E ops K rest (bB env d (.bool false)) O) :
  ax P E ops K (Oper.mk (some d) (.binOp .eql t x y u) ty pos af none::rest) env O:=fun I F ρ w h1 h2=>by
 have h3:=h1.ev x;rw[hx] at h3;obtain ⟨a,n,c,e1,hn,hnc,hnil,_⟩:=h3;refine bL.eqNilS ht e1 (iZ h1 hy) ?_;cases a with
 |none=>
  have:rows=[]:=List.eq_nil_of_length_eq_zero (by have:=hnil rfl;omega);exact kt this I F _ w (h1.upd d rfl) h2
 |some p=>exact kf I F _ w (h1.upd d rfl) h2
theorem E5 {rs:Array ResultVar} {R:AV→OL→Prop} {s k:Nat} {T:TypeId} (hv:env s=.raw (.slice none 0 0)) (h:∀i,fk P E rs R .ret (bB env s (.j i 0)) ((i,.u k T [])::O)):fk P E rs R .ret env O:=fun I F ρ w h1 h2=>by
 obtain ⟨i,hi⟩:=h2.name;obtain ⟨J,e1,hle,e2,htop⟩:=hi (none,0);obtain ⟨_,L,hL,hS⟩:=h2;have h3:ρ s=.slice none 0 0:=by have:=h1 s;rw[hv] at this;exact this
 obtain ⟨v,g1,K,x,O',g2,g3⟩:=h i J F ρ w (fun q=>by
  unfold bB;cases hb:Nat.beq q s with
  |false=>exact bW.mono hle _ _ (h1 q)
  |true=>
   have:q=s:=Nat.eq_of_beq_eq_true hb;subst this;exact ⟨none,0,e2,h3⟩) ⟨htop,_,⟨[],L,rfl,⟨none,0,0,[],e2,rfl,by simp,fI.nil k T⟩,hL.mono hle⟩,by rw[e1];exact hS⟩
 exact ⟨v,g1,K,x,O',hle.trans g2,g3⟩
end
end
section
open Go.Proofs.Tryz
section
variable {E:World} {P:Program} {ops:Array Oper} {K:aU→OL→Prop} {env:aU} {O O':OL} {rest:List Oper}
variable {d ty:Nat} {pos:String} {af:Array Edge} {x y:Operand} {t u e:TypeId}
theorem E6 {k:Nat} {zs:List AV} {xs:List (List AV)} (hk:xs.all (fun x=>Nat.beq x.length k)=true) (hz:zs.length=xs.length*k):mi (fun i=>some (i*k,k)) zs ((xs.zipIdx 0).map fun p=>(p.2,p.1))=some xs.flatten:=by
 have:=p8 xs 0 [] zs (fun x hx=>Nat.eq_of_beq_eq_true (List.all_eq_true.1 hk x hx)) hz (by simp)
 simpa using this
theorem ax.buildSliceFF {n k:Nat} {zs:List AV} {rows:List (List AV)} {l:List (Nat × Operand)} (hpl:dp P t e n k zs) (hs:l.all (fun p=>(bd env p.2).sto)=true) (hv:l.map (fun p=>(p.1,(bd env p.2).cs))=(rows.zipIdx 0).map fun p=>(p.2,p.1))
  (hk:rows.all (fun r=>Nat.beq r.length k)=true) (hn:rows.length=n) (hz:zs.length=n*k) (kk:ax P E ops K rest (bB env d (.fro k rows)) O) :
  ax P E ops K (Oper.mk (some d) (.buildSlice t n l.toArray) ty pos af none::rest) env O:=
 ax.buildSliceF hpl hs hv (E6 hk (by rw[hz,hn])) rfl hk hn kk
end
theorem SL.belowE {I:bT} {O:List (Nat × Obj)} {E w:World} (hS:SL I O E w):Go.RowKit.Below E.heap.size E w:=by
 have key:∀k,k<E.heap.size→w.heap[k]?=E.heap[k]?:=fun k hk=>by
  have h1:E.heap[k]?=some E.heap[k]:=Array.getElem?_eq_getElem hk;rw[h1];exact hS.pers _ _ (hS.base k _ h1)
 refine ⟨hS.os,hS.tape,hS.output,?_,key⟩;rcases Nat.lt_or_ge w.heap.size E.heap.size with h|h
 ·have:=key w.heap.size h;rw[Array.getElem?_eq_none (Nat.le_refl _),Array.getElem?_eq_getElem h] at this;cases this
 exact h
theorem aS.ofBelow {E:World} {P:Program} {f:FuncId} {fn:Func} {c:Code} {as0:List AV} {vs:List Value} {r:Value} (hf:P.funcs[f]?=some fn) (hb:fn.body=some c) (hn:fn.name≠"runtime.NumGoroutine") (has:as0=vs.map lit)
  (h:∀w,Go.RowKit.Below E.heap.size E w→Calls P f vs.toArray w fun e w'=>e=.returned r∧Go.RowKit.Below w.heap.size w w'):aS P E f as0 (lit r):=fun I F w us h1 h2=>by
 subst has;rw[nw h1];obtain ⟨ht,L,hL,hS⟩:=h2;have hL:L=[]:=hL;subst hL;refine Fn.ofCalls hf hb hn ?_;exact (h w hS.belowE).mono fun e w' ⟨he,hw⟩=>⟨_,he,I,lit r,[],.refl _,DQ I r,⟨ht,[],rfl,hS.below hw⟩,rfl⟩
end
section
open Go.Proofs.Tryz
open Go.Proofs
theorem eJ:eS prog 254 #[(0,1),(1,1),(2,1)] [.str ⟨#[]⟩,.str ⟨#[]⟩,.str ⟨#[]⟩]:=⟨_,_,underlying254,zeroValue254,fun w=>by kernel_rfl,rfl⟩
theorem NZ:lJ prog 278 3 [.str ⟨#[]⟩,.str ⟨#[]⟩,.str ⟨#[]⟩,.str ⟨#[]⟩,.str ⟨#[]⟩,.str ⟨#[]⟩,.str ⟨#[]⟩,.str ⟨#[]⟩,.str ⟨#[]⟩,.str ⟨#[]⟩,.str ⟨#[]⟩,.str ⟨#[]⟩,.str ⟨#[]⟩,.str ⟨#[]⟩,.str ⟨#[]⟩,.str ⟨#[]⟩,.str ⟨#[]⟩,.str ⟨#[]⟩,.str ⟨#[]⟩,.str ⟨#[]⟩,.str ⟨#[]⟩,.str ⟨#[]⟩,.str ⟨#[]⟩,.str ⟨#[]⟩,.str ⟨#[]⟩,.str ⟨#[]⟩,.str ⟨#[]⟩,.str ⟨#[]⟩,.str ⟨#[]⟩,.str ⟨#[]⟩,.str ⟨#[]⟩,.str ⟨#[]⟩,.str ⟨#[]⟩,.str ⟨#[]⟩,.str ⟨#[]⟩,.str ⟨#[]⟩,.str ⟨#[]⟩,.str ⟨#[]⟩,.str ⟨#[]⟩,.str ⟨#[]⟩,.str ⟨#[]⟩,.str ⟨#[]⟩,.str ⟨#[]⟩,.str ⟨#[]⟩,.str ⟨#[]⟩,.str ⟨#[]⟩,.str ⟨#[]⟩,.str ⟨#[]⟩,.str ⟨#[]⟩,.str ⟨#[]⟩,.str ⟨#[]⟩,.str ⟨#[]⟩,.str ⟨#[]⟩,.str ⟨#[]⟩,.str ⟨#[]⟩,.str ⟨#[]⟩,.str ⟨#[]⟩,.str ⟨#[]⟩,.str ⟨#[]⟩,.str ⟨#[]⟩,.str ⟨#[]⟩,.str ⟨#[]⟩,.str ⟨#[]⟩,.str ⟨#[]⟩,.str ⟨#[]⟩,.str ⟨#[]⟩,.str ⟨#[]⟩,.str ⟨#[]⟩,.str ⟨#[]⟩,.str ⟨#[]⟩,.str ⟨#[]⟩,.str ⟨#[]⟩,.str ⟨#[]⟩,.str ⟨#[]⟩,.str ⟨#[]⟩,.str ⟨#[]⟩,.str ⟨#[]⟩,.str ⟨#[]⟩,.str ⟨#[]⟩,.str ⟨#[]⟩,.str ⟨#[]⟩]:=⟨_,_,_,underlying278,zeroValue278,sizeOf254,rfl⟩
variable {E:World}
set_option maxRecDepth 20000
def iJ:List (ByteArray × ByteArray × ByteArray):=[(⟨#[99,111,110,115,116]⟩,⟨#[]⟩,⟨#[105]⟩),
 (⟨#[99,111,112,121]⟩,⟨#[105]⟩,⟨#[105]⟩),
 (⟨#[97,100,100]⟩,⟨#[105,105]⟩,⟨#[105]⟩),
 (⟨#[115,117,98]⟩,⟨#[105,105]⟩,⟨#[105]⟩),
 (⟨#[109,117,108]⟩,⟨#[105,105]⟩,⟨#[105]⟩),
 (⟨#[100,105,118]⟩,⟨#[105,105]⟩,⟨#[105]⟩),
 (⟨#[114,101,109]⟩,⟨#[105,105]⟩,⟨#[105]⟩),
 (⟨#[101,113]⟩,⟨#[105,105]⟩,⟨#[98]⟩),
 (⟨#[108,116]⟩,⟨#[105,105]⟩,⟨#[98]⟩),
 (⟨#[108,101]⟩,⟨#[105,105]⟩,⟨#[98]⟩),
 (⟨#[110,111,116]⟩,⟨#[98]⟩,⟨#[98]⟩),
 (⟨#[97,110,100]⟩,⟨#[98,98]⟩,⟨#[98]⟩),
 (⟨#[108,101,110]⟩,⟨#[97]⟩,⟨#[105]⟩),
 (⟨#[108,111,97,100]⟩,⟨#[97,105]⟩,⟨#[105]⟩),
 (⟨#[115,116,111,114,101]⟩,⟨#[97,105,105]⟩,⟨#[]⟩),
 (⟨#[110,101,119]⟩,⟨#[105]⟩,⟨#[97]⟩),
 (⟨#[110,105,108]⟩,⟨#[]⟩,⟨#[97]⟩),
 (⟨#[111,117,116]⟩,⟨#[105]⟩,⟨#[]⟩),
 (⟨#[99,104,107,105,100,120]⟩,⟨#[97,105]⟩,⟨#[]⟩),
 (⟨#[99,104,107,110,105,108]⟩,⟨#[97]⟩,⟨#[]⟩),
 (⟨#[99,104,107,100,105,118]⟩,⟨#[105]⟩,⟨#[]⟩),
 (⟨#[99,104,107,97,100,100]⟩,⟨#[105,105]⟩,⟨#[]⟩),
 (⟨#[99,104,107,115,117,98]⟩,⟨#[105,105]⟩,⟨#[]⟩),
 (⟨#[99,104,107,109,117,108]⟩,⟨#[105,105]⟩,⟨#[]⟩),
 (⟨#[99,104,107,108,101,110]⟩,⟨#[105]⟩,⟨#[]⟩),
 (⟨#[112,105]⟩,⟨#[105,105]⟩,⟨#[105]⟩),
 (⟨#[112,105,108,101,110]⟩,⟨#[105,97]⟩,⟨#[105]⟩)]
def cF (op:Int):ByteArray × ByteArray × ByteArray:=if 0≤op then iJ[op.toNat]?.getD (⟨#[]⟩,⟨#[]⟩,⟨#[]⟩) else (⟨#[]⟩,⟨#[]⟩,⟨#[]⟩)
def vt (op:Int):Bool:=decide (0≤op)&&decide (op<27)
def vu (r:ByteArray × ByteArray × ByteArray):List AV:=[.str r.1,.str r.2.1,.str r.2.2]
theorem Ka (op:Int):aS prog E 217 [.int .i64 op] (.bool (vt op)):=by
 refine aX.intro func217 rfl (by decide) rfl ?_;refine bY.seq ?_;refine bY.region rfl ?_;refine ax.val (Gv.assign (v:=.bool _) rfl) ?_;refine ax.nil ?_;refine bY.seq ?_;refine bY.region rfl ?_;refine ax.val (Gv.move (v:=.int _ _) rfl) ?_;refine ax.val (Gv.geq rfl rfl) ?_;refine ax.val (Gv.move (v:=.bool _) rfl) ?_;refine ax.case (s:=5) rfl (fun c1=>?_) (fun c1=>?_)
 ·refine ax.guardT rfl rfl c1 ?_;refine ax.val (Gv.move (v:=.int _ _) rfl) ?_;refine ax.guardT rfl rfl c1 ?_;refine ax.val (Gv.lss rfl rfl) ?_;refine ax.val (Gv.pickT (v:=.bool _) rfl c1 rfl) ?_;refine ax.val (Gv.assign (v:=.bool _) rfl) ?_;refine ax.nil ?_;refine bY.ret ?_
  repeat (first|refine ad ?_|refine aa ?_)
  refine fk.t1 (x:=.bool _) rfl ?_
  simp_all[vt]<;>omega
 refine ax.guardFd rfl rfl c1 ?_;refine ax.guardFd rfl rfl c1 ?_;refine ax.val (Gv.pickF (v:=.bool _) rfl c1 rfl) ?_;refine ax.val (Gv.assign (v:=.bool _) rfl) ?_;refine ax.nil ?_;refine bY.ret ?_
 repeat (first|refine ad ?_|refine aa ?_)
 refine fk.t1 (x:=.bool _) rfl ?_
 simp_all[vt]<;>omega
set_option maxHeartbeats 4000000 in
theorem Ct:aS prog E 218 [] (.agg (iJ.flatMap vu)):=by
 refine aX.intro func218 rfl (by decide) rfl ?_;refine bY.seq ?_;refine bY.region rfl ?_
 refine ax.alloc (cs:=[.str ⟨#[]⟩,.str ⟨#[]⟩,.str ⟨#[]⟩,.str ⟨#[]⟩,.str ⟨#[]⟩,.str ⟨#[]⟩,.str ⟨#[]⟩,.str ⟨#[]⟩,.str ⟨#[]⟩,.str ⟨#[]⟩,.str ⟨#[]⟩,.str ⟨#[]⟩,.str ⟨#[]⟩,.str ⟨#[]⟩,.str ⟨#[]⟩,.str ⟨#[]⟩,.str ⟨#[]⟩,.str ⟨#[]⟩,.str ⟨#[]⟩,.str ⟨#[]⟩,.str ⟨#[]⟩,.str ⟨#[]⟩,.str ⟨#[]⟩,.str ⟨#[]⟩,.str ⟨#[]⟩,.str ⟨#[]⟩,.str ⟨#[]⟩,.str ⟨#[]⟩,.str ⟨#[]⟩,.str ⟨#[]⟩,.str ⟨#[]⟩,.str ⟨#[]⟩,.str ⟨#[]⟩,.str ⟨#[]⟩,.str ⟨#[]⟩,.str ⟨#[]⟩,.str ⟨#[]⟩,.str ⟨#[]⟩,.str ⟨#[]⟩,.str ⟨#[]⟩,.str ⟨#[]⟩,.str ⟨#[]⟩,.str ⟨#[]⟩,.str ⟨#[]⟩,.str ⟨#[]⟩,.str ⟨#[]⟩,.str ⟨#[]⟩,.str ⟨#[]⟩,.str ⟨#[]⟩,.str ⟨#[]⟩,.str ⟨#[]⟩,.str ⟨#[]⟩,.str ⟨#[]⟩,.str ⟨#[]⟩,.str ⟨#[]⟩,.str ⟨#[]⟩,.str ⟨#[]⟩,.str ⟨#[]⟩,.str ⟨#[]⟩,.str ⟨#[]⟩,.str ⟨#[]⟩,.str ⟨#[]⟩,.str ⟨#[]⟩,.str ⟨#[]⟩,.str ⟨#[]⟩,.str ⟨#[]⟩,.str ⟨#[]⟩,.str ⟨#[]⟩,.str ⟨#[]⟩,.str ⟨#[]⟩,.str ⟨#[]⟩,.str ⟨#[]⟩,.str ⟨#[]⟩,.str ⟨#[]⟩,.str ⟨#[]⟩,.str ⟨#[]⟩,.str ⟨#[]⟩,.str ⟨#[]⟩,.str ⟨#[]⟩,.str ⟨#[]⟩,.str ⟨#[]⟩]) zeroValue278 rfl rfl ?_
 intro i0;refine ax.nil ?_;refine bY.seq ?_;refine bY.region rfl ?_;refine ax.val (Gv.build (cps:=[(0,[_]),(1,[_]),(2,[_])]) (rs:=[_,_,_]) eJ rfl rfl rfl) ?_;refine ax.val (Gv.build (cps:=[(0,[_]),(1,[_]),(2,[_])]) (rs:=[_,_,_]) eJ rfl rfl rfl) ?_;refine ax.val (Gv.build (cps:=[(0,[_]),(1,[_]),(2,[_])]) (rs:=[_,_,_]) eJ rfl rfl rfl) ?_;refine ax.val (Gv.build (cps:=[(0,[_]),(1,[_]),(2,[_])]) (rs:=[_,_,_]) eJ rfl rfl rfl) ?_;refine ax.val (Gv.build (cps:=[(0,[_]),(1,[_]),(2,[_])]) (rs:=[_,_,_]) eJ rfl rfl rfl) ?_;refine ax.val (Gv.build (cps:=[(0,[_]),(1,[_]),(2,[_])]) (rs:=[_,_,_]) eJ rfl rfl rfl) ?_;refine ax.val (Gv.build (cps:=[(0,[_]),(1,[_]),(2,[_])]) (rs:=[_,_,_]) eJ rfl rfl rfl) ?_;refine ax.val (Gv.build (cps:=[(0,[_]),(1,[_]),(2,[_])]) (rs:=[_,_,_]) eJ rfl rfl rfl) ?_;refine ax.val (Gv.build (cps:=[(0,[_]),(1,[_]),(2,[_])]) (rs:=[_,_,_]) eJ rfl rfl rfl) ?_
 refine ax.val (Gv.build (cps:=[(0,[_]),(1,[_]),(2,[_])]) (rs:=[_,_,_]) eJ rfl rfl rfl) ?_;refine ax.val (Gv.build (cps:=[(0,[_]),(1,[_]),(2,[_])]) (rs:=[_,_,_]) eJ rfl rfl rfl) ?_;refine ax.val (Gv.build (cps:=[(0,[_]),(1,[_]),(2,[_])]) (rs:=[_,_,_]) eJ rfl rfl rfl) ?_;refine ax.val (Gv.build (cps:=[(0,[_]),(1,[_]),(2,[_])]) (rs:=[_,_,_]) eJ rfl rfl rfl) ?_;refine ax.val (Gv.build (cps:=[(0,[_]),(1,[_]),(2,[_])]) (rs:=[_,_,_]) eJ rfl rfl rfl) ?_;refine ax.val (Gv.build (cps:=[(0,[_]),(1,[_]),(2,[_])]) (rs:=[_,_,_]) eJ rfl rfl rfl) ?_;refine ax.val (Gv.build (cps:=[(0,[_]),(1,[_]),(2,[_])]) (rs:=[_,_,_]) eJ rfl rfl rfl) ?_;refine ax.val (Gv.build (cps:=[(0,[_]),(1,[_]),(2,[_])]) (rs:=[_,_,_]) eJ rfl rfl rfl) ?_;refine ax.val (Gv.build (cps:=[(0,[_]),(1,[_]),(2,[_])]) (rs:=[_,_,_]) eJ rfl rfl rfl) ?_;refine ax.val (Gv.build (cps:=[(0,[_]),(1,[_]),(2,[_])]) (rs:=[_,_,_]) eJ rfl rfl rfl) ?_
 refine ax.val (Gv.build (cps:=[(0,[_]),(1,[_]),(2,[_])]) (rs:=[_,_,_]) eJ rfl rfl rfl) ?_;refine ax.val (Gv.build (cps:=[(0,[_]),(1,[_]),(2,[_])]) (rs:=[_,_,_]) eJ rfl rfl rfl) ?_;refine ax.val (Gv.build (cps:=[(0,[_]),(1,[_]),(2,[_])]) (rs:=[_,_,_]) eJ rfl rfl rfl) ?_;refine ax.val (Gv.build (cps:=[(0,[_]),(1,[_]),(2,[_])]) (rs:=[_,_,_]) eJ rfl rfl rfl) ?_;refine ax.val (Gv.build (cps:=[(0,[_]),(1,[_]),(2,[_])]) (rs:=[_,_,_]) eJ rfl rfl rfl) ?_;refine ax.val (Gv.build (cps:=[(0,[_]),(1,[_]),(2,[_])]) (rs:=[_,_,_]) eJ rfl rfl rfl) ?_;refine ax.val (Gv.build (cps:=[(0,[_]),(1,[_]),(2,[_])]) (rs:=[_,_,_]) eJ rfl rfl rfl) ?_;refine ax.val (Gv.build (cps:=[(0,[_]),(1,[_]),(2,[_])]) (rs:=[_,_,_]) eJ rfl rfl rfl) ?_
 refine ax.val (Gv.buildAF (xs:=[[_,_,_],[_,_,_],[_,_,_],[_,_,_],[_,_,_],[_,_,_],[_,_,_],[_,_,_],[_,_,_],[_,_,_],[_,_,_],[_,_,_],[_,_,_],[_,_,_],[_,_,_],[_,_,_],[_,_,_],[_,_,_],[_,_,_],[_,_,_],[_,_,_],[_,_,_],[_,_,_],[_,_,_],[_,_,_],[_,_,_],[_,_,_]]) NZ rfl rfl rfl rfl) ?_;refine ax.storeW sizeOf278 rfl rfl rfl rfl rfl rfl .head rfl ?_;refine ax.nil ?_;refine bY.ret ?_
 repeat (first|refine ad ?_|refine aa ?_)
 refine fk.c1 rfl ⟨_,.head⟩ isAgg278 sizeOf278 rfl ?_
 rfl
theorem zI {op:Int} (h:vt op=false):cF op=(⟨#[]⟩,⟨#[]⟩,⟨#[]⟩):=by
 unfold vt at h;unfold cF;split
 ·rename_i h0;have:¬op<27:=by simpa [h0] using h
  rw[List.getElem?_eq_none (by show 27≤_;omega)];rfl
 rfl
theorem Kb {op:Int} (h:vt op=true):∃j:Nat,op=(j:Int)∧j<27∧((iJ.flatMap vu).drop (j*3)).take 3=vu (cF op):=by
 unfold vt at h;simp at h;obtain ⟨j,rfl⟩:∃j:Nat,op=j:=⟨op.toNat,by omega⟩;have hj:j<27:=by omega
 refine ⟨j,rfl,hj,DR (enc:=vu) (k:=3) (fun _=>rfl) _ _ ?_⟩;unfold cF;rw[if_pos h.1,Int.toNat_natCast,List.getElem?_eq_getElem (show j<iJ.length from hj)];rfl
theorem xu (op:Int):aS prog E 198 [.int .i64 op] (.agg (vu (cF op))):=by
 refine aX.intro func198 rfl (by decide) rfl ?_;refine bY.seq ?_;refine bY.region rfl ?_;refine ax.alloc (cs:=[.str ⟨#[]⟩,.str ⟨#[]⟩,.str ⟨#[]⟩]) zeroValue254 rfl rfl ?_;intro i2;refine ax.nil ?_;refine bY.seq ?_;refine bY.seq ?_;refine bY.region rfl ?_;refine ax.val (Gv.move (v:=.int _ _) rfl) ?_;refine ax.callP (Ka _) rfl ?_;refine ax.val (Gv.not rfl) ?_;refine ax.nil ?_;refine bY.cond rfl (fun c=>?_) (fun c=>?_)
 ·have c:vt op=false:=by simpa using c
  rw[zI c];refine bY.seq ?_;refine bY.region rfl ?_;refine ax.val (Gv.build (cps:=[]) (rs:=[.str ⟨#[]⟩,.str ⟨#[]⟩,.str ⟨#[]⟩]) eJ rfl rfl rfl) ?_;refine ax.storeW sizeOf254 rfl rfl rfl rfl rfl rfl .head rfl ?_;refine ax.nil ?_;refine bY.ret ?_
  repeat (first|refine ad ?_|refine aa ?_)
  refine fk.c1 rfl ⟨_,.head⟩ isAgg254 sizeOf254 rfl ?_
  rfl
 have c:vt op=true:=by simpa using c
 obtain ⟨j,hj1,hj2,hj3⟩:=Kb c;refine bY.skip ?_;refine bY.seq ?_;refine bY.region rfl ?_;refine ax.callP (Ct) rfl ?_;refine ax.val (Gv.move (v:=.int _ _) rfl) ?_;refine ax.val (Gv.indexA underlying278 isAgg254 sizeOf254 rfl rfl hj1 hj2 hj3) ?_;refine ax.storeW sizeOf254 rfl rfl rfl rfl rfl rfl .head rfl ?_;refine ax.nil ?_;refine bY.ret ?_
 repeat (first|refine ad ?_|refine aa ?_)
 refine fk.c1 rfl ⟨_,.head⟩ isAgg254 sizeOf254 rfl ?_
 rfl
theorem E7 (op:Int):aS prog E 196 [.int .i64 op] (.str (cF op).1):=by
 refine aX.intro func196 rfl (by decide) rfl ?_;refine bY.seq ?_;refine bY.region rfl ?_;refine ax.val (Gv.assign (v:=.str _) rfl) ?_;refine ax.nil ?_;refine bY.seq ?_;refine bY.region rfl ?_;refine ax.val (Gv.move (v:=.int _ _) rfl) ?_;refine ax.callP (xu _) rfl ?_;refine ax.val (Gv.field1 (v:=.str _) underlying254 rfl isAgg9 rfl rfl) ?_;refine ax.val (Gv.assign (v:=.str _) rfl) ?_;refine ax.nil ?_;refine bY.ret ?_
 repeat (first|refine ad ?_|refine aa ?_)
 refine fk.t1 (x:=.str _) rfl ?_
 rfl
def sU (op:Int):Bool:=decide (op=0)||decide (op=25)
theorem iG (op:Int):aS prog E 197 [.int .i64 op] (.bool (sU op)):=by
 refine aX.intro func197 rfl (by decide) rfl ?_;refine bY.seq ?_;refine bY.region rfl ?_;refine ax.val (Gv.assign (v:=.bool _) rfl) ?_;refine ax.nil ?_;refine bY.seq ?_;refine bY.region rfl ?_;refine ax.val (Gv.move (v:=.int _ _) rfl) ?_;refine ax.val (Gv.eqlI rfl rfl) ?_;refine ax.val (Gv.move (v:=.bool _) rfl) ?_;refine ax.case (s:=5) rfl (fun c2=>?_) (fun c2=>?_)
 ·refine ax.guardFd rfl rfl c2 ?_;refine ax.guardFd rfl rfl c2 ?_;refine ax.val (Gv.pickT (v:=.bool _) rfl c2 rfl) ?_;refine ax.val (Gv.assign (v:=.bool _) rfl) ?_;refine ax.nil ?_;refine bY.ret ?_
  repeat (first|refine ad ?_|refine aa ?_)
  refine fk.t1 (x:=.bool _) rfl ?_
  simp_all[sU]
 refine ax.guardT rfl rfl c2 ?_;refine ax.val (Gv.move (v:=.int _ _) rfl) ?_;refine ax.guardT rfl rfl c2 ?_;refine ax.val (Gv.eqlI rfl rfl) ?_;refine ax.val (Gv.pickF (v:=.bool _) rfl c2 rfl) ?_;refine ax.val (Gv.assign (v:=.bool _) rfl) ?_;refine ax.nil ?_;refine bY.ret ?_
 repeat (first|refine ad ?_|refine aa ?_)
 refine fk.t1 (x:=.bool _) rfl ?_
 simp_all[sU]
def fc (c:Int):Int:=if c=98 then 1 else if c=97 then 2 else 0
theorem sV (c:Int):aS prog E 199 [.int .i32 c] (.int .i64 (fc c)):=by
 refine aX.intro func199 rfl (by decide) rfl ?_;refine bY.seq ?_;refine bY.region rfl ?_;refine ax.val (Gv.assign (v:=.int _ _) rfl) ?_;refine ax.nil ?_;refine bY.seq ?_;refine bY.seq ?_;refine bY.region rfl ?_;refine ax.val (Gv.move (v:=.int _ _) rfl) ?_;refine ax.nil ?_;refine bY.block ?_;refine bY.seq ?_;refine bY.region rfl ?_;refine ax.val (Gv.eqlI rfl rfl) ?_;refine ax.val (Gv.assign (v:=.bool _) rfl) ?_;refine ax.nil ?_;refine bY.cond rfl (fun c3=>?_) (fun c3=>?_)
 ·refine bY.seq ?_;refine bY.region rfl ?_;refine ax.val (Gv.assign (v:=.int _ _) rfl) ?_;refine ax.nil ?_;refine bY.ret ?_
  repeat (first|refine ad ?_|refine aa ?_)
  refine fk.t1 (x:=.int _ _) rfl ?_
  simp_all[fc]
 refine bY.seq ?_;refine bY.region rfl ?_;refine ax.val (Gv.eqlI rfl rfl) ?_;refine ax.val (Gv.assign (v:=.bool _) rfl) ?_;refine ax.nil ?_;refine bY.cond rfl (fun c4=>?_) (fun c4=>?_)
 ·refine bY.seq ?_;refine bY.region rfl ?_;refine ax.val (Gv.assign (v:=.int _ _) rfl) ?_;refine ax.nil ?_;refine bY.ret ?_
  repeat (first|refine ad ?_|refine aa ?_)
  refine fk.t1 (x:=.int _ _) rfl ?_
  simp_all[fc]
 refine bY.skip ?_;refine bY.seq ?_;refine bY.region rfl ?_;refine ax.val (Gv.assign (v:=.int _ _) rfl) ?_;refine ax.nil ?_;refine bY.ret ?_
 repeat (first|refine ad ?_|refine aa ?_)
 refine fk.t1 (x:=.int _ _) rfl ?_
 simp_all[fc]
theorem G3:∀r∈iJ,(∀b∈r.2.1.data.toList,b<128)∧(∀b∈r.2.2.data.toList,b<128):=by decide
theorem oZ (op:Int):cF op=(⟨#[]⟩,⟨#[]⟩,⟨#[]⟩)∨cF op∈iJ:=by
 unfold cF;split
 ·cases h:iJ[op.toNat]? with
  |none=>exact .inl rfl
  |some r=>exact .inr (List.mem_of_getElem? h)
 exact .inl rfl
theorem sW (op:Int):(∀b∈(cF op).2.1.data.toList,b<128)∧(∀b∈(cF op).2.2.data.toList,b<128):=by
 rcases oZ op with h|h
 ·rw[h];simp
 exact G3 _ h
def aW (op:Int):List Int:=(cF op).2.1.data.toList.map fun b=>fc b.toNat
def dq (op:Int):Int:=((cF op).2.2.data.toList.head?.map fun b=>fc b.toNat).getD 0
def bF (op:Int):Bool:=!(cF op).2.2.data.toList.isEmpty
section
variable {P:Program} {E:World} {l:List Oper} {W:Nat→Bool} {fuel:Nat} {listed:Array Bool} {d ty:Nat} {op:Op} {pos:String} {af:Array Edge} {Q:aU→OL→Prop} {env:aU} {Os Om:OL}
def xv (l:List Oper) (W:Nat→Bool) (listed:Array Bool) (i:Nat):Bool:=Region.noSelect l.toArray&&(Region.free .any l.toArray listed i&&((Region.ready .any l.toArray listed).contains i&&(jW l i W&&(!W i&&ib W listed))))
theorem xv.of {i:Nat} (h:xv l W listed i=true):Region.noSelect l.toArray=true∧Region.free .any l.toArray listed i=true∧(Region.ready .any l.toArray listed).contains i=true∧jW l i W=true∧W i=false∧ib W listed=true:=by
 simpa only[xv,Bool.and_eq_true,Bool.not_eq_true'] using h
theorem D (i:Nat) {x:AV} (hi:l[i]?=some (Oper.mk (some d) op ty pos af none)) (hg:Gv P env Os (Oper.mk (some d) op ty pos af none) x)
  (h:bJ P E l W Q fuel (listed.setIfInBounds i true) (bB env d x) Os Om) (hb:xv l W listed i=true:=by kernel_rfl):bJ P E l W Q (fuel+1) listed env Os Om:=
 have ⟨a,b,c,e,g,k⟩:=xv.of hb
 bJ.take hi a b c e g k hg h
theorem iU (i:Nat) {j s:Nat} {b t:Bool} {x:AV} (hi:l[i]?=some (Oper.mk (some d) op ty pos af (some (j,b)))) (hg0:(l[j]?).bind (fun o:Oper=>o.dst)=some s) (hv0:env s=.bool t) (ht:t=b) (hg:Gv P env Os (Oper.mk (some d) op ty pos af none) x)
  (h:bJ P E l W Q fuel (listed.setIfInBounds i true) (bB env d x) Os Om) (hb:xv l W listed i=true:=by kernel_rfl):bJ P E l W Q (fuel+1) listed env Os Om:=
 have ⟨a,b,c,e,g,k⟩:=xv.of hb
 bJ.takeT hi hg0 hv0 ht a b c e g k hg h
theorem fX (i:Nat) {j s:Nat} {b t:Bool} (hi:l[i]?=some (Oper.mk (some d) op ty pos af (some (j,b)))) (hg0:(l[j]?).bind (fun o:Oper=>o.dst)=some s) (hv0:env s=.bool t) (ht:t=!b)
  (h:bJ P E l W Q fuel (listed.setIfInBounds i true) (bB env d (.raw undef)) Os Om) (hb:xv l W listed i=true:=by kernel_rfl):bJ P E l W Q (fuel+1) listed env Os Om:=
 have ⟨a,b,c,e,g,k⟩:=xv.of hb
 bJ.takeF hi hg0 hv0 ht a b c e g k h
theorem bp (i:Nat) {o:Oper} (hi:l[i]?=some o) (h:ax P E l.toArray (fun env' Om'=>bJ P E l W Q fuel (listed.setIfInBounds i true) env' Os Om') [o] env Om) (hr:Region.ready .any l.toArray listed=[i]:=by kernel_rfl):bJ P E l W Q (fuel+1) listed env Os Om:=bJ.one hi hr h
theorem dS (h:Q env (Os++Om)) (hr:Region.ready .any l.toArray listed=[]:=by kernel_rfl):bJ P E l W Q fuel listed env Os Om:=bJ.done hr h
variable {x y z:Operand} {t:TypeId} {O:OL}
theorem dC {k:IntKind} {a:Int} (hx:bd env x=.int k a):Gv P env O (Oper.mk (some d) (.move x) ty pos af none) (.int k a):=Gv.move hx
theorem Cl {a:Bool} (hx:bd env x=.bool a):Gv P env O (Oper.mk (some d) (.move x) ty pos af none) (.bool a):=Gv.move hx
theorem zJ {k:Nat} {a:List (List AV)} (hx:bd env x=.fro k a):Gv P env O (Oper.mk (some d) (.move x) ty pos af none) (.fro k a):=Gv.move hx
theorem DS {k:IntKind} {a:Int} (hx:bd env x=.int k a):Gv P env O (Oper.mk (some d) (.assign x) ty pos af none) (.int k a):=Gv.assign hx
theorem sx {a:Bool} (hx:bd env x=.bool a):Gv P env O (Oper.mk (some d) (.assign x) ty pos af none) (.bool a):=Gv.assign hx
theorem oU {k:Nat} {a:List (List AV)} (hx:bd env x=.fro k a):Gv P env O (Oper.mk (some d) (.assign x) ty pos af none) (.fro k a):=Gv.assign hx
theorem d9 {k:IntKind} {a:Int} {cs:List AV} (ha:∀w,(isAgg t).run P w=.ok false w) (hx:bd env x=.pf (.int k a::cs)):Gv P env O (Oper.mk (some d) (.load t x) ty pos af none) (.int k a):=Gv.load1F ha hx
theorem gJ {k:Nat} {a:List (List AV)} {cs:List AV} (ha:∀w,(isAgg t).run P w=.ok false w) (hx:bd env x=.pf (.fro k a::cs)):Gv P env O (Oper.mk (some d) (.load t x) ty pos af none) (.fro k a):=Gv.load1F ha hx
theorem G4 {b v:Bool} (hc:bd env x=.bool b) (hb:b=true) (hy:bd env y=.bool v):Gv P env O (Oper.mk (some d) (.pick x y z) ty pos af none) (.bool v):=Gv.pickT hc hb hy
theorem GT {b v:Bool} (hc:bd env x=.bool b) (hb:b=false) (hy:bd env z=.bool v):Gv P env O (Oper.mk (some d) (.pick x y z) ty pos af none) (.bool v):=Gv.pickF hc hb hy
theorem Kc {i m:Nat} (hx:bd env x=.j i m):Gv P env O (Oper.mk (some d) (.move x) ty pos af none) (.j i m):=Gv.move hx
theorem dZ {i m:Nat} (hx:bd env x=.po i m):Gv P env O (Oper.mk (some d) (.move x) ty pos af none) (.po i m):=Gv.move hx
theorem nT {cs:List AV} (hx:bd env x=.pf cs):Gv P env O (Oper.mk (some d) (.move x) ty pos af none) (.pf cs):=Gv.move hx
theorem v8 {cs:List AV} (hx:bd env x=.tup cs):Gv P env O (Oper.mk (some d) (.move x) ty pos af none) (.tup cs):=Gv.move hx
theorem eO {i m:Nat} (hx:bd env x=.j i m):Gv P env O (Oper.mk (some d) (.assign x) ty pos af none) (.j i m):=Gv.assign hx
theorem xw {i m:Nat} (hx:bd env x=.po i m):Gv P env O (Oper.mk (some d) (.assign x) ty pos af none) (.po i m):=Gv.assign hx
theorem kT {a:Value} (hx:bd env x=.raw a):Gv P env O (Oper.mk (some d) (.assign x) ty pos af none) (.raw a):=Gv.assign hx
theorem nU {vs:List AV} {i:Nat} {k:IntKind} {a:Int} (hx:bd env x=.tup vs) (hv:vs[i]?=some (.int k a)):Gv P env O (Oper.mk (some d) (.extract x i) ty pos af none) (.int k a):=Gv.extract hx hv
theorem Cm {vs:List AV} {i:Nat} {a:Bool} (hx:bd env x=.tup vs) (hv:vs[i]?=some (.bool a)):Gv P env O (Oper.mk (some d) (.extract x i) ty pos af none) (.bool a):=Gv.extract hx hv
theorem dk {fs:Array Field} {f:Field} {i sz:Nat} {cs cs':List AV} (ht:P.underlying t=some (.struct fs)) (hf:fs[i]?=some f) (hs:∀w,(sizeOf f.type).run P w=.ok sz w)
  (hx:bd env x=.pf cs) (hr:cs.drop f.offset=cs') (hz:sz≠0:=by decide):Gv P env O (Oper.mk (some d) (.fieldAddr t x i) ty pos af none) (.pf cs'):=Gv.fieldF ht hf hs hz hx hr
theorem ky {u:TypeId} {a b:Int} (hx:bd env x=.int .i64 a) (hy:bd env y=.int .i64 b) (hr:mB (a+b):=by unfold mB;omega):Gv P env O (Oper.mk (some d) (.binOp .add t x y u) ty pos af none) (.int .i64 (a+b)):=Gv.add hx hy hr
theorem Z {n id:Nat} {y:Code} {R:Exit→aU→OL→Prop} (h:ax P E l.toArray (sS (bY P E n y R) R .normal) l env O) (hd:ia n l=true:=by exact rfl):bY P E n (.seq (.region id l.toArray false) y) R env O:=bY.seq (bY.region hd h)
theorem bZ {n id:Nat} {R:Exit→aU→OL→Prop} (h:ax P E l.toArray (R .normal) l env O) (hd:ia n l=true:=by exact rfl):bY P E n (.region id l.toArray false) R env O:=bY.region hd h
theorem bQ {n id d2 ty2:Nat} {pos2:String} {af2:Array Edge} {u:TypeId} {a b:Int} {R:Exit→aU→OL→Prop} {O:OL} (hx:bd env x=.int .i64 a) (hy:bd env y=.int .i64 b) (h:R .normal (bB (bB env d (.int .i64 (a+b))) d2 (.int .i64 (a+b))) O) (hd:ia n [Oper.mk (some d) (.binOp .add t x y u) ty pos af none,Oper.mk (some d2) (.move (.tmp d)) ty2 pos2 af2 none]=true:=by exact rfl) (hr:mB (a+b):=by unfold mB;omega):bY P E n (.region id [Oper.mk (some d) (.binOp .add t x y u) ty pos af none,Oper.mk (some d2) (.move (.tmp d)) ty2 pos2 af2 none].toArray false) R env O:=bZ (ax.val (ky hx hy hr) (ax.val (dC (by simp[bd,bB])) (ax.nil h))) hd
theorem bD {α:Type} {enc:α→List AV} {xs:List α} {k:Nat} {e:TypeId} (j:Nat) {i:Int} {v:α} (ht:P.underlying t=some (.slice e)) (hs:∀w,(sizeOf e).run P w=.ok k w) (hx:bd env x=.fro k (xs.map enc)) (hy:bd env y=.int .i64 i) (hi:i=(j:Int)) (hj:xs[j]?=some v) :
  Gv P env O (Oper.mk (some d) (.indexAddr t x y) ty pos af none) (.pf (enc v)):=Gv.idxM ht hs hx hy hi hj
theorem aJ {O:OL}:Left O O:=⟨_,.refl _,rfl⟩
theorem PE {O O':OL} {i:Nat} {o:bC} (h:dI O i o O'):O.Perm ((i,o)::O'):=by
 induction h with
 |head=>exact .refl _
 |tail h ih=>exact (ih.cons _).trans (.swap _ _ _)
theorem cC {ops:Array Oper} {K:aU→OL→Prop} {rest:List Oper} {O O':OL} {i:Nat} {o:bC} (h:dI O i o O') (k:ax P E ops K rest env ((i,o)::O')):ax P E ops K rest env O:=aR.ops (aR.perm (PE h)) k
theorem gd {n:Nat} {c:Code} {R:Exit→aU→OL→Prop} {O O':OL} {i:Nat} {o:bC} (h:dI O i o O') (k:bY P E n c R env ((i,o)::O')):bY P E n c R env O:=aR.wp (aR.perm (PE h)) k
theorem bt {R:AV→OL→Prop} {O:OL} {t:Nat} {a:Bool} (hv:env t=.bool a) (h:R (.bool a) O):fk P E #[.tmp t] R .ret env O:=fk.t1 hv h
theorem gu {R:AV→OL→Prop} {O:OL} {t:Nat} {k:IntKind} {a:Int} (hv:env t=.int k a) (h:R (.int k a) O):fk P E #[.tmp t] R .ret env O:=fk.t1 hv h
theorem dI.t1 {x0:Nat × bC} {O:OL} {i:Nat} {o:bC}:dI (x0::(i,o)::O) i o (x0::O):=.tail .head
theorem gc.t1 {x0:Nat × bC} {O:OL} {i:Nat} {o o':bC}:gc (x0::(i,o)::O) i o o' (x0::(i,o')::O):=.tail .head
theorem sw.t1 {x0:Nat × bC} {O:OL} {i j:Nat} {o o':bC}:sw (x0::(i,o)::O) i o j o' (x0::(j,o')::O):=.tail .head
theorem dI.t2 {x0 x1:Nat × bC} {O:OL} {i:Nat} {o:bC}:dI (x0::x1::(i,o)::O) i o (x0::x1::O):=.tail .t1
theorem gc.t2 {x0 x1:Nat × bC} {O:OL} {i:Nat} {o o':bC}:gc (x0::x1::(i,o)::O) i o o' (x0::x1::(i,o')::O):=.tail .t1
theorem sw.t2 {x0 x1:Nat × bC} {O:OL} {i j:Nat} {o o':bC}:sw (x0::x1::(i,o)::O) i o j o' (x0::x1::(j,o')::O):=.tail .t1
theorem dI.t3 {x0 x1 x2:Nat × bC} {O:OL} {i:Nat} {o:bC}:dI (x0::x1::x2::(i,o)::O) i o (x0::x1::x2::O):=.tail .t2
theorem gc.t3 {x0 x1 x2:Nat × bC} {O:OL} {i:Nat} {o o':bC}:gc (x0::x1::x2::(i,o)::O) i o o' (x0::x1::x2::(i,o')::O):=.tail .t2
theorem sw.t3 {x0 x1 x2:Nat × bC} {O:OL} {i j:Nat} {o o':bC}:sw (x0::x1::x2::(i,o)::O) i o j o' (x0::x1::x2::(j,o')::O):=.tail .t2
theorem dI.t4 {x0 x1 x2 x3:Nat × bC} {O:OL} {i:Nat} {o:bC}:dI (x0::x1::x2::x3::(i,o)::O) i o (x0::x1::x2::x3::O):=.tail .t3
theorem gc.t4 {x0 x1 x2 x3:Nat × bC} {O:OL} {i:Nat} {o o':bC}:gc (x0::x1::x2::x3::(i,o)::O) i o o' (x0::x1::x2::x3::(i,o')::O):=.tail .t3
theorem sw.t4 {x0 x1 x2 x3:Nat × bC} {O:OL} {i j:Nat} {o o':bC}:sw (x0::x1::x2::x3::(i,o)::O) i o j o' (x0::x1::x2::x3::(j,o')::O):=.tail .t3
theorem dI.t5 {x0 x1 x2 x3 x4:Nat × bC} {O:OL} {i:Nat} {o:bC}:dI (x0::x1::x2::x3::x4::(i,o)::O) i o (x0::x1::x2::x3::x4::O):=.tail .t4
theorem gc.t5 {x0 x1 x2 x3 x4:Nat × bC} {O:OL} {i:Nat} {o o':bC}:gc (x0::x1::x2::x3::x4::(i,o)::O) i o o' (x0::x1::x2::x3::x4::(i,o')::O):=.tail .t4
theorem sw.t5 {x0 x1 x2 x3 x4:Nat × bC} {O:OL} {i j:Nat} {o o':bC}:sw (x0::x1::x2::x3::x4::(i,o)::O) i o j o' (x0::x1::x2::x3::x4::(j,o')::O):=.tail .t4
theorem dI.t6 {x0 x1 x2 x3 x4 x5:Nat × bC} {O:OL} {i:Nat} {o:bC}:dI (x0::x1::x2::x3::x4::x5::(i,o)::O) i o (x0::x1::x2::x3::x4::x5::O):=.tail .t5
theorem gc.t6 {x0 x1 x2 x3 x4 x5:Nat × bC} {O:OL} {i:Nat} {o o':bC}:gc (x0::x1::x2::x3::x4::x5::(i,o)::O) i o o' (x0::x1::x2::x3::x4::x5::(i,o')::O):=.tail .t5
theorem sw.t6 {x0 x1 x2 x3 x4 x5:Nat × bC} {O:OL} {i j:Nat} {o o':bC}:sw (x0::x1::x2::x3::x4::x5::(i,o)::O) i o j o' (x0::x1::x2::x3::x4::x5::(j,o')::O):=.tail .t5
theorem dI.t7 {x0 x1 x2 x3 x4 x5 x6:Nat × bC} {O:OL} {i:Nat} {o:bC}:dI (x0::x1::x2::x3::x4::x5::x6::(i,o)::O) i o (x0::x1::x2::x3::x4::x5::x6::O):=.tail .t6
theorem gc.t7 {x0 x1 x2 x3 x4 x5 x6:Nat × bC} {O:OL} {i:Nat} {o o':bC}:gc (x0::x1::x2::x3::x4::x5::x6::(i,o)::O) i o o' (x0::x1::x2::x3::x4::x5::x6::(i,o')::O):=.tail .t6
theorem sw.t7 {x0 x1 x2 x3 x4 x5 x6:Nat × bC} {O:OL} {i j:Nat} {o o':bC}:sw (x0::x1::x2::x3::x4::x5::x6::(i,o)::O) i o j o' (x0::x1::x2::x3::x4::x5::x6::(j,o')::O):=.tail .t6
theorem dI.t8 {x0 x1 x2 x3 x4 x5 x6 x7:Nat × bC} {O:OL} {i:Nat} {o:bC}:dI (x0::x1::x2::x3::x4::x5::x6::x7::(i,o)::O) i o (x0::x1::x2::x3::x4::x5::x6::x7::O):=.tail .t7
theorem gc.t8 {x0 x1 x2 x3 x4 x5 x6 x7:Nat × bC} {O:OL} {i:Nat} {o o':bC}:gc (x0::x1::x2::x3::x4::x5::x6::x7::(i,o)::O) i o o' (x0::x1::x2::x3::x4::x5::x6::x7::(i,o')::O):=.tail .t7
theorem sw.t8 {x0 x1 x2 x3 x4 x5 x6 x7:Nat × bC} {O:OL} {i j:Nat} {o o':bC}:sw (x0::x1::x2::x3::x4::x5::x6::x7::(i,o)::O) i o j o' (x0::x1::x2::x3::x4::x5::x6::x7::(j,o')::O):=.tail .t7
theorem aN {α0:Sort _} {a0:α0}:a0=a0∧True:=⟨rfl,trivial⟩
theorem cV {α0:Sort _} {a0:α0} {α1:Sort _} {a1:α1}:a0=a0∧a1=a1∧True:=⟨rfl,rfl,trivial⟩
theorem eX {α0:Sort _} {a0:α0} {α1:Sort _} {a1:α1} {α2:Sort _} {a2:α2}:a0=a0∧a1=a1∧a2=a2∧True:=⟨rfl,rfl,rfl,trivial⟩
theorem f7 {α0:Sort _} {a0:α0} {α1:Sort _} {a1:α1} {α2:Sort _} {a2:α2} {α3:Sort _} {a3:α3}:a0=a0∧a1=a1∧a2=a2∧a3=a3∧True:=⟨rfl,rfl,rfl,rfl,trivial⟩
theorem lf {α0:Sort _} {a0:α0} {α1:Sort _} {a1:α1} {α2:Sort _} {a2:α2} {α3:Sort _} {a3:α3} {α4:Sort _} {a4:α4}:a0=a0∧a1=a1∧a2=a2∧a3=a3∧a4=a4∧True:=⟨rfl,rfl,rfl,rfl,rfl,trivial⟩
theorem rX {α0:Sort _} {a0:α0} {α1:Sort _} {a1:α1} {α2:Sort _} {a2:α2} {α3:Sort _} {a3:α3} {α4:Sort _} {a4:α4} {α5:Sort _} {a5:α5}:a0=a0∧a1=a1∧a2=a2∧a3=a3∧a4=a4∧a5=a5∧True:=⟨rfl,rfl,rfl,rfl,rfl,rfl,trivial⟩
theorem lI {α0:Sort _} {a0:α0} {α1:Sort _} {a1:α1} {α2:Sort _} {a2:α2} {α3:Sort _} {a3:α3} {α4:Sort _} {a4:α4} {α5:Sort _} {a5:α5} {α6:Sort _} {a6:α6}:a0=a0∧a1=a1∧a2=a2∧a3=a3∧a4=a4∧a5=a5∧a6=a6∧True:=⟨rfl,rfl,rfl,rfl,rfl,rfl,rfl,trivial⟩
theorem rY {α0:Sort _} {a0:α0} {α1:Sort _} {a1:α1} {α2:Sort _} {a2:α2} {α3:Sort _} {a3:α3} {α4:Sort _} {a4:α4} {α5:Sort _} {a5:α5} {α6:Sort _} {a6:α6} {α7:Sort _} {a7:α7}:a0=a0∧a1=a1∧a2=a2∧a3=a3∧a4=a4∧a5=a5∧a6=a6∧a7=a7∧True:=⟨rfl,rfl,rfl,rfl,rfl,rfl,rfl,rfl,trivial⟩
theorem p9 {α0:Sort _} {a0:α0} {α1:Sort _} {a1:α1} {α2:Sort _} {a2:α2} {α3:Sort _} {a3:α3} {α4:Sort _} {a4:α4} {α5:Sort _} {a5:α5} {α6:Sort _} {a6:α6} {α7:Sort _} {a7:α7} {α8:Sort _} {a8:α8}:a0=a0∧a1=a1∧a2=a2∧a3=a3∧a4=a4∧a5=a5∧a6=a6∧a7=a7∧a8=a8∧True:=⟨rfl,rfl,rfl,rfl,rfl,rfl,rfl,rfl,rfl,trivial⟩
theorem jX {α0:Sort _} {a0:α0} {α1:Sort _} {a1:α1} {α2:Sort _} {a2:α2} {α3:Sort _} {a3:α3} {α4:Sort _} {a4:α4} {α5:Sort _} {a5:α5} {α6:Sort _} {a6:α6} {α7:Sort _} {a7:α7} {α8:Sort _} {a8:α8} {α9:Sort _} {a9:α9}:a0=a0∧a1=a1∧a2=a2∧a3=a3∧a4=a4∧a5=a5∧a6=a6∧a7=a7∧a8=a8∧a9=a9∧True:=⟨rfl,rfl,rfl,rfl,rfl,rfl,rfl,rfl,rfl,rfl,trivial⟩
theorem sX {α0:Sort _} {a0:α0} {α1:Sort _} {a1:α1} {α2:Sort _} {a2:α2} {α3:Sort _} {a3:α3} {α4:Sort _} {a4:α4} {α5:Sort _} {a5:α5} {α6:Sort _} {a6:α6} {α7:Sort _} {a7:α7} {α8:Sort _} {a8:α8} {α9:Sort _} {a9:α9} {α10:Sort _} {a10:α10}:a0=a0∧a1=a1∧a2=a2∧a3=a3∧a4=a4∧a5=a5∧a6=a6∧a7=a7∧a8=a8∧a9=a9∧a10=a10∧True:=⟨rfl,rfl,rfl,rfl,rfl,rfl,rfl,rfl,rfl,rfl,rfl,trivial⟩
theorem lK {α0:Sort _} {a0:α0} {α1:Sort _} {a1:α1} {α2:Sort _} {a2:α2} {α3:Sort _} {a3:α3} {α4:Sort _} {a4:α4} {α5:Sort _} {a5:α5} {α6:Sort _} {a6:α6} {α7:Sort _} {a7:α7} {α8:Sort _} {a8:α8} {α9:Sort _} {a9:α9} {α10:Sort _} {a10:α10} {α11:Sort _} {a11:α11}:a0=a0∧a1=a1∧a2=a2∧a3=a3∧a4=a4∧a5=a5∧a6=a6∧a7=a7∧a8=a8∧a9=a9∧a10=a10∧a11=a11∧True:=⟨rfl,rfl,rfl,rfl,rfl,rfl,rfl,rfl,rfl,rfl,rfl,rfl,trivial⟩
variable {ops:Array Oper} {K:aU→OL→Prop} {rest:List Oper} {u e:TypeId}
theorem C {k:IntKind} {a:Int} (hx:bd env x=.int k a) (kk:ax P E ops K rest (bB env d (.int k a)) O):ax P E ops K (Oper.mk (some d) (.move x) ty pos af none::rest) env O:=ax.val (dC hx) kk
theorem ah {a:Bool} (hx:bd env x=.bool a) (kk:ax P E ops K rest (bB env d (.bool a)) O):ax P E ops K (Oper.mk (some d) (.assign x) ty pos af none::rest) env O:=ax.val (sx hx) kk
theorem ao {fs:Array Field} {f:Field} {i sz:Nat} {cs cs':List AV} (ht:P.underlying t=some (.struct fs)) (hf:fs[i]?=some f) (hs:∀w,(sizeOf f.type).run P w=.ok sz w) (hx:bd env x=.pf cs) (hr:cs.drop f.offset=cs') (kk:ax P E ops K rest (bB env d (.pf cs')) O) (hz:sz≠0:=by decide):ax P E ops K (Oper.mk (some d) (.fieldAddr t x i) ty pos af none::rest) env O:=ax.val (dk ht hf hs hx hr hz) kk
theorem ap {k:IntKind} {a:Int} (hx:bd env x=.int k a) (kk:ax P E ops K rest (bB env d (.int k a)) O):ax P E ops K (Oper.mk (some d) (.assign x) ty pos af none::rest) env O:=ax.val (DS hx) kk
theorem aw {a:Bool} (hx:bd env x=.bool a) (kk:ax P E ops K rest (bB env d (.bool a)) O):ax P E ops K (Oper.mk (some d) (.move x) ty pos af none::rest) env O:=ax.val (Cl hx) kk
theorem ay {b v:Bool} (hc:bd env x=.bool b) (hb:b=false) (hy:bd env z=.bool v) (kk:ax P E ops K rest (bB env d (.bool v)) O):ax P E ops K (Oper.mk (some d) (.pick x y z) ty pos af none::rest) env O:=ax.val (GT hc hb hy) kk
theorem aA {b v:Bool} (hc:bd env x=.bool b) (hb:b=true) (hy:bd env y=.bool v) (kk:ax P E ops K rest (bB env d (.bool v)) O):ax P E ops K (Oper.mk (some d) (.pick x y z) ty pos af none::rest) env O:=ax.val (G4 hc hb hy) kk
theorem aD {k:IntKind} {a:Int} {cs:List AV} (ha:∀w,(isAgg t).run P w=.ok false w) (hx:bd env x=.pf (.int k a::cs)) (kk:ax P E ops K rest (bB env d (.int k a)) O):ax P E ops K (Oper.mk (some d) (.load t x) ty pos af none::rest) env O:=ax.val (d9 ha hx) kk
theorem ae {n:Nat} {cs:List AV} (ha:∀w,(isAgg t).run P w=.ok true w) (hs:∀w,(sizeOf t).run P w=.ok n w) (hx:bd env x=.pf cs) (hn:cs.length=n) (kk:ax P E ops K rest (bB env d (.agg cs)) O):ax P E ops K (Oper.mk (some d) (.load t x) ty pos af none::rest) env O:=ax.val (Gv.loadWF ha hs hx hn) kk
theorem aq {k:IntKind} {a b:Int} (hx:bd env x=.int k a) (hy:bd env y=.int k b) (kk:ax P E ops K rest (bB env d (.bool (decide (a<b)))) O):ax P E ops K (Oper.mk (some d) (.binOp .lss t x y u) ty pos af none::rest) env O:=ax.val (Gv.lss hx hy) kk
theorem am {α:Type} {enc:α→List AV} {xs:List α} {k:Nat} (ht:P.underlying t=some (.slice e)) (hx:bd env x=.fro k (xs.map enc)) (kk:ax P E ops K rest (bB env d (.int .i64 xs.length)) O):ax P E ops K (Oper.mk (some d) (.call { callee:=.builtin .len,args:=#[x],argTypes:=#[t] }) ty pos af none::rest) env O:=ax.val (Gv.lenM ht hx) kk
theorem au {k:IntKind} {a b:Int} (hx:bd env x=.int k a) (hy:bd env y=.int k b) (kk:ax P E ops K rest (bB env d (.bool (decide (a=b)))) O):ax P E ops K (Oper.mk (some d) (.binOp .eql t x y u) ty pos af none::rest) env O:=ax.val (Gv.eqlI hx hy) kk
theorem aK {k:Nat} {a:List (List AV)} {cs:List AV} (ha:∀w,(isAgg t).run P w=.ok false w) (hx:bd env x=.pf (.fro k a::cs)) (kk:ax P E ops K rest (bB env d (.fro k a)) O):ax P E ops K (Oper.mk (some d) (.load t x) ty pos af none::rest) env O:=ax.val (gJ ha hx) kk
theorem aL {b:Bool} (hx:bd env x=.bool b) (kk:ax P E ops K rest (bB env d (.bool (!b))) O):ax P E ops K (Oper.mk (some d) (.unOp .not t x) ty pos af none::rest) env O:=ax.val (Gv.not hx) kk
theorem bf {i m:Nat} (hx:bd env x=.po i m) (kk:ax P E ops K rest (bB env d (.po i m)) O):ax P E ops K (Oper.mk (some d) (.move x) ty pos af none::rest) env O:=ax.val (dZ hx) kk
theorem bj {k:Nat} {a:List (List AV)} (hx:bd env x=.fro k a) (kk:ax P E ops K rest (bB env d (.fro k a)) O):ax P E ops K (Oper.mk (some d) (.move x) ty pos af none::rest) env O:=ax.val (zJ hx) kk
theorem aC {i off:Nat} (hx:bd env x=.po i off) (kk:ax P E ops K rest (bB env d (.po i off)) O):ax P E ops K (Oper.mk (some d) (.nilCheck x) ty pos af none::rest) env O:=ax.val (Gv.nilCheckO hx) kk
theorem aT {k:IntKind} {a b:Int} (hx:bd env x=.int k a) (hy:bd env y=.int k b) (kk:ax P E ops K rest (bB env d (.bool (!decide (a=b)))) O):ax P E ops K (Oper.mk (some d) (.binOp .neq t x y u) ty pos af none::rest) env O:=ax.val (Gv.neqI hx hy) kk
theorem bg {k:IntKind} {a b:Int} (hx:bd env x=.int k a) (hy:bd env y=.int k b) (kk:ax P E ops K rest (bB env d (.bool (decide (b<a)))) O):ax P E ops K (Oper.mk (some d) (.binOp .gtr t x y u) ty pos af none::rest) env O:=ax.val (Gv.gtr hx hy) kk
theorem bX {i m:Nat} (hx:bd env x=.j i m) (kk:ax P E ops K rest (bB env d (.j i m)) O):ax P E ops K (Oper.mk (some d) (.move x) ty pos af none::rest) env O:=ax.val (Kc hx) kk
end
set_option linter.defProp false
def j7:=@Tryz.underlying23
def j8:=@Tryz.sizeOf63
def j9:=@Tryz.sizeOf3
def jd:=@Tryz.underlying51
def je:=@Tryz.underlying99
def jf:=@Tryz.underlying26
def jg:=@Tryz.isAgg3
def jh:=@Tryz.sizeOf23
def ji:=@Tryz.underlying59
def jj:=@Tryz.underlying56
def jk:=@Tryz.sizeOf26
def jr:=@Tryz.underlying24
def ju:=@Tryz.underlying92
def jw:=@Tryz.isAgg63
def jx:=@Tryz.underlying63
def jy:=@Tryz.isAgg23
def Z0:=@Tryz.sizeOf2
def Z1:=@Tryz.sizeOf59
def Z2:=@Tryz.isAgg26
def Z3:=@Tryz.underlying83
def Z4:=@Tryz.underlying52
def Z5:=@Tryz.underlying66
def Z6:=@Tryz.underlying57
def Z7:=@Tryz.underlying22
def Z8:=@Tryz.underlying54
def Z9:=@Tryz.sizeOf51
def Za:=@Tryz.zeroValue63
def Zb:=@Tryz.isAgg2
def Zc:=@Tryz.sizeOf4
def Zd:=@Tryz.sizeOf24
def Ze:=@Tryz.sizeOf83
def Zf:=@Tryz.isAgg24
def Zg:=@Tryz.underlying74
def Zh:=@Tryz.zeroValue59
def Zi:=@Tryz.sizeOf54
def Zj:=@Tryz.underlying193
def Zk:=@Tryz.underlying73
def Zl:=@Tryz.underlying97
def Zm:=@Tryz.underlying109
def Zn:=@Tryz.underlying28
def Zo:=@Tryz.zeroValue51
def Zp:=@Tryz.sizeOf56
def Zq:=@Tryz.underlying111
def Zr:=@Tryz.underlying48
def Zs:=@Tryz.sizeOf22
def Zt:=@Tryz.underlying208
def Zu:=@Tryz.sizeOf49
def Zv:=@Tryz.sizeOf57
def Zw:=@Tryz.sizeOf52
def Zx:=@Tryz.sizeOf66
def Zy:=@Tryz.underlying9
def Zz:=@Tryz.underlying2
def Y0:=@Tryz.zeroValue83
def Y1:=@Tryz.underlying227
def Y2:=@Tryz.isAgg49
def Y3:=@Tryz.isAgg52
def Y4:=@Tryz.isAgg22
def Y5:=@Tryz.sizeOf53
def Y6:=@Tryz.type3
def Y7:=@Tryz.sizeOf9
def Y8:=@Tryz.underlying169
def Y9:=@Tryz.underlying114
def Ya:=@Tryz.sizeOf114
def Yb:=@Tryz.underlying95
def Yc:=@Tryz.sizeOf48
def Yd:=@Tryz.sizeOf97
def Ye:=@Tryz.isAgg59
def Yf:=@Tryz.isAgg57
def Yg:=@Tryz.isAgg51
def Yh:=@Tryz.isAgg66
def Yi:=@Tryz.sizeOf92
def Yj:=@Tryz.sizeOf28
def Yk:=@Tryz.isAgg53
def Yl:=@Tryz.underlying195
def Ym:=@Tryz.isAgg9
def Yn:=@Tryz.isAgg4
def Yo:=@Tryz.underlying40
def Yp:=@Tryz.underlying4
def Yq:=@Tryz.underlying30
def Yr:=@Tryz.type4
def Ys:=@Tryz.isAgg83
def Yt:=@Tryz.sizeOf109
def Yu:=@Tryz.isAgg92
def Yv:=@Tryz.underlying80
def Yw:=@Tryz.underlying246
def Yx:=@Tryz.underlying243
def Yy:=@Tryz.underlying212
def Yz:=@Tryz.sizeOf169
def X0:=@Tryz.underlying3
def X1:=@Tryz.underlying69
def X2:=@Tryz.underlying259
def X3:=@Tryz.isAgg28
def X4:=@Tryz.sizeOf95
def X5:=@Tryz.sizeOf46
def X6:=@Tryz.underlying258
def X7:=@Tryz.underlying229
def X8:=@Tryz.underlying162
def X9:=@Tryz.type2
def Xa:=@Tryz.isAgg109
def Xb:=@Tryz.underlying27
def Xc:=@Tryz.underlying170
def Xd:=@Tryz.sizeOf80
def Xe:=@Tryz.zeroValue3
def Xf:=@Tryz.zeroValue48
def Xg:=@Tryz.zeroValue56
def Xh:=@Tryz.isAgg46
def Xi:=@Tryz.zeroValue169
def Xj:=@Tryz.underlying49
def Xk:=@Tryz.underlying68
def Xl:=@Tryz.isAgg56
def Xm:=@Tryz.sizeOf40
set_option linter.defProp false
def Y:=@ax.nil
def H:=@ax.guardFd
def M:=@ax.guardT
def X:=@ax.val
def za:=@bY.seq
def zb:=@ax.callP
def zc:=@bY.skip
def zd:=@bY.block
def ze:=@Gv.fieldO
def zf:=@bY.ret
def zg:=@ax.guardUd
def zh:=@bY.condP
def zi:=@ax.storeW
def zj:=@Gv.load1C
def zk:=@zH.perm
def zm:=@aX.intro
def zn:=@bY.regionDraw
def zo:=@ax.case
def zp:=@ax.alloc
def zq:=@bY.cond
def zr:=@Gv.nilCheckO
def zt:=@bY.exit
def zu:=@bY.loop
def zw:=@ax.buildSliceFF
def zx:=@ax.boxF
def zy:=@ax.callA
def y3:=@bY.cutS
def y4:=@bJ.writes
def y5:=@Gv.build
def y8:=@ru.done
def y9:=@aR.ops
def yb:=@ax.appendS
def yc:=@fa.refl
def yd:=@aR.wp
def yf:=@ax.buildSlice0
def yg:=@ru.one
def yh:=@ax.storeC
def yi:=@fk.c1
def yj:=@Gv.loadWF
def yl:=@bY.condF
def ym:=@bY.condT
def yn:=@Gv.move
def yo:=@bJ.takeK
def yr:=@aR.perm
def yt:=@Gv.idxAF
def yu:=@fk.t0
def yv:=@aR.fin
def yz:=@fk.t1
def q5:=@Gv.nilCheckF
def q6:=@Gv.eqlT
def q7:=@Gv.geq
def q8:=@Gv.load1F
def q9:=@Gv.assign
def qa:=@Gv.idxAO
def qb:=@Gv.loadWC
def qe:=@aR.drop
def qf:=@Gv.idxM
def qh:=@Gv.loadAC
def qi:=@ax.boxO
def ql:=@fk.t2
def qm:=@Gv.lenO
def qq:=@Gv.load1G
def qt:=@List.getElem?_eq_getElem
def qu:=@List.take_succ_eq_append_getElem
def qv:=@List.append_assoc
def qw:=@Nat.zero_le
def qx:=@List.getElem_mem
def qy:=@List.take_length
def qz:=@List.length_append
def w2:=@List.length_map
def w3:=@List.getElem?_map
def w4:=@Bool.eq_iff_iff
def w5:=@List.mem_of_getElem?
def w6:=@List.eq_nil_of_length_eq_zero
def w7:=@List.map_append
def w8:=@List.append_nil
def w9:=@List.length_take
def wa:=@decide_eq_true
def wb:=@decide_eq_false
def wc:=@Bool.and_eq_true
def wd:=@List.all_eq_true
def we:=@Int.toNat_of_nonneg
def wg:=@of_decide_eq_true
def wh:=@of_decide_eq_false
def wi:=@decide_eq_true_eq
theorem U {α:Sort _} {a:α}:a=a:=rfl
end
end Go.Proofs.YtbbonnfjealmpaaGreatDoor
