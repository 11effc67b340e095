/- When programs are the same: the printer's and the document's answer. No conditions but bounds. -/
import Derived.Test.YtbconpmnckokoaaGreatDoorZa
import Derived.Test.YtbconpmnckokoaaGreatDoorChecked
set_option linter.unusedVariables false
set_option linter.unusedSimpArgs false
set_option linter.unusedSectionVars false
namespace Go.Proofs.YtbconpmnckokoaaGreatDoor
section
open Go.Proofs.Tryz
def lit:Value→AV
 |.bool b=>.bool b
 |.int k n=>.int k n
 |.string s=>.str s
 |v=>.raw v
theorem qF (I:G) (v:Value):bO I (lit v) v:=by cases v<;>exact rfl
theorem e8 (I:G):∀l:List Value,RepL I (l.map lit) l
 |[]=>rfl
 |v::l=>⟨v,l,rfl,qF I v,e8 I l⟩
def AV.cs:AV→List AV
 |.agg cs=>cs
 |x=>[x]
def AV.sto:AV→Bool
 |.any | .tup _=>false
 |.raw v=>v.oneCell'
 |_=>true
theorem AV.cs_rep {I:G} {x:AV} {v:Value} (h:bO I x v) (hs:x.sto=true):RepL I x.cs v.cells.toList:=by
 cases x
 case agg cs=>obtain ⟨vs,e,h2⟩:=h;subst e;simpa [AV.cs,Value.cells] using h2
 case any=>cases hs
 case tup=>cases hs
 all_goals
  have hc:v.cells=#[v]:=by
   have:=AV.cell_rep h (by first|rfl|exact hs)
   cases v<;>first|rfl|(simp[Value.oneCell'] at this)
  rw[hc]
  exact RepL.one h
theorem eQ.name {I:G} {O:OL} {F:List (Nat × Obj)} {E w:World} (h:eQ I O F E w):∃i,∀hd:Option Nat × Nat,∃J:G,J.k=I.k∧I.le J∧J.h i=some hd∧∃top,∀i,top≤i→J.h i=none:=by
 obtain ⟨⟨top,ht⟩,_⟩:=h
 refine ⟨top,fun hd=>⟨⟨I.k,fun j=>if j=top then some hd else I.h j⟩,rfl,⟨.refl _,fun i x hi=>?_⟩,by simp,top+1,fun i hi=>?_⟩⟩
 ·have:i≠top:=fun e=>by rw[e,ht top (Nat.le_refl _)] at hi;cases hi
  simp[this,hi]
 ·simp only
  rw[if_neg (by omega)];exact ht i (by omega)
theorem bu.perm {I:G} {O O':OL} (h:O.Perm O'):∀{L},bu I O L→∃L',bu I O' L'∧L.Perm L':=by
 induction h with
 |nil=>intro L h;exact ⟨L,h,.refl _⟩
 |cons x _ ih=>rintro L ⟨A,B,e,h1,h2⟩;obtain ⟨B',h3,h4⟩:=ih h2;exact ⟨A++B',⟨A,B',rfl,h1,h3⟩,e▸h4.append_left A⟩
 |swap x y l=>
  rintro L ⟨A,B,e,h1,C,D,e2,h2,h3⟩
  refine ⟨C++(A++D),⟨C,A++D,rfl,h2,A,D,rfl,h1,h3⟩,?_⟩
  subst e e2
  rw[←List.append_assoc,←List.append_assoc]
  exact List.perm_append_comm.append_right D
 |trans _ _ ih1 ih2=>intro L h;obtain ⟨L1,h1,h2⟩:=ih1 h;obtain ⟨L2,h3,h4⟩:=ih2 h1;exact ⟨L2,h3,h2.trans h4⟩
def bC (P:Program) (E:World) (f:FuncId) (args:List AV) (O:OL) (R:AV→OL→Prop):Prop:=
 ∀I F w vs,RepL I args vs→eQ I O F E w→Fn P f vs.toArray w fun v w'=>∃J x O',I.le J∧bO J x v∧eQ J O' F E w'∧R x O'
def aV (P:Program) (E:World) (f:FuncId) (args:List AV) (r:AV):Prop:=bC P E f args [] fun x _=>x=r
theorem bC.mono {E:World} {P:Program} {f:FuncId} {args:List AV} {O:OL} {R R':AV→OL→Prop} (h:bC P E f args O R) (hr:∀x O,R x O→R' x O):bC P E f args O R':=fun I F w vs h1 h2=>
 (h I F w vs h1 h2).mono fun _ _ ⟨J,x,O',a,b,c,d⟩=>⟨J,x,O',a,b,c,hr _ _ d⟩
def Eq (E:World) (rs:Array ResultVar) (env:aH) (O:OL) (P:Program) (x:AV):Prop:=
 ∀I F ρ w,db I env ρ→eQ I O F E w→∃v,jD rs ρ P w=.ok v w∧bO I x v
def bM (P:Program) (E:World) (rs:Array ResultVar) (R:AV→OL→Prop):Exit→aH→OL→Prop:=fun e env O=>
 match e with
 |.normal | .ret=>∀I F ρ w,db I env ρ→eQ I O F E w→∃v,jD rs ρ P w=.ok v w∧∃J x O',I.le J∧bO J x v∧eQ J O' F E w∧R x O'
 |_=>False
def v8 (args:List AV):aH:=fun t=>(args[t]?).getD (.raw undef)
theorem uN {I:G} {args:List AV} {vs:List Value} (h:RepL I args vs):db I (v8 args) (o4 vs.toArray):=fun t=>by
 unfold v8 o4
 cases ha:args[t]? with
 |none=>
  have:vs[t]?=none:=by
   rw[List.getElem?_eq_none_iff] at ha ⊢
   rw[h.length];exact ha
  simp[Array.getD_eq_getD_getElem?,this,bO]
 |some x=>
  obtain ⟨v,hv,hr⟩:=h.get ha
  simp[Array.getD_eq_getD_getElem?,hv,hr]
theorem bC.intro {E:World} {P:Program} {f:FuncId} {fn:Func} {c:Code} {args:List AV} {O:OL} {R:AV→OL→Prop} (hf:P.funcs[f]?=some fn) (hb:fn.body=some c)
  (hn:fn.name≠"runtime.NumGoroutine") (hs:Nat.ble args.length fn.ntmps=true) (h:b9 P E fn.ntmps c (bM P E fn.results R) (v8 args) O):bC P E f args O R:=fun I F w vs h1 h2=>
 Fn.intro hf hb hn (by rw[List.size_toArray,h1.length];exact hs) ((h I F _ w (uN h1) h2).mono fun e ρ w ⟨J,env,O,a,b,c,d⟩=>by
  cases e<;>first|exact d.elim|(obtain ⟨v,h3,K,x,O',h4,h5,h6,h7⟩:=d J F ρ w b c;exact ⟨v,h3,K,x,O',a.trans h4,h5,h6,h7⟩))
section
variable {E:World} {P:Program} {env:aH} {O:OL} {R:AV→OL→Prop}
theorem bM.of {rs:Array ResultVar} {x:AV} (h:Eq E rs env O P x) (hr:R x O):bM P E rs R .ret env O:=fun I F ρ w h1 h2=>by
 obtain ⟨v,h3,h4⟩:=h I F ρ w h1 h2
 exact ⟨v,h3,I,x,O,.refl _,h4,h2,hr⟩
theorem bM.t1 {t:Nat} {x:AV} (hv:env t=x) (h:R x O):bM P E #[.tmp t] R .ret env O:=bM.of (fun I F ρ w h1 _=>⟨_,by simp[jD],hv▸h1 t⟩) h
theorem bM.t0 (h:R (.tup []) O):bM P E #[] R .ret env O:=bM.of (x:=.tup []) (fun I F ρ w h1 _=>⟨.tuple #[],by simp[jD],⟨[],rfl,rfl⟩⟩) h
theorem bM.t2 {t u:Nat} {x y:AV} (hv:env t=x) (hu:env u=y) (h:R (.tup [x,y]) O):bM P E #[.tmp t,.tmp u] R .ret env O:=
 bM.of (x:=.tup [x,y]) (fun I F ρ w h1 _=>⟨.tuple #[ρ t,ρ u],by simp[jD],⟨[ρ t,ρ u],rfl,⟨_,_,rfl,hv▸h1 t,⟨_,_,rfl,hu▸h1 u,rfl⟩⟩⟩⟩) h
theorem bM.c1 {t T i:Nat} {T':TypeId} {cs:List AV} {n:Nat} (hv:env t=.po i 0) (hO:mV O i (.cells T' cs)) (ha:∀w,(isAgg T).run P w=.ok true w) (hs:∀w,(sizeOf T).run P w=.ok n w) (hn:cs.length=n) (h:R (.agg cs) O) :
  bM P E #[.cell t T] R .ret env O:=bM.of (fun I F ρ w h1 h2=>by
 obtain ⟨L,hL,hS⟩:=h2.2
 have h3:=h1 t
 rw[hv] at h3
 obtain ⟨b,c,e1,e⟩:=h3
 obtain ⟨b',c',vs,e2,h4,hm⟩:=hO.cells hL
 rw[e1] at e2;cases e2
 have hl:=d7 (P:=P) (w:=w) (b:=b) (off:=0) ha (cs:=vs) (by rw[h4.length,hn];exact hs) (fun j v hj=>by
  rw[Nat.zero_add]
  exact hS.at_ (.inr ⟨_,_,_,List.mem_append_left _ hm,by rw[List.getElem?_toArray];exact hj⟩))
 exact ⟨.agg vs.toArray,by simp[jD,e,asAddr,hl],⟨vs,rfl,h4⟩⟩) h
end
section
variable {E:World} {P:Program} {ops:Array Oper} {K:aH→OL→Prop} {env:aH} {O O':OL} {rest:List Oper}
variable {d ty:Nat} {pos:String} {af:Array Edge} {x y z:Operand} {t u e:TypeId}
theorem ak.boxF {v:AV} {cs:List AV} (hx:aU env x=v) (hv:v.sto=true) (hc:v.cs=cs) (k:ak P E ops K rest (bz env d (.pf cs)) O):ak P E ops K (Oper.mk (some d) (.box t x) ty pos af none::rest) env O:=fun I F ρ w h1 h2=>by
 obtain ⟨ht,L,hL,hS⟩:=h2
 refine bx.boxP hS rfl fun b w' J hl hb hS'=>?_
 have h3:=h1.ev x
 rw[hx] at h3
 have h4:=AV.cs_rep h3 hv
 rw[hc] at h4
 let I':G:=⟨J,I.h⟩
 have hle:I.le I':=⟨hl,fun _ _ h=>h⟩
 refine q4 (fun _ _=>q9 hle) _ _ _ (k I' F _ w' ((h1.mono hle).upd d ⟨b,0,_,rfl,RepL.mono hle _ _ h4,fun j u hj=>⟨_,_,_,hb,?_⟩⟩) ⟨ht,L,hL.mono hle,hS'⟩)
 rw[Nat.zero_add];simpa using hj
theorem wa {I:G} {F:List (Nat × Obj)} {E w w':World} {L:List (Nat × Obj)} {b:Nat} {T:TypeId} {cs:List AV} {vs:List Value} (h2:eQ I O F E w) (hL:bu I O L) (hr:RepL I cs vs) (h1c:∀u∈vs,u.oneCell'=true)
  (hS:SL I.k ((b,.cells vs.toArray T (0,0))::(L++F)) E w'):∃i J,I.le J∧J.h i=some (some b,0)∧eQ J ((i,.cells T cs)::O) F E w':=by
 obtain ⟨i,hi⟩:=h2.name
 obtain ⟨J,e1,hle,e2,htop⟩:=hi (some b,0)
 exact ⟨i,J,hle,e2,htop,_,⟨_,L,rfl,⟨b,0,vs,e2,RepL.mono hle _ _ hr,h1c,rfl⟩,hL.mono hle⟩,by rw[e1];exact hS⟩
theorem RepL.cell1 {I:G} {cs:List AV} {vs:List Value} (h4:RepL I cs vs) (hc1:cs.all AV.cell=true):∀u∈vs,u.oneCell'=true:=by
 intro u hu
 obtain ⟨j,hj⟩:=List.mem_iff_getElem?.1 hu
 have hlen:=h4.length
 have hjl:=(List.getElem?_eq_some_iff.1 hj).1
 have hx:cs[j]?=some cs[j]:=List.getElem?_eq_getElem (by omega)
 obtain ⟨v',hv',hr'⟩:=h4.get hx
 rw[hj] at hv';cases hv'
 exact AV.cell_rep hr' (List.all_eq_true.1 hc1 _ (List.getElem_mem _))
theorem ak.boxO {v:AV} {cs:List AV} (hx:aU env x=v) (hv:v.sto=true) (hc:v.cs=cs) (hc1:cs.all AV.cell=true) (k:∀i,ak P E ops K rest (bz env d (.po i 0)) ((i,.cells t cs)::O)) :
  ak P E ops K (Oper.mk (some d) (.box t x) ty pos af none::rest) env O:=fun I F ρ w h1 h2=>by
 obtain ⟨L,hL,hS⟩:=h2.2
 refine bx.boxO hS rfl fun b w' hS'=>?_
 have h3:=h1.ev x
 rw[hx] at h3
 have h4:=AV.cs_rep h3 hv
 rw[hc] at h4
 obtain ⟨i,J,hle,e2,h5⟩:=wa (O:=O) (w':=w') (b:=b) (T:=t) h2 hL h4 (h4.cell1 hc1) (by simpa using hS')
 exact q4 (fun _ _=>q9 hle) _ _ _ (k i J F _ w' ((h1.mono hle).upd d ⟨b,0,e2,rfl⟩) h5)
theorem ak.alloc {zv:Value} {cs:List AV} (hz:∀w,(zeroValue t).run P w=.ok zv w) (hc:zv.cells.toList.map lit=cs) (h1c:zv.cells.toList.all Value.oneCell'=true) (k:∀i,ak P E ops K rest (bz env d (.po i 0)) ((i,.cells t cs)::O)) :
  ak P E ops K (Oper.mk (some d) (.alloc t) ty pos af none::rest) env O:=fun I F ρ w h1 h2=>by
 obtain ⟨L,hL,hS⟩:=h2.2
 refine bx.alloc hz hS fun b w' hS'=>?_
 obtain ⟨i,J,hle,e2,h5⟩:=wa (O:=O) (w':=w') (b:=b) (T:=t) h2 hL (hc▸e8 I zv.cells.toList) (List.all_eq_true.1 h1c) (by simpa using hS')
 exact q4 (fun _ _=>q9 hle) _ _ _ (k i J F _ w' ((h1.mono hle).upd d ⟨b,0,e2,rfl⟩) h5)
theorem fX {b off n:Nat} {vs:List Value} {T:TypeId} {v:Value} {old:List Value} {w:World} (hs:∀w,(sizeOf t).run P w=.ok n w) (hvc:v.cells=vs.toArray) (hn:vs.length=n) (h1c:∀u∈vs,u.oneCell'=true) (hb:off+n≤old.length)
  (hown:w.heap[b]?=some (.cells old.toArray T (0,0))):(Instr.storeAt t (.pointer (some ⟨b,off,none⟩)) v).run P w=.ok () (w.setRow b (old.take off++vs++old.drop (off+n)).toArray):=by
 have hst:(storeCells (⟨b,off,none⟩:Addr) vs 0).run P w=.ok () (w.setRow b (old.take off++vs++old.drop (off+n)).toArray):=by
  rw[run_storeCells_at (P:=P) b off T vs 0 old.toArray w hown (by simp;omega) h1c]
  simp[hn]
 have hvs:v.cells.size=n:=by rw[hvc];simpa using hn
 simp[Instr.storeAt,Instr.sureAddr,storeVar,hs,hvc,hn,hst]
theorem SL.turn1 {I:aJ} {L:List (Nat × Obj)} {E w:World} {b:Nat} {old new:List Value} {T:TypeId} (h:SL I ((b,.cells old.toArray T (0,0))::L) E w):SL I ((b,.cells new.toArray T (0,0))::L) E (w.setRow b new.toArray):=by
 have hown:=h.own _ (.head _)
 simp only at hown
 refine h.turn rfl rfl rfl ?_ ?_
 ·simp[World.setRow,Array.getElem?_modify,hown]
 ·intro k hk
  simp only[World.setRow,Array.getElem?_modify]
  rw[if_neg (by omega)]
theorem ak.storeC {i off n:Nat} {T:TypeId} {v:AV} {cs l new:List AV} (hs:∀w,(sizeOf t).run P w=.ok n w) (hx:aU env x=.po i off) (hy:aU env y=v) (hv:v.sto=true) (hl:v.cs=l) (hl1:l.all AV.cell=true) (hn:l.length=n)
  (hO:eh O i (.cells T cs) (.cells T new) O') (hb:Nat.ble (off+n) cs.length=true) (hnew:cs.take off++l++cs.drop (off+n)=new) (k:ak P E ops K rest env O'):ak P E ops K (Oper.mk none (.store t x y) ty pos af none::rest) env O:=fun I F ρ w h1 h2=>by
 obtain ⟨htop,L,hL,hS⟩:=h2
 have h3:=h1.ev x
 rw[hx] at h3
 obtain ⟨b,c,e1,e⟩:=h3
 have h4:=h1.ev y
 rw[hy] at h4
 have h5:=AV.cs_rep h4 hv
 rw[hl] at h5
 obtain ⟨A,B,hp,⟨b',c',vs,e2,h6,h6c,rfl⟩,hback⟩:=hO.rep hL
 rw[e1] at e2;cases e2
 have hS2:SL I.k ((b,.cells vs.toArray T (0,0))::(B++F)) E w:=hS.perm ((hp.append_right F).symm)
 have hb:=Nat.le_of_ble_eq_true hb
 have hrun:=fX (P:=P) (t:=t) (b:=b) (off:=off) (v:=ev ρ y) (vs:=(ev ρ y).cells.toList) (old:=vs) (w:=w) hs (by simp) (by rw[h5.length,hn]) (h5.cell1 hl1) (by rw[h6.length];exact hb) (hS2.own _ (.head _))
 refine bx.step rfl ?_
 unfold dy
 have:(execOp (ev ρ) (Oper.mk none (.store t x y) ty pos af none)).run P w=.ok .skip (w.setRow b (vs.take off++(ev ρ y).cells.toList++vs.drop (off+n)).toArray):=by
  simp only[execOp,e]
  rw[Sem.run_bind,hrun];rfl
 rw[this]
 have hnr:RepL I new (vs.take off++(ev ρ y).cells.toList++vs.drop (off+n)):=hnew▸((h6.take off).append h5).append (h6.drop (off+n))
 obtain ⟨L',h7,h8⟩:=hback (G.le.refl I) (A':=[(b,.cells (vs.take off++(ev ρ y).cells.toList++vs.drop (off+n)).toArray T (0,0))]) ⟨b,c,_,e1,hnr,by
  intro u hu
  simp only[List.mem_append] at hu
  rcases hu with (hu|hu)|hu
  ·exact h6c u (List.mem_of_mem_take hu)
  ·exact h5.cell1 hl1 u hu
  ·exact h6c u (List.mem_of_mem_drop hu),rfl⟩
 exact k I F ρ _ h1 ⟨htop,L',h7,(hS2.turn1).perm (h8.append_right F)⟩
end
end
section
open Go.Proofs.Tryz
def fY (place:Nat→Option (Nat × Nat)):List AV→List (Nat × List AV)→Option (List AV)
 |cells,[]=>some cells
 |cells,(i,xs)::rest=>
  match place i with
  |none=>none
  |some (off,size)=>bif Nat.beq xs.length size&&Nat.ble (off+size) cells.length then fY place (cells.take off++(xs++cells.drop (off+size))) rest else none
theorem mq (off:Nat):∀(l:List Value) (k:Nat) (cs:Array Value),off+k+l.length≤cs.size→((l.zipIdx k).foldl (fun cs (x:Value × Nat)=>cs.setIfInBounds (off+x.2) x.1) cs).toList=cs.toList.take (off+k)++l++cs.toList.drop (off+k+l.length):=by
 intro l
 induction l with
 |nil=>intro k cs _;simp
 |cons c l ih=>
  intro k cs hk
  simp only[List.zipIdx_cons,List.foldl_cons]
  rw[ih (k+1) _ (by simp at hk ⊢;omega)]
  simp only[Array.toList_setIfInBounds,List.length_cons]
  have hk':off+k<cs.toList.length:=by simp at hk ⊢;omega
  rw[←Nat.add_assoc off k 1,List.take_succ_eq_append_getElem (by simpa using hk'),List.getElem_set_self,List.take_set_of_le (Nat.le_refl _)]
  rw[List.drop_set_of_lt (by omega:off+k<off+k+1+l.length)]
  simp only[List.append_assoc,List.singleton_append]
  have:off+k+1+l.length=off+k+(l.length+1):=by omega
  rw[this]
theorem gV {I:G} {place:Nat→Option (Nat × Nat)}:∀(l:List (Nat × Value)) (cps:List (Nat × List AV)) (cells:List AV) (vcells:Array Value) (rs:List AV),
  cps.map (·.1)=l.map (·.1)→(∀(j:Nat) p q,l[j]?=some p→cps[j]?=some q→RepL I q.2 p.2.cells.toList)→RepL I cells vcells.toList→fY place cells cps=some rs →
  ∃vc,Instr.fill place vcells l=some vc∧RepL I rs vc.toList
 |[],[],cells,vcells,rs,_,_,h,hf=>⟨vcells,rfl,by cases hf;exact h⟩
 |[],_::_,_,_,_,h,_,_,_=>by cases h
 |_::_,[],_,_,_,h,_,_,_=>by cases h
 |(i,v)::l,(i',xs)::cps,cells,vcells,rs,hk,hp,h,hf=>by
  simp only[List.map_cons,List.cons.injEq] at hk
  obtain ⟨rfl,hk⟩:=hk
  unfold fY at hf
  unfold Instr.fill
  cases hpl:place i' with
  |none=>rw[hpl] at hf;cases hf
  |some os=>
   obtain ⟨off,size⟩:=os
   rw[hpl] at hf
   simp only at hf ⊢
   have hx:=hp 0 _ _ rfl rfl
   simp only at hx
   have hxl:=hx.length
   have hcl:=h.length
   simp only[Array.length_toList] at hxl hcl
   cases hb:(Nat.beq xs.length size&&Nat.ble (off+size) cells.length) with
   |false=>rw[hb] at hf;cases hf
   |true=>
    rw[hb] at hf
    simp only[cond_true] at hf
    simp only[Bool.and_eq_true] at hb
    have e1:=Nat.eq_of_beq_eq_true hb.1
    have e2:=Nat.le_of_ble_eq_true hb.2
    rw[if_neg (show ¬((v.cells.size≠size||off+v.cells.size>vcells.size)=true) by simp;omega)]
    have hfold:=mq off v.cells.toList 0 vcells (by simp;omega)
    simp only[Nat.add_zero] at hfold
    have hfa:(v.cells.zipIdx.foldl (fun cs (x:Value × Nat)=>cs.setIfInBounds (off+x.2) x.1) vcells).toList=vcells.toList.take off++v.cells.toList++vcells.toList.drop (off+size):=by
     rw[←Array.foldl_toList]
     have:v.cells.zipIdx.toList=v.cells.toList.zipIdx 0:=by simp
     have hlen:v.cells.toList.length=size:=by rw[Array.length_toList];omega
     rw[this,hfold,hlen]
    refine gV l cps _ _ rs hk (fun j p q h1 h2=>hp (j+1) p q (by simpa using h1) (by simpa using h2)) ?_ hf
    rw[hfa,List.append_assoc]
    exact (h.take off).append (hx.append (h.drop _))
def gF (P:Program) (t:TypeId) (places:Array (Nat × Nat)) (zs:List AV):Prop:=
 ∃fs zv,P.underlying t=some (.struct fs)∧(∀w,(zeroValue t).run P w=.ok zv w)∧(∀w,(fs.mapM (m:=Sem) fun f=>do pure (f.offset,←sizeOf f.type)).run P w=.ok places w)∧zv.cells.toList.map lit=zs
def jX (P:Program) (t:TypeId) (k:Nat) (zs:List AV):Prop:=
 ∃n e zv,P.underlying t=some (.array n e)∧(∀w,(zeroValue t).run P w=.ok zv w)∧(∀w,(sizeOf e).run P w=.ok k w)∧zv.cells.toList.map lit=zs
section
variable {E:World} {P:Program} {ops:Array Oper} {K:aH→OL→Prop} {env:aH} {O O':OL} {rest:List Oper}
variable {d ty:Nat} {pos:String} {af:Array Edge} {x y z:Operand} {t u e:TypeId}
theorem iB {I:G} {ρ:bF} (h1:db I env ρ) (l:List (Nat × Operand)) (hs:l.all (fun p=>(aU env p.2).sto)=true) (j:Nat) (p:Nat × Value) (q:Nat × List AV)
  (hp:(l.map fun p=>(p.1,ev ρ p.2))[j]?=some p) (hq:(l.map fun p=>(p.1,(aU env p.2).cs))[j]?=some q):RepL I q.2 p.2.cells.toList:=by
 rw[List.getElem?_map] at hp hq
 cases hl:l[j]? with
 |none=>rw[hl] at hp;cases hp
 |some o=>
  rw[hl] at hp hq
  cases hp;cases hq
  exact AV.cs_rep (h1.ev o.2) (List.all_eq_true.1 hs _ (List.mem_of_getElem? hl))
theorem Gv.build {places:Array (Nat × Nat)} {zs rs:List AV} {l:List (Nat × Operand)} {cps:List (Nat × List AV)} (hpl:gF P t places zs) (hs:l.all (fun p=>(aU env p.2).sto)=true) (hv:l.map (fun p=>(p.1,(aU env p.2).cs))=cps)
  (hf:fY (places[·]?) zs cps=some rs):Gv P env O (Oper.mk (some d) (.build t l.toArray) ty pos af none) (.agg rs):=Gv.ofEv fun I ρ h=>by
 obtain ⟨fs,zv,ht,hz,hp,hc⟩:=hpl
 obtain ⟨vc,h1,h2⟩:=gV (I:=I) (place:=(places[·]?)) (l.map fun p=>(p.1,ev ρ p.2)) cps zs zv.cells rs (by subst hv;simp) (fun j p q hj hq=>iB h l hs j p q hj (hv▸hq)) (hc▸e8 I _) hf
 refine ⟨.agg vc,⟨vc.toList,by simp,h2⟩,fun w=>?_⟩
 have hrun:(Instr.build t (l.map fun p=>(p.1,ev ρ p.2)).toArray).run P w=.ok (.agg vc) w:=by
  unfold Instr.build
  simp only[Sem.run_bind,hz,Result.andThen_ok,run_underlying ht]
  rw[hp]
  simp only[Result.andThen_ok,h1]
  rfl
 simp only[execOp,List.map_toArray]
 rw[Sem.run_bind,hrun];rfl
theorem Gv.buildA {k:Nat} {zs rs:List AV} {l:List (Nat × Operand)} {cps:List (Nat × List AV)} (hpl:jX P t k zs) (hs:l.all (fun p=>(aU env p.2).sto)=true) (hv:l.map (fun p=>(p.1,(aU env p.2).cs))=cps)
  (hf:fY (fun i=>some (i*k,k)) zs cps=some rs):Gv P env O (Oper.mk (some d) (.build t l.toArray) ty pos af none) (.agg rs):=Gv.ofEv fun I ρ h=>by
 obtain ⟨n,e,zv,ht,hz,hp,hc⟩:=hpl
 obtain ⟨vc,h1,h2⟩:=gV (I:=I) (place:=fun i=>some (i*k,k)) (l.map fun p=>(p.1,ev ρ p.2)) cps zs zv.cells rs (by subst hv;simp) (fun j p q hj hq=>iB h l hs j p q hj (hv▸hq)) (hc▸e8 I _) hf
 refine ⟨.agg vc,⟨vc.toList,by simp,h2⟩,fun w=>?_⟩
 have hrun:(Instr.build t (l.map fun p=>(p.1,ev ρ p.2)).toArray).run P w=.ok (.agg vc) w:=by
  unfold Instr.build
  simp only[Sem.run_bind,hz,Result.andThen_ok,run_underlying ht,hp,h1]
  rfl
 simp only[execOp,List.map_toArray]
 rw[Sem.run_bind,hrun];rfl
def dc (P:Program) (t e:TypeId) (n k:Nat) (zs:List AV):Prop:=
 ∃zv,P.underlying t=some (.slice e)∧(∀w,(sizeOf e).run P w=.ok k w)∧(∀w,(zeroValue e).run P w=.ok zv w)∧0<n*k∧n*k≤2 ^ 24∧((Array.range (n*k)).map (zv.cells[·% zv.cells.size]!)).toList.map lit=zs
theorem jF {n k:Nat} {zs rs:List AV} {l:List (Nat × Operand)} {cps:List (Nat × List AV)} (hpl:dc P t e n k zs) (hs:l.all (fun p=>(aU env p.2).sto)=true) (hv:l.map (fun p=>(p.1,(aU env p.2).cs))=cps)
  (hf:fY (fun i=>some (i*k,k)) zs cps=some rs) {I:G} {ρ:bF} (h:db I env ρ):∃vc:List Value,RepL I rs vc∧∀w,(execOp (ev ρ) (Oper.mk (some d) (.buildSlice t n l.toArray) ty pos af none)).run P w=.ok (.value (.slice (some ⟨w.heap.size,0,none⟩) n n)) (w.alloc (.cells vc.toArray e)):=by
 obtain ⟨zv,ht,hsz,hz,h0,h24,hc⟩:=hpl
 obtain ⟨vc,h1,h2⟩:=gV (I:=I) (place:=fun i=>some (i*k,k)) (l.map fun p=>(p.1,ev ρ p.2)) cps zs ((Array.range (n*k)).map (zv.cells[·% zv.cells.size]!)) rs (by subst hv;simp) (fun j p q hj hq=>iB h l hs j p q hj (hv▸hq)) (hc▸e8 I _) hf
 refine ⟨vc.toList,h2,fun w=>?_⟩
 have hrun:(Instr.buildSlice t n (l.map fun p=>(p.1,ev ρ p.2)).toArray).run P w=.ok (.slice (some ⟨w.heap.size,0,none⟩) n n) (w.alloc (.cells vc e)):=by
  unfold Instr.buildSlice
  simp only[Sem.run_bind,Result.andThen_ok,run_underlying ht,hsz]
  rw[if_neg (by omega)]
  simp only[Sem.run_pure,Result.andThen_ok,if_neg (by omega:¬n*k=0),Sem.run_bind,hz,h1,newRow]
  simp
 simp only[execOp,List.map_toArray]
 rw[Sem.run_bind,hrun];simp
theorem RepR.of_flat {I:G} {k b:Nat} {c:Array Value} {T:TypeId} {f:Nat × Nat} (hb:I.k b=some (.cells c T f)):∀(rows:List (List AV)) (vs:List Value) (j:Nat),(∀r∈rows,r.length=k)→RepL I rows.flatten vs→(∀(i:Nat) u,vs[i]?=some u→c[j*k+i]?=some u)→RepR I k (some ⟨b,0,none⟩) j rows
 |[],_,_,_,_,_=>trivial
 |r::rows,vs,j,hk,h,hc=>by
  have hr:=hk r (by simp)
  have h1:=h.take r.length
  have h2:=h.drop r.length
  simp only[List.flatten_cons,List.take_left,List.drop_left] at h1 h2
  refine ⟨⟨b,0,vs.take r.length,rfl,?_,h1,fun i u hu=>⟨c,T,f,hb,?_⟩⟩,RepR.of_flat hb rows _ (j+1) (fun r hr=>hk r (by simp[hr])) h2 fun i u hu=>?_⟩
  ·rw[h1.length,hr]
  ·rw[List.getElem?_take] at hu
   split at hu
   ·rw[Nat.zero_add];exact hc i u hu
   ·cases hu
  ·rw[List.getElem?_drop,hr] at hu
   have:=hc _ u hu
   rw[Nat.add_mul,Nat.one_mul,Nat.add_assoc];exact this
theorem ak.buildSliceF {n k:Nat} {zs rs:List AV} {rows:List (List AV)} {l:List (Nat × Operand)} {cps:List (Nat × List AV)} (hpl:dc P t e n k zs) (hs:l.all (fun p=>(aU env p.2).sto)=true) (hv:l.map (fun p=>(p.1,(aU env p.2).cs))=cps)
  (hf:fY (fun i=>some (i*k,k)) zs cps=some rs) (hr:rows.flatten=rs) (hk:rows.all (fun r=>Nat.beq r.length k)=true) (hn:rows.length=n) (kk:ak P E ops K rest (bz env d (.fro k rows)) O) :
  ak P E ops K (Oper.mk (some d) (.buildSlice t n l.toArray) ty pos af none::rest) env O:=fun I F ρ w h1 h2=>by
 obtain ⟨htop,L,hL,hS⟩:=h2
 obtain ⟨vc,hrep,hrun⟩:=jF (d:=d) (ty:=ty) (pos:=pos) (af:=af) hpl hs hv hf h1
 refine bx.step rfl ?_
 unfold dy
 rw[hrun w]
 obtain ⟨hl,hS'⟩:=hS.alloc_pers (.cells vc.toArray e)
 let J:G:=⟨I.k.put w.heap.size (.cells vc.toArray e),I.h⟩
 have hle:I.le J:=⟨hl,fun _ _ h=>h⟩
 have hb:J.k w.heap.size=some (.cells vc.toArray e):=aJ.put_same _ _ _
 refine q4 (fun _ _=>q9 hle) _ _ _ (kk J F _ _ ((h1.mono hle).upd d ⟨_,n,n,rfl,hn.symm,Nat.le_refl _,fun h=>by (cases h),?_⟩) ⟨htop,L,hL.mono hle,hS'⟩)
 exact RepR.of_flat hb rows vc 0 (fun r h=>Nat.eq_of_beq_eq_true (List.all_eq_true.1 hk r h)) (hr▸RepL.mono hle _ _ hrep) (fun i u hu=>by simpa using hu)
theorem ak.buildSlice0 {i:TypeInfo} {k:Nat} (ht:P.underlying t=some (.slice e)) (hi:P.info? e=some i) (kk:∀j,ak P E ops K rest (bz env d (.own j 0)) ((j,.grow k e [])::O)) :
  ak P E ops K (Oper.mk (some d) (.buildSlice t 0 #[]) ty pos af none::rest) env O:=fun I F ρ w h1 h2=>by
 obtain ⟨L,hL,hS⟩:=h2.2
 obtain ⟨j,hj⟩:=h2.name
 refine bx.buildSlice0 ht hi hS fun b w' hS'=>?_
 obtain ⟨J,e1,hle,e2,htop⟩:=hj (some b,0)
 refine q4 (fun _ _=>q9 hle) _ _ _ (kk j J F _ _ ((h1.mono hle).upd d ⟨_,0,e2,rfl⟩) ⟨htop,_,⟨[(b,.cells [].toArray e (0,0))],L,rfl,⟨some b,0,0,[],e2,rfl,(by simp),gy.made (n:=0) (by simp)⟩,hL.mono hle⟩,by rw[e1];exact hS'⟩)
theorem ak.make1 {i:TypeInfo} {zv z1:Value} {m:Nat} {k1 k2:IntKind} {l l':Int} (ht:P.underlying t=some (.slice e)) (hi:P.info? e=some i) (hz:i.zero=some zv) (hzc:zv.cells=#[z1]) (hk:i.size=1) (hx:aU env x=.int k1 l) (hy:aU env y=.int k2 l')
  (hl:l=(m:Int)) (hl':l'=(m:Int)) (hb:(i.bytes:Int)*(m:Int)≤281474976710656) (hm:m≤281474976710656) (hz1:z1.oneCell'=true) (kk:∀j,ak P E ops K rest (bz env d (.own j m)) ((j,.grow 1 e (List.replicate m (lit z1)))::O)) :
  ak P E ops K (Oper.mk (some d) (.makeSlice t x y) ty pos af none::rest) env O:=fun I F ρ w h1 h2=>by
 obtain ⟨L,hL,hS⟩:=h2.2
 obtain ⟨j,hj⟩:=h2.name
 refine bx.make1 ht hi hz hzc hk (e7 h1 hx) (e7 h1 hy) hl hl' hb hm hS fun b w' hS'=>?_
 obtain ⟨J,e1,hle,e2,htop⟩:=hj (some b,m)
 have hrep:RepL J (List.replicate m (lit z1)) (List.replicate m z1):=by
  have:=e8 J (List.replicate m z1)
  rwa [List.map_replicate] at this
 refine q4 (fun _ _=>q9 hle) _ _ _ (kk j J F _ _ ((h1.mono hle).upd d ⟨_,m,e2,rfl⟩) ⟨htop,_,⟨[(b,.cells (List.replicate m z1).toArray e (0,0))],L,rfl,⟨some b,m,m,_,e2,hrep,(fun u hu=>by rw[List.eq_of_mem_replicate hu];exact hz1),gy.made (by simp)⟩,hL.mono hle⟩,by rw[e1];exact hS'⟩)
end
end
section
open Go.Proofs.Tryz
theorem RepR.flat {I:G} {k:Nat} {a:Option Addr}:∀{rows:List (List AV)} {j:Nat},RepR I k a j rows→rows≠[]→∃b off vs,a=some ⟨b,off,none⟩∧RepL I rows.flatten vs∧vs.length=rows.length*k∧∀(i:Nat) u,vs[i]?=some u→uM I.k b (off+j*k+i) u
 |[],_,_,h=>absurd rfl h
 |[r],j,⟨⟨b,off,vs,e,h1,h2,h3⟩,_⟩,_=>⟨b,off,vs,e,by simpa using h2,by simpa using h1,h3⟩
 |r::r'::rows,j,⟨⟨b,off,vs,e,h1,h2,h3⟩,h4⟩,_=>by
  obtain ⟨b',off',us,e',h5,h6,h7⟩:=RepR.flat h4 (by simp)
  subst e
  cases e'
  refine ⟨b,off,vs++us,rfl,by simpa using h2.append h5,by simp only[List.length_append,h1,h6,List.length_cons,Nat.add_mul];omega,fun i u hu=>?_⟩
  by_cases hi:i<vs.length
  ·rw[List.getElem?_append_left hi] at hu;exact h3 i u hu
  ·rw[List.getElem?_append_right (by omega)] at hu
   have:=h7 _ u hu
   have e:off+(j+1)*k+(i - vs.length)=off+j*k+i:=by rw[Nat.add_mul,h1];omega
   rwa [e] at this
theorem yM {I:G} {k:Nat} {rows:List (List AV)} {v:Value} (h:bO I (.fro k rows) v) (hc:rows.flatten.all AV.cell=true):∃a n c vs,v=.slice a n c∧n=rows.length∧RepL I rows.flatten vs∧(∀u∈vs,u.oneCell'=true)∧∀O,Dm I.k O k a n vs:=by
 obtain ⟨a,n,c,e,hn,hnc,hnil,hr⟩:=h
 cases rows with
 |nil=>
  refine ⟨a,n,c,[],e,hn,rfl,by simp,fun O=>⟨by simp[hn],by simp,?_⟩⟩
  cases a with
  |none=>exact .inl ⟨rfl,hn⟩
  |some p=>exact .inr ⟨p,rfl,by simp⟩
 |cons r rows=>
  obtain ⟨b,off,vs,e',h1,h2,h3⟩:=hr.flat (by simp)
  refine ⟨a,n,c,vs,e,hn,h1,h1.cell1 hc,fun O=>⟨by rw[h2,hn],h1.cell1 hc,.inr ⟨_,e',fun j u hj=>⟨b,off,rfl,?_⟩⟩⟩⟩
  have:=h3 j u hj
  rw[Nat.zero_mul,Nat.add_zero] at this
  exact .inl this
section
variable {E:World} {P:Program} {ops:Array Oper} {K:aH→OL→Prop} {env:aH} {O O':OL} {rest:List Oper}
variable {d ty:Nat} {pos:String} {af:Array Edge} {x y z:Operand} {t u e:TypeId}
theorem eQ.split {I:G} {O1 O2:OL} {F:List (Nat × Obj)} {E w:World} (hO:O.Perm (O1++O2)) (h:eQ I O F E w):∃L2,bu I O2 L2∧eQ I O1 (L2++F) E w:=by
 obtain ⟨ht,L,hL,hS⟩:=h
 obtain ⟨L',h1,h2⟩:=hL.perm hO
 obtain ⟨A,B,rfl,h3,h4⟩:=bu.append.1 h1
 exact ⟨B,h4,ht,A,h3,hS.perm (by rw[←List.append_assoc];exact (h2.append_right F).symm)⟩
theorem eQ.join {I J:G} {O1 O2:OL} {L2 F:List (Nat × Obj)} {E w:World} (hle:I.le J) (h2:bu I O2 L2) (h:eQ J O1 (L2++F) E w):eQ J (O1++O2) F E w:=by
 obtain ⟨ht,L,hL,hS⟩:=h
 exact ⟨ht,L++L2,bu.append.2 ⟨L,L2,rfl,hL,h2.mono hle⟩,by rw[List.append_assoc];exact hS⟩
theorem eQ.drops {I:G} {O1:OL} {L2 F:List (Nat × Obj)} {E w:World} (h:eQ I O1 (L2++F) E w):SL I.k (L2++F) E w:=by
 obtain ⟨ht,L,hL,hS⟩:=h
 exact hS.dropAll
theorem ak.callA {f:FuncId} {args:List Operand} {tys:Array TypeId} {as0:List AV} {O1 O2:OL} {R:AV→OL→Prop} (ha:args.map (aU env)=as0) (hO:O.Perm (O1++O2)) (hc:bC P E f as0 O1 R)
  (k:∀r O1',R r O1'→ak P E ops K rest (bz env d r) (O1'++O2)):ak P E ops K (Oper.mk (some d) (.call { callee:=.value (.func f),args:=args.toArray,argTypes:=tys }) ty pos af none::rest) env O:=fun I F ρ w h1 h2=>by
 obtain ⟨L2,hL2,h3⟩:=h2.split hO
 refine bx.callF (hc I (L2++F) w (args.map (ev ρ)) (ha▸h1.evs args) h3) ?_
 rintro v w' ⟨J,r,O1',hle,hr,hS,hR⟩
 exact q4 (fun _ _=>q9 hle) _ _ _ (k r O1' hR J F _ _ ((h1.mono hle).upd d hr) (hS.join hle hL2))
theorem ak.callP {f:FuncId} {args:List Operand} {tys:Array TypeId} {as0:List AV} {r:AV} (hc:aV P E f as0 r) (ha:args.map (aU env)=as0)
  (k:ak P E ops K rest (bz env d r) O):ak P E ops K (Oper.mk (some d) (.call { callee:=.value (.func f),args:=args.toArray,argTypes:=tys }) ty pos af none::rest) env O:=fun I F ρ w h1 h2=>by
 obtain ⟨L2,hL2,h3⟩:=h2.split (O1:=[]) (O2:=O) (.refl _)
 refine bx.callF (hc I (L2++F) w (args.map (ev ρ)) (ha▸h1.evs args) h3) ?_
 rintro v w' ⟨J,r',O1',hle,hr,hS,rfl⟩
 exact q4 (fun _ _=>q9 hle) _ _ _ (k J F _ _ ((h1.mono hle).upd d hr) ⟨hS.1,L2,hL2.mono hle,hS.drops⟩)
theorem ak.callVP {f:FuncId} {args:List Operand} {tys:Array TypeId} {a c as0:List AV} {r:AV} (hx:aU env x=.fn f a c) (hc:aV P E f as0 r) (ha:a++args.map (aU env)++c=as0)
  (k:ak P E ops K rest (bz env d r) O):ak P E ops K (Oper.mk (some d) (.call { callee:=.value x,args:=args.toArray,argTypes:=tys }) ty pos af none::rest) env O:=fun I F ρ w h1 h2=>by
 obtain ⟨L2,hL2,h3⟩:=h2.split (O1:=[]) (O2:=O) (.refl _)
 have h4:=h1.ev x
 rw[hx] at h4
 obtain ⟨vs,us,e,h5,h6⟩:=h4
 refine bx.callV e (hc I (L2++F) w (vs++args.map (ev ρ)++us) (ha▸(h5.append (h1.evs args)).append h6) h3) ?_
 rintro v w' ⟨J,r',O1',hle,hr,hS,rfl⟩
 exact q4 (fun _ _=>q9 hle) _ _ _ (k J F _ _ ((h1.mono hle).upd d hr) ⟨hS.1,L2,hL2.mono hle,hS.drops⟩)
theorem Gv.func {f:FuncId} {l m:List Operand} {a c:List AV} (hl:l.map (aU env)=a) (hm:m.map (aU env)=c):Gv P env O (Oper.mk (some d) (.makeFunc (.func f) l.toArray m.toArray) ty pos af none) (.fn f a c):=Gv.ofEv fun I ρ h=>
 ⟨.func (.func f) (l.map (ev ρ)).toArray (m.map (ev ρ)).toArray,⟨_,_,rfl,hl▸h.evs l,hm▸h.evs m⟩,fun w=>by simp[execOp,Instr.makeFunc]⟩
def aZ (E:World) (env:aH) (O:OL) (env':aH) (O':OL):Prop:=∀I F ρ w,db I env ρ→eQ I O F E w→∃J,I.le J∧db J env' ρ∧eQ J O' F E w
end
section
variable {E:World} {P:Program} {n:Nat} {os:Array Oper} {env env':aH} {O O':OL}
theorem aZ.wp {c:Code} {Q:Exit→aH→OL→Prop} (g:aZ E env O env' O') (h:b9 P E n c Q env' O'):b9 P E n c Q env O:=fun I F ρ w h1 h2=>by
 obtain ⟨J,hle,h3,h4⟩:=g I F ρ w h1 h2
 exact (h J F ρ w h3 h4).mono fun _ _ _=>gU.up hle
theorem aZ.ops {K:aH→OL→Prop} {l:List Oper} (g:aZ E env O env' O') (h:ak P E os K l env' O'):ak P E os K l env O:=fun I F ρ w h1 h2=>by
 obtain ⟨J,hle,h3,h4⟩:=g I F ρ w h1 h2
 exact q4 (fun _ _=>q9 hle) _ _ _ (h J F ρ w h3 h4)
theorem aZ.fin {rs:Array ResultVar} {R:AV→OL→Prop} (g:aZ E env O env' O') (h:bM P E rs R .ret env' O'):bM P E rs R .ret env O:=fun I F ρ w h1 h2=>by
 obtain ⟨J,hle,h3,h4⟩:=g I F ρ w h1 h2
 obtain ⟨v,h5,K,x,O'',h6,h7⟩:=h J F ρ w h3 h4
 exact ⟨v,h5,K,x,O'',hle.trans h6,h7⟩
theorem aZ.perm (h:O.Perm O'):aZ E env O env O':=fun I F ρ w h1 h2=>by
 obtain ⟨L2,hL2,h3⟩:=h2.split (O1:=O') (O2:=[]) (by simpa using h)
 have:L2=[]:=hL2
 subst this
 exact ⟨I,.refl _,h1,h3⟩
theorem aZ.drop {i:Nat} {o:aW} (h:cU O i o O'):aZ E env O env O':=fun I F ρ w h1 h2=>by
 obtain ⟨ht,L,hL,hS⟩:=h2
 obtain ⟨A,B,hp,_,hB⟩:=h.rep hL
 exact ⟨I,.refl _,h1,ht,B,hB,(hS.perm (by rw[←List.append_assoc];exact (hp.append_right F).symm):SL I.k (A++(B++F)) E w).dropAll⟩
end
section
variable {E:World} {P:Program} {n:Nat} {ops:Array Oper} {env:aH} {O O':OL}
theorem e9 {c:Code} {Q:Exit→aH→OL→Prop} {t k:Nat} {T:TypeId} (hv:env t=.raw (.slice none 0 0)) (h:∀i,b9 P E n c Q (bz env t (.own i 0)) ((i,.grow k T [])::O)):b9 P E n c Q env O:=fun I F ρ w h1 h2=>by
 obtain ⟨i,hi⟩:=h2.name
 obtain ⟨J,e1,hle,e2,htop⟩:=hi (none,0)
 obtain ⟨_,L,hL,hS⟩:=h2
 have h3:ρ t=.slice none 0 0:=by have:=h1 t;rw[hv] at this;exact this
 refine (h i J F ρ w (fun s=>?_) ⟨htop,_,⟨[],L,rfl,⟨none,0,0,[],e2,rfl,by simp,gy.nil k T⟩,hL.mono hle⟩,by rw[e1];exact hS⟩).mono fun _ _ _=>gU.up hle
 unfold bz
 cases hb:Nat.beq s t with
 |false=>exact bO.mono hle _ _ (h1 s)
 |true=>
  have:s=t:=Nat.eq_of_beq_eq_true hb
  subst this
  exact ⟨none,0,e2,h3⟩
theorem know {I:G} {F:List (Nat × Obj)} {E w:World} {i k m:Nat} {T:TypeId} {rows:List (List AV)} (hO:cU O i (.grow k T rows.flatten) O') (hk:∀r∈rows,r.length=k) (hk0:0<k) (hm:rows.length=m) (h:eQ I O F E w) :
  ∃J,I.le J∧eQ J O' F E w∧∀v,bO I (.own i m) v→bO J (.fro k rows) v:=by
 obtain ⟨ht,L,hL,hS⟩:=h
 obtain ⟨A,B,hp,⟨b,c,n,vs,e1,hvs,hvc,hown⟩,hB⟩:=hO.rep hL
 simp only at e1
 have hS2:SL I.k (A++(B++F)) E w:=hS.perm (by rw[←List.append_assoc];exact (hp.append_right F).symm)
 have hflat:rows.flatten.length=rows.length*k:=by
  clear hO hvs hm
  induction rows with
  |nil=>simp
  |cons r rows ih=>simp only[List.flatten_cons,List.length_append,List.length_cons,ih (fun r h=>hk r (by simp[h])),hk r (by simp),Nat.add_mul];omega
 have hnm:n=m:=by
  have h5:=hown.1
  have h6:=hvs.length
  have:n*k=m*k:=by rw[←hm];omega
  exact Nat.eq_of_mul_eq_mul_right hk0 this
 subst hnm
 obtain ⟨h5,h6,h7⟩:=hown
 rcases h7 with ⟨ea,rfl,rfl⟩|⟨b',junk,ea,rfl,hj⟩
 ·refine ⟨I,.refl _,⟨ht,B,hB,by simpa using hS2⟩,?_⟩
  rintro v ⟨b2,c2,e2,rfl⟩
  rw[e1] at e2
  simp only[Option.some.injEq,Prod.mk.injEq] at e2
  obtain ⟨rfl,rfl⟩:=e2
  have h0:rows=[]:=List.eq_nil_of_length_eq_zero (by omega)
  subst h0
  exact ⟨mn b,n,0,rfl,hm.symm,h6,fun _=>rfl,trivial⟩
 ·cases b with
  |none=>simp[mn] at ea
  |some b=>
   simp[mn] at ea
   subst ea
   obtain ⟨hl,hS3⟩:=SL.freeze (by simpa using hS2:SL I.k ((b,.cells (vs++junk).toArray T (0,0))::(B++F)) E w)
   let J:G:=⟨I.k.put b (.cells (vs++junk).toArray T (0,0)),I.h⟩
   have hle:I.le J:=⟨hl,fun _ _ h=>h⟩
   have hb:J.k b=some (.cells (vs++junk).toArray T (0,0)):=aJ.put_same _ _ _
   refine ⟨J,hle,⟨ht,B,hB.mono hle,hS3⟩,?_⟩
   rintro v ⟨b2,c2,e2,rfl⟩
   rw[e1] at e2
   simp only[Option.some.injEq,Prod.mk.injEq] at e2
   obtain ⟨rfl,rfl⟩:=e2
   refine ⟨mn (some b),n,c,rfl,hm.symm,h6,fun h=>by simp[mn] at h,RepR.of_flat hb rows vs 0 hk (RepL.mono hle _ _ hvs) fun i u hu=>?_⟩
   rw[Nat.zero_mul,Nat.zero_add,List.getElem?_toArray,List.getElem?_append_left (List.getElem?_eq_some_iff.1 hu).1]
   exact hu
theorem aZ.know {t i k m:Nat} {T:TypeId} {rows:List (List AV)} (hv:env t=.own i m) (hO:cU O i (.grow k T rows.flatten) O') (hk:∀r∈rows,r.length=k) (hk0:0<k) (hm:rows.length=m):aZ E env O (bz env t (.fro k rows)) O':=fun I F ρ w h1 h2=>by
 obtain ⟨J,hle,h3,h4⟩:=Go.Proofs.YtbconpmnckokoaaGreatDoor.know hO hk hk0 hm h2
 refine ⟨J,hle,fun s=>?_,h3⟩
 unfold bz
 cases hb:Nat.beq s t with
 |false=>exact bO.mono hle _ _ (h1 s)
 |true=>
  have:s=t:=Nat.eq_of_beq_eq_true hb
  subst this
  exact h4 _ (hv▸h1 s)
end
end
section
open Go.Proofs.Tryz
theorem bw.mono {P:Program} {ops:Array Oper} {S0 S0' S S':World→Prop} {W:Nat→Bool} {Q Q':bF→World→Prop} (hS0:∀w,S0 w→S0' w) (hS:∀w,S w→S' w) (hQ:∀ρ w,Q ρ w→Q' ρ w):∀(fuel:Nat) (listed:Array Bool) (ρ:bF) (w:World),
  bw P ops S0 S W Q fuel listed ρ w→bw P ops S0' S' W Q' fuel listed ρ w
 |0,_,_,_,h=>⟨h.1,hQ _ _ h.2⟩
 |fuel+1,_,_,_,h=>⟨fun h0=>hQ _ _ (h.1 h0),fun i hi o ho=>q4 (fun _ _ ⟨a,b⟩=>⟨⟨hS0 _ a.1,a.2.imp id (hS _)⟩,bw.mono hS0 hS hQ fuel _ _ _ b⟩) _ _ _ (h.2 i hi o ho)⟩
def cL (J0:aJ) (L:List (Nat × Obj)) (E:World) (w:World):Prop:=∃J L',J0.le J∧SL J L' E w∧∀y∈L,y∈L'
def bH (P:Program) (E:World) (l:List Oper) (W:Nat→Bool) (Q:aH→OL→Prop) (fuel:Nat) (listed:Array Bool) (env:aH) (Os Om:OL):Prop:=
 ∀I F ρ w Ls,db I env ρ→bu I Os Ls→eQ I Om (Ls++F) E w→bw P l.toArray (cL I.k [] E) (cL I.k Ls E) W (fW I F E Q) fuel listed ρ w
def iS (P:Program) (E:World) (l:List Oper) (W:Nat→Bool) (Q:aH→OL→Prop) (fuel:Nat) (listed:Array Bool) (env:aH) (O:OL):Prop:=
 ∀I F ρ w,db I env ρ→eQ I O F E w→∀S,bw P l.toArray (cL I.k [] E) S W (fW I F E Q) fuel listed ρ w
theorem eQ.here {I:G} {Om:OL} {Ls F:List (Nat × Obj)} {E w:World} (h:eQ I Om (Ls++F) E w):cL I.k Ls E w:=by
 obtain ⟨_,L,_,hS⟩:=h
 exact ⟨I.k,_,.refl _,hS,fun y hy=>by simp[hy]⟩
theorem eQ.together {I:G} {Os Om:OL} {Ls F:List (Nat × Obj)} {E w:World} (hs:bu I Os Ls) (h:eQ I Om (Ls++F) E w):eQ I (Os++Om) F E w:=by
 obtain ⟨ht,L,hL,hS⟩:=h
 refine ⟨ht,Ls++L,bu.append.2 ⟨Ls,L,rfl,hs,hL⟩,hS.perm ?_⟩
 rw[←List.append_assoc]
 exact (List.perm_append_comm).append_right F
theorem cL.less {J0:aJ} {L:List (Nat × Obj)} {E w:World} (h:cL J0 L E w):cL J0 [] E w:=let ⟨J,L',a,b,_⟩:=h;⟨J,L',a,b,fun _ h=>(by cases h)⟩
section
variable {E:World} {P:Program} {n:Nat} {l:List Oper} {W:Nat→Bool} {Q:aH→OL→Prop} {fuel:Nat} {listed:Array Bool} {env:aH} {O Os Om:OL}
variable {d ty:Nat} {op:Op} {pos:String} {af:Array Edge}
theorem b9.regionDraw (W:Nat→Bool) {Q:Exit→aH→OL→Prop} {id:Nat} (hm:P.follows .mixedOrders=true) (hd:dK n l=true) (hO:O.Perm (Om++Os)) (h:bH P E l W (Q .normal) l.length (Array.replicate l.length false) env Os Om):b9 P E n (.region id l.toArray true) Q env O:=fun I F ρ w h1 h2=>by
 obtain ⟨Ls,hLs,h3⟩:=h2.split hO
 refine WP.regionDraw (cL I.k [] E) (cL I.k Ls E) W hm hd fun w' hw=>?_
 subst hw
 refine h I F ρ _ Ls h1 hLs ?_
 obtain ⟨ht,L,hL,hS⟩:=h3
 exact ⟨ht,L,hL,hS.drew⟩
theorem wb {i:Nat} (hr:Region.ready .any l.toArray listed=[i]) (hW:(W i||!dL W listed)=true):dg W (listed.setIfInBounds i true):=by
 have h1:=(mem_ready.1 (show i∈Region.ready .any l.toArray listed by rw[hr];exact .head _)).1
 have hi:i<listed.size:=by
  rcases Nat.lt_or_ge i listed.size with h|h
  ·exact h
  ·rw[Array.getD_eq_getD_getElem?,Array.getElem?_eq_none h] at h1;cases h1
 rcases Bool.or_eq_true_iff.1 hW with h|h
 ·refine ⟨i,?_,h⟩
  rw[Array.getD_eq_getD_getElem?,Array.getElem?_setIfInBounds,if_pos rfl,if_pos hi];rfl
 ·refine gE ?_
  have h:dL W listed=false:=by simpa using h
  unfold dL at h
  obtain ⟨j,_,hj⟩:=List.all_eq_false.1 h
  simp only[Bool.not_eq_true,Bool.not_eq_false',Bool.and_eq_true] at hj
  exact ⟨j,by simpa using hj⟩
theorem bH.takeK {i:Nat} {x:AV} (hi:l[i]?=some (Oper.mk (some d) op ty pos af none)) (hs:Region.noSelect l.toArray=true) (hf:Region.free .any l.toArray listed i=true)
  (hr:(Region.ready .any l.toArray listed).contains i=true) (hWi:W i=false) (hg:Gv P env [] (Oper.mk (some d) op ty pos af none) x)
  (h:bH P E l W Q fuel (listed.setIfInBounds i true) (bz env d x) Os Om):bH P E l W Q (fuel+1) listed env Os Om:=fun I F ρ w Ls h1 hLs h2=>by
 obtain ⟨v,hv,hrun⟩:=hg I [] E ρ h1 rfl
 exact bw.takeK hi hs hf hr hWi h2.here.less (.inr h2.here) (fun w ⟨J,L',a,b,c⟩=>hrun w J L' a b c) (h I F _ w Ls (h1.upd d hv) hLs h2)
theorem bH.take {i:Nat} {x:AV} (hi:l[i]?=some (Oper.mk (some d) op ty pos af none)) (hs:Region.noSelect l.toArray=true) (hf:Region.free .any l.toArray listed i=true)
  (hr:(Region.ready .any l.toArray listed).contains i=true) (hW:em l i W=true) (hWi:W i=false) (hcl:dL W listed=true) (hg:Gv P env Os (Oper.mk (some d) op ty pos af none) x)
  (h:bH P E l W Q fuel (listed.setIfInBounds i true) (bz env d x) Os Om):bH P E l W Q (fuel+1) listed env Os Om:=fun I F ρ w Ls h1 hLs h2=>by
 obtain ⟨v,hv,hrun⟩:=hg I Ls E ρ h1 hLs
 exact bw.take hi hs hf hr hW hWi hcl h2.here.less h2.here (fun w ⟨J,L',a,b,c⟩=>hrun w J L' a b c) (h I F _ w Ls (h1.upd d hv) hLs h2)
theorem bH.takeT {i j s:Nat} {b t:Bool} {x:AV} (hi:l[i]?=some (Oper.mk (some d) op ty pos af (some (j,b)))) (hg0:(l[j]?).bind (fun o:Oper=>o.dst)=some s) (hv0:env s=.bool t) (ht:t=b) (hs:Region.noSelect l.toArray=true) (hf:Region.free .any l.toArray listed i=true)
  (hr:(Region.ready .any l.toArray listed).contains i=true) (hW:em l i W=true) (hWi:W i=false) (hcl:dL W listed=true) (hg:Gv P env Os (Oper.mk (some d) op ty pos af none) x)
  (h:bH P E l W Q fuel (listed.setIfInBounds i true) (bz env d x) Os Om):bH P E l W Q (fuel+1) listed env Os Om:=fun I F ρ w Ls h1 hLs h2=>by
 obtain ⟨v,hv,hrun⟩:=hg I Ls E ρ h1 hLs
 exact bw.takeT hi hg0 (by have:=h1 s;rw[hv0] at this;exact this) ht hs hf hr hW hWi hcl h2.here.less h2.here (fun w ⟨J,L',a,b,c⟩=>hrun w J L' a b c) (h I F _ w Ls (h1.upd d hv) hLs h2)
theorem bH.takeF {i j s:Nat} {b t:Bool} (hi:l[i]?=some (Oper.mk (some d) op ty pos af (some (j,b)))) (hg0:(l[j]?).bind (fun o:Oper=>o.dst)=some s) (hv0:env s=.bool t) (ht:t=!b) (hs:Region.noSelect l.toArray=true) (hf:Region.free .any l.toArray listed i=true)
  (hr:(Region.ready .any l.toArray listed).contains i=true) (hW:em l i W=true) (hWi:W i=false) (hcl:dL W listed=true)
  (h:bH P E l W Q fuel (listed.setIfInBounds i true) (bz env d (.raw undef)) Os Om):bH P E l W Q (fuel+1) listed env Os Om:=fun I F ρ w Ls h1 hLs h2=>
 bw.takeF hi hg0 (by have:=h1 s;rw[hv0] at this;exact this) ht hs hf hr hW hWi hcl h2.here.less h2.here (h I F _ w Ls (h1.upd d rfl) hLs h2)
theorem bH.one {i:Nat} {o:Oper} (hi:l[i]?=some o) (hr:Region.ready .any l.toArray listed=[i])
  (h:ak P E l.toArray (fun env' Om'=>bH P E l W Q fuel (listed.setIfInBounds i true) env' Os Om') [o] env Om):bH P E l W Q (fuel+1) listed env Os Om:=fun I F ρ w Ls h1 hLs h2=>
 bw.one hi hr (q4 (fun ρ' w' ⟨J,env',Om',a,b,c,d⟩=>by
  have hst:cL I.k Ls E w':=by
   obtain ⟨J',L',h3,h4,h5⟩:=c.here
   exact ⟨J',L',a.k.trans h3,h4,h5⟩
  refine ⟨⟨hst.less,.inr hst⟩,bw.mono ?_ ?_ (fun _ _=>q9 a) _ _ _ _ (d J F ρ' w' Ls b (hLs.mono a) c)⟩
  ·rintro w ⟨J',L',h3,h4⟩;exact ⟨J',L',a.k.trans h3,h4⟩
  ·rintro w ⟨J',L',h3,h4⟩;exact ⟨J',L',a.k.trans h3,h4⟩) _ _ _ (h I (Ls++F) ρ w h1 h2))
theorem bH.done (hr:Region.ready .any l.toArray listed=[]) (h:Q env (Os++Om)):bH P E l W Q fuel listed env Os Om:=fun I F ρ w Ls h1 hLs h2=>
 bw.done hr ⟨I,env,Os++Om,.refl _,h1,eQ.together hLs h2,h⟩
theorem bH.case {t:Bool} {s:Nat} (_:env s=.bool t) (h1:t=true→bH P E l W Q fuel listed env Os Om) (h2:t=false→bH P E l W Q fuel listed env Os Om):bH P E l W Q fuel listed env Os Om:=by
 cases t
 ·exact h2 rfl
 ·exact h1 rfl
theorem bH.writes (h:iS P E l W Q fuel listed env (Os++Om)):bH P E l W Q fuel listed env Os Om:=fun I F ρ w Ls h1 hLs h2=>h I F ρ w h1 (eQ.together hLs h2) _
theorem iS.one {i:Nat} {o:Oper} (hi:l[i]?=some o) (hr:Region.ready .any l.toArray listed=[i]) (hW:(W i||!dL W listed)=true)
  (h:ak P E l.toArray (fun env' O'=>iS P E l W Q fuel (listed.setIfInBounds i true) env' O') [o] env O):iS P E l W Q (fuel+1) listed env O:=fun I F ρ w h1 h2 S=>
 bw.one hi hr (q4 (fun ρ' w' ⟨J,env',O',a,b,c,d⟩=>⟨⟨(by
  obtain ⟨_,L',_,h4⟩:=c
  exact ⟨J.k,_,a.k,h4,fun _ h=>(by cases h)⟩),.inl (wb hr hW)⟩,bw.mono (fun _ ⟨J',L',h3,h4⟩=>⟨J',L',a.k.trans h3,h4⟩) (fun _ h=>h) (fun _ _=>q9 a) _ _ _ _ (d J F ρ' w' b c S)⟩) _ _ _ (h I F ρ w h1 h2))
theorem iS.done (hr:Region.ready .any l.toArray listed=[]) (h:Q env O):iS P E l W Q fuel listed env O:=fun I F ρ w h1 h2 S=>
 bw.done hr ⟨I,env,O,.refl _,h1,h2,h⟩
end
theorem RepL.same {I J:G} (hle:I.le J):∀{cs:List AV} {vs:List Value},RepL I cs vs→∀{off:Nat} {x y:AV},cs[off]?=some x→(∀v,bO I x v→bO J y v)→RepL J (cs.set off y) vs
 |[],_,_,_,_,_,h,_=>by simp at h
 |c::cs,_,⟨v,us,e,h1,h2⟩,off,x,y,h,hxy=>by
  subst e
  cases off with
  |zero=>simp at h;subst h;exact ⟨v,us,rfl,hxy v h1,RepL.mono hle _ _ h2⟩
  |succ off=>exact ⟨v,us,rfl,bO.mono hle _ _ h1,RepL.same hle h2 (by simpa using h) hxy⟩
section
variable {E:World} {P:Program} {n:Nat} {env:aH} {O O' O'':OL}
theorem eh.same {I J:G} {F:List (Nat × Obj)} {E w:World} {j off:Nat} {T:TypeId} {cs:List AV} {x y:AV} (hle:I.le J) (hk:J.k=I.k∨True) (hp:eh O j (.cells T cs) (.cells T (cs.set off y)) O') (hc:cs[off]?=some x) (hxy:∀v,bO I x v→bO J y v)
  {L:List (Nat × Obj)} (hL:bu I O L):∃L',bu J O' L'∧L.Perm L':=by
 obtain ⟨A,B,hp1,⟨b,c,vs,e1,hvs,hvc,rfl⟩,hback⟩:=hp.rep hL
 obtain ⟨L',h1,h2⟩:=hback hle (A':=[(b,.cells vs.toArray T (0,0))]) ⟨b,c,vs,hle.h _ _ e1,hvs.same hle hc hxy,hvc,rfl⟩
 exact ⟨L',h1,hp1.trans h2.symm⟩
theorem aZ.knowC {j off i k m:Nat} {T T':TypeId} {cs:List AV} {rows:List (List AV)} (hO:cU O i (.grow k T rows.flatten) O') (hP:eh O' j (.cells T' cs) (.cells T' (cs.set off (.fro k rows))) O'') (hc:cs[off]?=some (.own i m))
  (hk:∀r∈rows,r.length=k) (hk0:0<k) (hm:rows.length=m):aZ E env O env O'':=fun I F ρ w h1 h2=>by
 obtain ⟨J,hle,h3,h4⟩:=Go.Proofs.YtbconpmnckokoaaGreatDoor.know hO hk hk0 hm h2
 obtain ⟨ht,L,hL,hS⟩:=h3
 obtain ⟨_,L0,hL0,hS0⟩:=h2
 obtain ⟨A,B,hp,⟨b,c,vs,e1,hvs,hvc,rfl⟩,hback⟩:=hP.rep hL
 obtain ⟨A0,B0,hp0,_,hB0⟩:=hO.rep hL0
 obtain ⟨A1,B1,hp1,⟨b1,c1,vs1,e2,hvs1,hvc1,rfl⟩,_⟩:=hP.rep hB0
 have e3:=hle.h _ _ e2
 simp only at e1 e3
 rw[e1] at e3
 simp only[Option.some.injEq,Prod.mk.injEq] at e3
 obtain ⟨rfl,rfl⟩:=e3
 have hS1:SL I.k (A0++(B0++F)) E w:=hS0.perm (by rw[←List.append_assoc];exact (hp0.append_right F).symm)
 have hv1:=hS1.own (b,.cells vs1.toArray T' (0,0)) (by simp;right;left;exact hp1.mem_iff.2 (by simp))
 have hv:=hS.own (b,.cells vs.toArray T' (0,0)) (by simp;left;exact hp.mem_iff.2 (by simp))
 simp only at hv hv1
 rw[hv] at hv1
 simp only[Option.some.injEq,Obj.cells.injEq] at hv1
 have hvv:vs=vs1:=by have:=congrArg Array.toList hv1.1;simpa using this
 subst hvv
 obtain ⟨L',h5,h6⟩:=hback (G.le.refl J) (A':=[(b,.cells vs.toArray T' (0,0))]) ⟨b,c,vs,e1,hvs1.same hle hc h4,hvc,rfl⟩
 exact ⟨J,hle,h1.mono hle,ht,L',h5,hS.perm (((h6.trans hp.symm).append_right F))⟩
theorem dM {j off k:Nat} {T T':TypeId} {cs:List AV} {c:Code} {Q:Exit→aH→OL→Prop} {f:Nat→OL} (hP:∀i,eh O j (.cells T' cs) (.cells T' (cs.set off (.own i 0))) (f i)) (hc:cs[off]?=some (.raw (.slice none 0 0)))
  (h:∀i,b9 P E n c Q env ((i,.grow k T [])::f i)):b9 P E n c Q env O:=fun I F ρ w h1 h2=>by
 obtain ⟨i,hi⟩:=h2.name
 obtain ⟨J,e1,hle,e2,htop⟩:=hi (none,0)
 obtain ⟨_,L,hL,hS⟩:=h2
 obtain ⟨L',h3,h4⟩:=eh.same (F:=F) (E:=E) (w:=w) hle (.inr trivial) (hP i) hc (fun v hv=>⟨none,0,e2,hv⟩) hL
 exact (h i J F ρ w (h1.mono hle) ⟨htop,_,⟨[],L',rfl,⟨none,0,0,[],e2,rfl,by simp,gy.nil k T⟩,h3⟩,by rw[e1];exact hS.perm (h4.symm.append_right F)⟩).mono fun _ _ _=>gU.up hle
end
def AV.plain:AV→Bool
 |.bool _ | .int _ _ | .str _=>true
 |_=>false
theorem AV.plain_rep {I J:G} {x:AV} {v:Value} (hp:x.plain=true) (h:bO I x v):bO J x v:=by
 cases x<;>first|exact h|cases hp
theorem n6 {k:Nat} {rows:List (List AV)} (hk:∀r∈rows,r.length=k):rows.flatten.length=rows.length*k:=by
 induction rows with
 |nil=>simp
 |cons r rows ih=>simp only[List.flatten_cons,List.length_append,List.length_cons,ih (fun r h=>hk r (by simp[h])),hk r (by simp),Nat.add_mul];omega
end
section
open Go.Proofs.Tryz
inductive oa:OL→OL→OL→Prop
 |rest (O):oa O O []
 |l {x O A B}:oa O A B→oa (x::O) (x::A) B
 |r {x O A B}:oa O A B→oa (x::O) A (x::B)
theorem oa.perm {O A B:OL} (h:oa O A B):O.Perm (A++B):=by
 induction h with
 |rest=>simp
 |l _ ih=>exact ih.cons _
 |r _ ih=>exact (ih.cons _).trans List.perm_middle.symm
section
variable {E:World} {P:Program} {n:Nat} {ops:Array Oper} {K:aH→OL→Prop} {env:aH} {O O':OL} {rest:List Oper}
variable {d ty:Nat} {pos:String} {af:Array Edge} {x y z:Operand} {t u e:TypeId}
theorem ak.storeW {i m:Nat} {T:TypeId} {v:AV} {cs l:List AV} (hs:∀w,(sizeOf t).run P w=.ok m w) (hx:aU env x=.po i 0) (hy:aU env y=v) (hv:v.sto=true) (hl:v.cs=l) (hl1:l.all AV.cell=true) (hn:l.length=m)
  (hO:eh O i (.cells T cs) (.cells T l) O') (hb:cs.length=m) (k:ak P E ops K rest env O'):ak P E ops K (Oper.mk none (.store t x y) ty pos af none::rest) env O:=
 ak.storeC (off:=0) hs hx hy hv hl hl1 hn hO (by rw[hb];simp) (by rw[Nat.zero_add,List.drop_eq_nil_of_le (by omega)];simp) k
theorem ak.storeG {i off m k:Nat} {T:TypeId} {v:AV} {cs l new:List AV} (hs:∀w,(sizeOf t).run P w=.ok m w) (hx:aU env x=.po i off) (hy:aU env y=v) (hv:v.sto=true) (hl:v.cs=l) (hl1:l.all AV.cell=true) (hn:l.length=m)
  (hO:eh O i (.grow k T cs) (.grow k T new) O') (hb:off+m≤cs.length) (hm:0<m) (hnew:cs.take off++l++cs.drop (off+m)=new) (kk:ak P E ops K rest env O'):ak P E ops K (Oper.mk none (.store t x y) ty pos af none::rest) env O:=fun I F ρ w h1 h2=>by
 obtain ⟨htop,L,hL,hS⟩:=h2
 have h3:=h1.ev x
 rw[hx] at h3
 obtain ⟨b,c,e1,e⟩:=h3
 have h4:=h1.ev y
 rw[hy] at h4
 have h5:=AV.cs_rep h4 hv
 rw[hl] at h5
 obtain ⟨A,B,hp,⟨b',c',n',vs,e2,h6,h6c,hown⟩,hback⟩:=hO.rep hL
 simp only at e2
 rw[e1] at e2
 simp only[Option.some.injEq,Prod.mk.injEq] at e2
 obtain ⟨rfl,rfl⟩:=e2
 obtain ⟨g1,g2,g3⟩:=hown
 rcases g3 with ⟨g3,_,_⟩|⟨b'',junk,g3,rfl,g4⟩
 ·simp[mn] at g3
 simp[mn] at g3
 subst g3
 have hS2:SL I.k ((b,.cells (vs++junk).toArray T (0,0))::(B++F)) E w:=hS.perm ((hp.append_right F).symm)
 have hlen:=h6.length
 have hrun:=fX (P:=P) (t:=t) (b:=b) (off:=off) (v:=ev ρ y) (vs:=(ev ρ y).cells.toList) (old:=vs++junk) (w:=w) hs (by simp) (by rw[h5.length,hn]) (h5.cell1 hl1) (by rw[List.length_append];omega) (hS2.own _ (.head _))
 have hre:(vs++junk).take off++(ev ρ y).cells.toList++(vs++junk).drop (off+m)=(vs.take off++(ev ρ y).cells.toList++vs.drop (off+m))++junk:=by
  rw[List.take_append_of_le_length (by omega),List.drop_append_of_le_length (by omega)];simp
 rw[hre] at hrun
 refine bx.step rfl ?_
 unfold dy
 have:(execOp (ev ρ) (Oper.mk none (.store t x y) ty pos af none)).run P w=.ok .skip (w.setRow b ((vs.take off++(ev ρ y).cells.toList++vs.drop (off+m))++junk).toArray):=by
  simp only[execOp,e]
  rw[Sem.run_bind,hrun];rfl
 rw[this]
 have hnr:RepL I new (vs.take off++(ev ρ y).cells.toList++vs.drop (off+m)):=hnew▸((h6.take off).append h5).append (h6.drop (off+m))
 have hnl:(vs.take off++(ev ρ y).cells.toList++vs.drop (off+m)).length=vs.length:=by
  have:=h5.length
  simp only[List.length_append,List.length_take,List.length_drop];omega
 obtain ⟨L',h7,h8⟩:=hback (G.le.refl I) (A':=[(b,.cells ((vs.take off++(ev ρ y).cells.toList++vs.drop (off+m))++junk).toArray T (0,0))]) ⟨some b,_,n',_,e1,hnr,by
  intro u hu
  simp only[List.mem_append] at hu
  rcases hu with (hu|hu)|hu
  ·exact h6c u (List.mem_of_mem_take hu)
  ·exact h5.cell1 hl1 u hu
  ·exact h6c u (List.mem_of_mem_drop hu),by rw[hnl];exact g1,g2,.inr ⟨b,junk,rfl,rfl,by
   simp only[List.length_append] at g4 ⊢
   simp only[List.length_append] at hnl
   omega⟩⟩
 exact kk I F ρ _ h1 ⟨htop,L',h7,(hS2.turn1).perm (h8.append_right F)⟩
theorem ak.storeG1 {i off k:Nat} {T:TypeId} {v:AV} {cs:List AV} (hs:∀w,(sizeOf t).run P w=.ok 1 w) (hx:aU env x=.po i off) (hy:aU env y=v) (hv:v.sto=true) (hl:v.cs=[v]) (hl1:v.cell=true)
  (hO:eh O i (.grow k T cs) (.grow k T (cs.set off v)) O') (hb:off<cs.length) (kk:ak P E ops K rest env O'):ak P E ops K (Oper.mk none (.store t x y) ty pos af none::rest) env O:=
 ak.storeG hs hx hy hv hl (by simp[hl1]) rfl hO (by omega) (by omega) (by rw[List.set_eq_take_append_cons_drop,if_pos hb];simp) kk
theorem Gv.field1 {fs:Array Field} {f:Field} {i:Nat} {cs:List AV} {v:AV} (ht:P.underlying t=some (.struct fs)) (hf:fs[i]?=some f) (ha:∀w,(isAgg f.type).run P w=.ok false w) (hx:aU env x=.agg cs) (hv:cs[f.offset]?=some v) :
  Gv P env O (Oper.mk (some d) (.field t x i) ty pos af none) v:=Gv.ofEv fun I ρ h=>by
 have h2:=h.ev x
 rw[hx] at h2
 obtain ⟨vs,e,hr⟩:=h2
 obtain ⟨u,hu,hru⟩:=hr.get hv
 exact ⟨u,hru,fun w=>by simp[execOp,e,Instr.field,run_underlying ht,hf,part,ha,hu,asAgg,Result.andThen]⟩
theorem Gv.idxAF {n k j:Nat} {i:Int} {cs cs':List AV} (ht:P.underlying t=some (.array n e)) (hs:∀w,(sizeOf e).run P w=.ok k w) (hx:aU env x=.pf cs) (hy:aU env y=.int .i64 i) (hi:i=(j:Int)) (hj:j<n) (hl:cs.drop (j*k)=cs') :
  Gv P env O (Oper.mk (some d) (.indexAddr t x y) ty pos af none) (.pf cs'):=fun I L E ρ h1 _=>by
 have h2:=h1.ev x
 rw[hx] at h2
 obtain ⟨b,off,vs,ex,h3,h5⟩:=h2
 refine ⟨.pointer (some ⟨b,off+j*k,none⟩),⟨b,_,vs.drop (j*k),rfl,hl▸h3.drop _,fun m u hu=>?_⟩,fun w J L' _ _ _=>?_⟩
 ·rw[List.getElem?_drop] at hu
  have:=h5 _ _ hu
  rwa [←Nat.add_assoc] at this
 ·subst hi
  simp[execOp,ex,e7 h1 hy,Instr.indexAt,asIntOf,run_underlying ht,hs,hj,bv,Instr.sureAddr]
theorem Gv.idxAO {n k j id off:Nat} {i:Int} (ht:P.underlying t=some (.array n e)) (hs:∀w,(sizeOf e).run P w=.ok k w) (hx:aU env x=.po id off) (hy:aU env y=.int .i64 i) (hi:i=(j:Int)) (hj:j<n) {r:Nat} (hr:off+j*k=r) :
  Gv P env O (Oper.mk (some d) (.indexAddr t x y) ty pos af none) (.po id r):=fun I L E ρ h1 _=>by
 have h2:=h1.ev x
 rw[hx] at h2
 obtain ⟨b,c,e1,ex⟩:=h2
 refine ⟨.pointer (some ⟨b,r,none⟩),⟨b,c,e1,rfl⟩,fun w J L' _ _ _=>?_⟩
 subst hi hr
 simp[execOp,ex,e7 h1 hy,Instr.indexAt,asIntOf,run_underlying ht,hs,hj,bv,Instr.sureAddr]
theorem Gv.indexA {n j k:Nat} {i:Int} {cs l:List AV} (ht:P.underlying t=some (.array n e)) (ha:∀w,(isAgg e).run P w=.ok true w) (hs:∀w,(sizeOf e).run P w=.ok k w) (hx:aU env x=.agg cs) (hy:aU env y=.int .i64 i) (hi:i=(j:Int)) (hj:j<n) (hl:(cs.drop (j*k)).take k=l) :
  Gv P env O (Oper.mk (some d) (.index t x y) ty pos af none) (.agg l):=Gv.ofEv fun I ρ h=>by
 have h2:=h.ev x
 rw[hx] at h2
 obtain ⟨vs,ex,hr⟩:=h2
 refine ⟨.agg ((vs.drop (j*k)).take k).toArray,⟨_,rfl,hl▸(hr.drop _).take _⟩,fun w=>?_⟩
 subst hi
 simp[execOp,ex,e7 h hy,Instr.index,asIntOf,run_underlying ht,hj,hs,part,ha,Result.andThen]
theorem Gv.indexT {j:Nat} {i:Int} {s:ByteArray} {c:UInt8} (ht:P.underlying t=some .string) (hx:aU env x=.str s) (hy:aU env y=.int .i64 i) (hi:i=(j:Int)) (hv:s.data[j]?=some c) :
  Gv P env O (Oper.mk (some d) (.index t x y) ty pos af none) (.int .u8 c.toNat):=Gv.ofEv fun I ρ h=>by
 refine ⟨_,rfl,fun w=>?_⟩
 subst hi
 have hj:s[j]?=some c:=by
  have h1:=(Array.getElem?_eq_some_iff.1 hv)
  obtain ⟨h1,h2⟩:=h1
  show (if h:j<s.size then some s[j] else none)=some c
  rw[dif_pos (show j<s.size from h1)];exact congrArg some h2
 simp[execOp,yL h hx,e7 h hy,Instr.index,asIntOf,run_underlying ht,hj]
theorem ak.rangeT {s:ByteArray} (ht:P.underlying t=some .string) (hx:aU env x=.str s) (k:∀i,ak P E ops K rest (bz env d (.po i 0)) ((i,.iter s 0)::O)):ak P E ops K (Oper.mk (some d) (.range t x) ty pos af none::rest) env O:=fun I F ρ w h1 h2=>by
 obtain ⟨L,hL,hS⟩:=h2.2
 obtain ⟨i,hi⟩:=h2.name
 refine bx.rangeT ht hS (yL h1 hx) fun b w' hS'=>?_
 obtain ⟨J,e1,hle,e2,htop⟩:=hi (some b,0)
 exact q4 (fun _ _=>q9 hle) _ _ _ (k i J F _ _ ((h1.mono hle).upd d ⟨b,0,e2,rfl⟩) ⟨htop,_,⟨_,L,rfl,⟨b,0,e2,rfl⟩,hL.mono hle⟩,by rw[e1];exact hS'⟩)
theorem ak.nextT {i p:Nat} {s:ByteArray} (hx:aU env x=.po i 0) (hO:eh O i (.iter s p) (.iter s (p+(Utf8.decode s p).2)) O') (hp:p<s.size)
  (k:ak P E ops K rest (bz env d (.tup [.bool true,.int .i64 p,.int .i32 (Utf8.decode s p).1])) O'):ak P E ops K (Oper.mk (some d) (.next x true) ty pos af none::rest) env O:=fun I F ρ w h1 h2=>by
 obtain ⟨ht,L,hL,hS⟩:=h2
 have h3:=h1.ev x
 rw[hx] at h3
 obtain ⟨b,c,e1,e⟩:=h3
 obtain ⟨A,B,hp1,⟨b',c',e2,rfl⟩,hback⟩:=hO.rep hL
 simp only at e2
 rw[e1] at e2
 simp only[Option.some.injEq,Prod.mk.injEq] at e2
 obtain ⟨rfl,rfl⟩:=e2
 have hS2:SL I.k ((b,.stringIter s p)::(B++F)) E w:=hS.perm ((hp1.append_right F).symm)
 refine bx.nextT hS2 e hp fun w' hS'=>?_
 obtain ⟨L',h7,h8⟩:=hback (G.le.refl I) (A':=[(b,.stringIter s (p+(Utf8.decode s p).2))]) ⟨b,c,e1,rfl⟩
 exact k I F _ _ (h1.upd d ⟨[.bool true,.int .i64 p,.int .i32 (Utf8.decode s p).1],rfl,⟨_,_,rfl,rfl,⟨_,_,rfl,rfl,⟨_,_,rfl,rfl,rfl⟩⟩⟩⟩) ⟨ht,L',h7,hS'.perm (h8.append_right F)⟩
theorem ak.nextTover {i p:Nat} {s:ByteArray} (hx:aU env x=.po i 0) (hO:cU O i (.iter s p) O') (hp:¬p<s.size)
  (k:ak P E ops K rest (bz env d (.tup [.bool false])) O):ak P E ops K (Oper.mk (some d) (.next x true) ty pos af none::rest) env O:=fun I F ρ w h1 h2=>by
 obtain ⟨ht,L,hL,hS⟩:=id h2
 have h3:=h1.ev x
 rw[hx] at h3
 obtain ⟨b,c,e1,e⟩:=h3
 obtain ⟨A,B,hp1,⟨b',c',e2,rfl⟩,_⟩:=hO.rep hL
 simp only at e2
 rw[e1] at e2
 simp only[Option.some.injEq,Prod.mk.injEq] at e2
 obtain ⟨rfl,rfl⟩:=e2
 have hS2:SL I.k ((b,.stringIter s p)::(B++F)) E w:=hS.perm (by have:=(hp1.append_right F).symm;simpa using this)
 exact bx.nextTover hS2 e hp (k I F _ _ (h1.upd d ⟨[.bool false],rfl,⟨_,_,rfl,rfl,rfl⟩⟩) h2)
theorem ak.nextA {i p:Nat} {s:ByteArray} {c:UInt8} (hx:aU env x=.po i 0) (hc:s.data[p]?=some c) (hc2:c<128) (hO:eh O i (.iter s p) (.iter s (p+1)) O')
  (k:ak P E ops K rest (bz env d (.tup [.bool true,.int .i64 p,.int .i32 (c.toNat:Int)])) O'):ak P E ops K (Oper.mk (some d) (.next x true) ty pos af none::rest) env O:=by
 have hp:p<s.size:=by
  by_cases hp:p<s.data.size
  ·exact hp
  ·rw[Array.getElem?_eq_none (by omega)] at hc;cases hc
 have hd:=gT hc hc2
 exact ak.nextT hx (by rw[hd];exact hO) hp (by rw[hd];exact k)
end
end
section
open Go.Proofs.Tryz
theorem iC {k:Nat}:∀(xs:List (List AV)) (i:Nat) (pre zs:List AV),(∀x∈xs,x.length=k)→zs.length=xs.length*k→pre.length=i*k →
  fY (fun i=>some (i*k,k)) (pre++zs) ((xs.zipIdx i).map fun p=>(p.2,p.1))=some (pre++xs.flatten)
 |[],i,pre,zs,_,h,_=>by simp at h;subst h;simp[fY]
 |x::xs,i,pre,zs,hk,h,hp=>by
  have hx:=hk x (by simp)
  have e1:Nat.beq x.length k=true:=by rw[hx];exact Nat.beq_refl k
  have e2:Nat.ble (i*k+k) (pre++zs).length=true:=by
   rw[Nat.ble_eq,List.length_append,hp,h,List.length_cons,Nat.add_mul];omega
  simp only[List.zipIdx_cons,List.map_cons,fY,e1,e2,Bool.and_self,cond_true]
  have h1:(pre++zs).take (i*k)=pre:=by rw[←hp];simp
  have h2:(pre++zs).drop (i*k+k)=zs.drop k:=by rw[←hp,List.drop_append];simp
  rw[h1,h2,←List.append_assoc]
  rw[iC xs (i+1) (pre++x) (zs.drop k) (fun y hy=>hk y (by simp[hy])) (by rw[List.length_drop,h,List.length_cons,Nat.add_mul];omega) (by rw[List.length_append,hp,hx,Nat.add_mul];omega)]
  simp
theorem qH {α:Type} {enc:α→List AV} {k:Nat} (hk:∀x,(enc x).length=k):∀(l:List α) (j:Nat) {x:α},l[j]?=some x→((l.flatMap enc).drop (j*k)).take k=enc x
 |[],j,x,h=>by simp at h
 |y::l,0,x,h=>by simp at h;subst h;simp[List.take_append_of_le_length,hk]
 |y::l,j+1,x,h=>by
  simp only[List.getElem?_cons_succ] at h
  rw[←qH hk l j h,List.flatMap_cons,Nat.add_mul,Nat.one_mul,Nat.add_comm,←List.drop_drop]
  congr 2
  rw[←hk y];simp
section
variable {E:World} {P:Program} {env:aH} {O:OL} {d ty:Nat} {pos:String} {af:Array Edge} {t:TypeId}
theorem Gv.buildAF {k:Nat} {zs:List AV} {xs:List (List AV)} {l:List (Nat × Operand)} (hpl:jX P t k zs) (hs:l.all (fun p=>(aU env p.2).sto)=true) (hv:l.map (fun p=>(p.1,(aU env p.2).cs))=(xs.zipIdx 0).map fun p=>(p.2,p.1))
  (hk:xs.all (fun x=>Nat.beq x.length k)=true) (hz:zs.length=xs.length*k):Gv P env O (Oper.mk (some d) (.build t l.toArray) ty pos af none) (.agg xs.flatten):=
 Gv.buildA hpl hs hv (by
  have:=iC xs 0 [] zs (fun x hx=>Nat.eq_of_beq_eq_true (List.all_eq_true.1 hk x hx)) hz (by simp)
  simpa using this)
end
inductive jY:OL→Nat→aW→Nat→aW→OL→Prop
 |head {i o j o' O}:jY ((i,o)::O) i o j o' ((j,o')::O)
 |tail {x O i o j o' O'}:jY O i o j o' O'→jY (x::O) i o j o' (x::O')
theorem jY.rep {I:G} {O O':OL} {i j:Nat} {o o':aW} (h:jY O i o j o' O'):∀{L},bu I O L→∃A B,L.Perm (A++B)∧kG I (i,o) A ∧
  ∀{J:G} {A'},I.le J→kG J (j,o') A'→∃L',bu J O' L'∧L'.Perm (A'++B):=by
 induction h with
 |head=>rintro L ⟨A,B,e,h1,h2⟩;exact ⟨A,B,e▸.refl _,h1,fun {J A'} hl h=>⟨A'++B,⟨A',B,rfl,h,h2.mono hl⟩,.refl _⟩⟩
 |tail h ih=>
  rintro L ⟨A,B,e,h1,h2⟩
  obtain ⟨C,D,hp,h3,h4⟩:=ih h2
  refine ⟨C,A++D,?_,h3,fun {J A'} hl h=>?_⟩
  ·subst e
   refine (hp.append_left A).trans ?_
   rw[←List.append_assoc,←List.append_assoc]
   exact List.perm_append_comm.append_right D
  ·obtain ⟨L',h5,h6⟩:=h4 hl h
   refine ⟨A++L',⟨A,L',rfl,h1.mono hl,h5⟩,?_⟩
   refine (h6.append_left A).trans ?_
   rw[←List.append_assoc,←List.append_assoc]
   exact List.perm_append_comm.append_right D
section
variable {E:World} {P:Program} {ops:Array Oper} {K:aH→OL→Prop} {env:aH} {O O':OL} {rest:List Oper}
variable {d ty:Nat} {pos:String} {af:Array Edge} {x y z:Operand} {t u e:TypeId}
theorem ak.appendS {ti:TypeInfo} {zv:Value} {k n i:Nat} {cs:List AV} {rows:List (List AV)} {f:Nat→OL} (ht:P.underlying t=some (.slice e)) (hi:P.info? e=some ti) (hz:ti.zero=some zv) (hk:ti.size=k) (hzc:zv.cells.size=k)
  (hx:aU env x=.own i n) (hy:aU env y=.fro k rows) (hO:∀j,jY O i (.grow k e cs) j (.grow k e (cs++rows.flatten)) (f j)) (hn:cs.length=n*k) (hk0:0<k) (hc1:rows.flatten.all AV.cell=true) (hb:(n+rows.length)*ti.bytes≤140737488355328) (hb2:n+rows.length≤140737488355328)
  (kk:∀j,ak P E ops K rest (bz env d (.own j (n+rows.length))) (f j)) :
  ak P E ops K (Oper.mk (some d) (.call { callee:=.builtin .append,args:=#[x,y],argTypes:=#[t,t] }) ty pos af none::rest) env O:=fun I F ρ w h1 h2=>by
 obtain ⟨htop,L,hL,hS⟩:=id h2
 have h3:=h1.ev x
 rw[hx] at h3
 obtain ⟨b,cap,e1,ex⟩:=h3
 have h4:=h1.ev y
 rw[hy] at h4
 obtain ⟨sa,m,sc,vs,ey,hm,hvs,hvc,hsrc⟩:=yM h4 hc1
 obtain ⟨j,hj⟩:=h2.name
 obtain ⟨A,B,hp,⟨b',cap',n',us,e2,hus,huc,hown⟩,hback⟩:=(hO j).rep hL
 simp only at e2
 rw[e1] at e2
 simp only[Option.some.injEq,Prod.mk.injEq] at e2
 obtain ⟨rfl,rfl⟩:=e2
 have hnn:n'=n:=by
  have h5:=hown.1
  have h6:=hus.length
  have:n'*k=n*k:=by omega
  exact Nat.eq_of_mul_eq_mul_right hk0 this
 subst hnn
 subst hm
 have hS2:SL I.k (A++(B++F)) E w:=hS.perm (by rw[←List.append_assoc];exact (hp.append_right F).symm)
 refine bx.append ht hi hz hk hzc ex ey hS2 hown (hsrc _) hb hb2 fun a' c' A' w' h5 h6 h7=>?_
 have hb':∃b'',a'=mn b'':=by
  rcases h5.2.2 with ⟨e,_⟩|⟨b'',junk,e,_⟩
  ·exact ⟨none,e⟩
  ·exact ⟨some b'',e⟩
 obtain ⟨b'',rfl⟩:=hb'
 obtain ⟨J,ek,hle,e3,htop'⟩:=hj (b'',c')
 obtain ⟨L',h8,h9⟩:=hback hle (A':=A') ⟨b'',c',_,us++vs,e3,RepL.mono hle _ _ (hus.append hvs),(by
  intro u hu
  rcases List.mem_append.1 hu with hu|hu
  ·exact huc u hu
  ·exact hvc u hu),h5⟩
 exact q4 (fun _ _=>q9 hle) _ _ _ (kk j J F _ _ ((h1.mono hle).upd d ⟨b'',c',e3,rfl⟩) ⟨htop',L',h8,by rw[ek];exact h6.perm (by rw[←List.append_assoc];exact h9.append_right F)⟩)
end
theorem ei {α:Type} {enc:α→List AV} {xs ys:List α} {x:α} (h:ys=xs++[x]):(xs.map enc).flatten++[enc x].flatten=(ys.map enc).flatten:=by subst h;simp
theorem dC {α:Type} {enc:α→List AV} {k:Nat} (hk:∀x,(enc x).length=k) (xs:List α):(xs.map enc).flatten.length=xs.length*k:=by
 rw[n6 (k:=k) (by simp[hk]),List.length_map]
end
section
open Go.Proofs.Tryz
theorem Cd {I:G} {x v:Value} (h:bO I (lit x) v):v=x:=by cases x<;>exact h
theorem jZ {I:G}:∀{xs vs:List Value},RepL I (xs.map lit) vs→vs=xs
 |[],_,h=>h
 |x::xs,_,⟨v,us,e,h1,h2⟩=>by rw[e,Cd h1,jZ h2]
section
variable {E:World} {P:Program} {env:aH} {O:OL} {d ty:Nat} {pos:String} {af:Array Edge} {x y:Operand} {t u:TypeId}
theorem Gv.eqlP {xs ys:List Value} {r:Bool} (hg:P.eqGuardType P.depth t=false) (hx:aU env x=.agg (xs.map lit)) (hy:aU env y=.agg (ys.map lit)) (hr:∀w,(Op.equalIn 10000 t (.agg xs.toArray) (.agg ys.toArray)).run P w=.ok r w) :
  Gv P env O (Oper.mk (some d) (.binOp .eql t x y u) ty pos af none) (.bool r):=Gv.ofEv fun I ρ h=>by
 have h1:=h.ev x
 have h2:=h.ev y
 rw[hx] at h1
 rw[hy] at h2
 obtain ⟨vs,e1,hv⟩:=h1
 obtain ⟨us,e2,hu⟩:=h2
 rw[jZ hv] at e1
 rw[jZ hu] at e2
 exact ⟨_,rfl,fun w=>by simp only[execOp,e1,e2];simp[run_eqGuard_agg w .eql t x y xs.toArray ys.toArray hg,run_eql_struct,hr]⟩
end
end
section
open Go.Proofs.Tryz
section
variable {E:World} {P:Program} {ops:Array Oper} {K:aH→OL→Prop} {env:aH} {O O':OL} {rest:List Oper}
variable {d ty:Nat} {pos:String} {af:Array Edge} {x y:Operand} {t u e:TypeId}
theorem ak.isNil {k:Nat} {rows:List (List AV)} (ht:P.underlying t=some (.slice e)) (hx:aU env x=.fro k rows) (hy:aU env y=.raw (.slice none 0 0)) (kt:rows=[]→ak P E ops K rest (bz env d (.bool true)) O) (kf:ak P E ops K rest (bz env d (.bool false)) O) :
  ak P E ops K (Oper.mk (some d) (.binOp .eql t x y u) ty pos af none::rest) env O:=fun I F ρ w h1 h2=>by
 have h3:=h1.ev x
 rw[hx] at h3
 obtain ⟨a,n,c,e1,hn,hnc,hnil,_⟩:=h3
 refine bx.eqNilS ht e1 (v7 h1 hy) ?_
 cases a with
 |none=>
  have:rows=[]:=List.eq_nil_of_length_eq_zero (by have:=hnil rfl;omega)
  exact kt this I F _ w (h1.upd d rfl) h2
 |some p=>exact kf I F _ w (h1.upd d rfl) h2
theorem mr {rs:Array ResultVar} {R:AV→OL→Prop} {s k:Nat} {T:TypeId} (hv:env s=.raw (.slice none 0 0)) (h:∀i,bM P E rs R .ret (bz env s (.own i 0)) ((i,.grow k T [])::O)):bM P E rs R .ret env O:=fun I F ρ w h1 h2=>by
 obtain ⟨i,hi⟩:=h2.name
 obtain ⟨J,e1,hle,e2,htop⟩:=hi (none,0)
 obtain ⟨_,L,hL,hS⟩:=h2
 have h3:ρ s=.slice none 0 0:=by have:=h1 s;rw[hv] at this;exact this
 obtain ⟨v,g1,K,x,O',g2,g3⟩:=h i J F ρ w (fun q=>by
  unfold bz
  cases hb:Nat.beq q s with
  |false=>exact bO.mono hle _ _ (h1 q)
  |true=>
   have:q=s:=Nat.eq_of_beq_eq_true hb
   subst this
   exact ⟨none,0,e2,h3⟩) ⟨htop,_,⟨[],L,rfl,⟨none,0,0,[],e2,rfl,by simp,gy.nil k T⟩,hL.mono hle⟩,by rw[e1];exact hS⟩
 exact ⟨v,g1,K,x,O',hle.trans g2,g3⟩
end
theorem Left.refl (O:OL):Left O O:=⟨O,.refl _,rfl⟩
end
section
open Go.Proofs.Tryz
section
variable {E:World} {P:Program} {ops:Array Oper} {K:aH→OL→Prop} {env:aH} {O O':OL} {rest:List Oper}
variable {d ty:Nat} {pos:String} {af:Array Edge} {x y:Operand} {t u e:TypeId}
theorem uO {k:Nat} {zs:List AV} {xs:List (List AV)} (hk:xs.all (fun x=>Nat.beq x.length k)=true) (hz:zs.length=xs.length*k):fY (fun i=>some (i*k,k)) zs ((xs.zipIdx 0).map fun p=>(p.2,p.1))=some xs.flatten:=by
 have:=iC xs 0 [] zs (fun x hx=>Nat.eq_of_beq_eq_true (List.all_eq_true.1 hk x hx)) hz (by simp)
 simpa using this
theorem ak.buildSliceFF {n k:Nat} {zs:List AV} {rows:List (List AV)} {l:List (Nat × Operand)} (hpl:dc P t e n k zs) (hs:l.all (fun p=>(aU env p.2).sto)=true) (hv:l.map (fun p=>(p.1,(aU env p.2).cs))=(rows.zipIdx 0).map fun p=>(p.2,p.1))
  (hk:rows.all (fun r=>Nat.beq r.length k)=true) (hn:rows.length=n) (hz:zs.length=n*k) (kk:ak P E ops K rest (bz env d (.fro k rows)) O) :
  ak P E ops K (Oper.mk (some d) (.buildSlice t n l.toArray) ty pos af none::rest) env O:=
 ak.buildSliceF hpl hs hv (uO hk (by rw[hz,hn])) rfl hk hn kk
end
theorem SL.belowE {I:aJ} {O:List (Nat × Obj)} {E w:World} (hS:SL I O E w):Go.RowKit.Below E.heap.size E w:=by
 have key:∀k,k<E.heap.size→w.heap[k]?=E.heap[k]?:=fun k hk=>by
  have h1:E.heap[k]?=some E.heap[k]:=Array.getElem?_eq_getElem hk
  rw[h1]
  exact hS.pers _ _ (hS.base k _ h1)
 refine ⟨hS.os,hS.tape,hS.output,?_,key⟩
 rcases Nat.lt_or_ge w.heap.size E.heap.size with h|h
 ·have:=key w.heap.size h
  rw[Array.getElem?_eq_none (Nat.le_refl _),Array.getElem?_eq_getElem h] at this
  cases this
 ·exact h
theorem aV.ofBelow {E:World} {P:Program} {f:FuncId} {fn:Func} {c:Code} {as0:List AV} {vs:List Value} {r:Value} (hf:P.funcs[f]?=some fn) (hb:fn.body=some c) (hn:fn.name≠"runtime.NumGoroutine") (has:as0=vs.map lit)
  (h:∀w,Go.RowKit.Below E.heap.size E w→Calls P f vs.toArray w fun e w'=>e=.returned r∧Go.RowKit.Below w.heap.size w w'):aV P E f as0 (lit r):=fun I F w us h1 h2=>by
 subst has
 rw[jZ h1]
 obtain ⟨ht,L,hL,hS⟩:=h2
 have hL:L=[]:=hL
 subst hL
 refine Fn.ofCalls hf hb hn ?_
 exact (h w hS.belowE).mono fun e w' ⟨he,hw⟩=>⟨_,he,I,lit r,[],.refl _,qF I r,⟨ht,[],rfl,hS.below hw⟩,rfl⟩
end
section
open Go.Proofs.Tryz
open Go.Proofs
theorem co:gF prog 155 #[(0,1),(1,1),(2,1)] [.str ⟨#[]⟩,.str ⟨#[]⟩,.str ⟨#[]⟩]:=⟨_,_,underlying155,zeroValue155,fun w=>by kernel_rfl,rfl⟩
theorem Dn:jX prog 165 3 [.str ⟨#[]⟩,.str ⟨#[]⟩,.str ⟨#[]⟩,.str ⟨#[]⟩,.str ⟨#[]⟩,.str ⟨#[]⟩,.str ⟨#[]⟩,.str ⟨#[]⟩,.str ⟨#[]⟩,.str ⟨#[]⟩,.str ⟨#[]⟩,.str ⟨#[]⟩,.str ⟨#[]⟩,.str ⟨#[]⟩,.str ⟨#[]⟩,.str ⟨#[]⟩,.str ⟨#[]⟩,.str ⟨#[]⟩,.str ⟨#[]⟩,.str ⟨#[]⟩,.str ⟨#[]⟩,.str ⟨#[]⟩,.str ⟨#[]⟩,.str ⟨#[]⟩,.str ⟨#[]⟩,.str ⟨#[]⟩,.str ⟨#[]⟩,.str ⟨#[]⟩,.str ⟨#[]⟩,.str ⟨#[]⟩,.str ⟨#[]⟩,.str ⟨#[]⟩,.str ⟨#[]⟩,.str ⟨#[]⟩,.str ⟨#[]⟩,.str ⟨#[]⟩,.str ⟨#[]⟩,.str ⟨#[]⟩,.str ⟨#[]⟩,.str ⟨#[]⟩,.str ⟨#[]⟩,.str ⟨#[]⟩,.str ⟨#[]⟩,.str ⟨#[]⟩,.str ⟨#[]⟩,.str ⟨#[]⟩,.str ⟨#[]⟩,.str ⟨#[]⟩,.str ⟨#[]⟩,.str ⟨#[]⟩,.str ⟨#[]⟩,.str ⟨#[]⟩,.str ⟨#[]⟩,.str ⟨#[]⟩,.str ⟨#[]⟩,.str ⟨#[]⟩,.str ⟨#[]⟩,.str ⟨#[]⟩,.str ⟨#[]⟩,.str ⟨#[]⟩,.str ⟨#[]⟩,.str ⟨#[]⟩,.str ⟨#[]⟩,.str ⟨#[]⟩,.str ⟨#[]⟩,.str ⟨#[]⟩,.str ⟨#[]⟩,.str ⟨#[]⟩,.str ⟨#[]⟩,.str ⟨#[]⟩,.str ⟨#[]⟩,.str ⟨#[]⟩,.str ⟨#[]⟩,.str ⟨#[]⟩,.str ⟨#[]⟩,.str ⟨#[]⟩,.str ⟨#[]⟩,.str ⟨#[]⟩,.str ⟨#[]⟩,.str ⟨#[]⟩,.str ⟨#[]⟩]:=⟨_,_,_,underlying165,zeroValue165,sizeOf155,rfl⟩
variable {E:World}
set_option maxRecDepth 20000
def ec:List (ByteArray × ByteArray × ByteArray):=[(⟨#[99,111,110,115,116]⟩,⟨#[]⟩,⟨#[105]⟩),
 (⟨#[99,111,112,121]⟩,⟨#[105]⟩,⟨#[105]⟩),
 (⟨#[97,100,100]⟩,⟨#[105,105]⟩,⟨#[105]⟩),
 (⟨#[115,117,98]⟩,⟨#[105,105]⟩,⟨#[105]⟩),
 (⟨#[109,117,108]⟩,⟨#[105,105]⟩,⟨#[105]⟩),
 (⟨#[100,105,118]⟩,⟨#[105,105]⟩,⟨#[105]⟩),
 (⟨#[114,101,109]⟩,⟨#[105,105]⟩,⟨#[105]⟩),
 (⟨#[101,113]⟩,⟨#[105,105]⟩,⟨#[98]⟩),
 (⟨#[108,116]⟩,⟨#[105,105]⟩,⟨#[98]⟩),
 (⟨#[108,101]⟩,⟨#[105,105]⟩,⟨#[98]⟩),
 (⟨#[110,111,116]⟩,⟨#[98]⟩,⟨#[98]⟩),
 (⟨#[97,110,100]⟩,⟨#[98,98]⟩,⟨#[98]⟩),
 (⟨#[108,101,110]⟩,⟨#[97]⟩,⟨#[105]⟩),
 (⟨#[108,111,97,100]⟩,⟨#[97,105]⟩,⟨#[105]⟩),
 (⟨#[115,116,111,114,101]⟩,⟨#[97,105,105]⟩,⟨#[]⟩),
 (⟨#[110,101,119]⟩,⟨#[105]⟩,⟨#[97]⟩),
 (⟨#[110,105,108]⟩,⟨#[]⟩,⟨#[97]⟩),
 (⟨#[111,117,116]⟩,⟨#[105]⟩,⟨#[]⟩),
 (⟨#[99,104,107,105,100,120]⟩,⟨#[97,105]⟩,⟨#[]⟩),
 (⟨#[99,104,107,110,105,108]⟩,⟨#[97]⟩,⟨#[]⟩),
 (⟨#[99,104,107,100,105,118]⟩,⟨#[105]⟩,⟨#[]⟩),
 (⟨#[99,104,107,97,100,100]⟩,⟨#[105,105]⟩,⟨#[]⟩),
 (⟨#[99,104,107,115,117,98]⟩,⟨#[105,105]⟩,⟨#[]⟩),
 (⟨#[99,104,107,109,117,108]⟩,⟨#[105,105]⟩,⟨#[]⟩),
 (⟨#[99,104,107,108,101,110]⟩,⟨#[105]⟩,⟨#[]⟩),
 (⟨#[112,105]⟩,⟨#[105,105]⟩,⟨#[105]⟩),
 (⟨#[112,105,108,101,110]⟩,⟨#[105,97]⟩,⟨#[105]⟩)]
def bm (op:Int):ByteArray × ByteArray × ByteArray:=if 0≤op then ec[op.toNat]?.getD (⟨#[]⟩,⟨#[]⟩,⟨#[]⟩) else (⟨#[]⟩,⟨#[]⟩,⟨#[]⟩)
def l1 (op:Int):Bool:=decide (0≤op)&&decide (op<27)
def l2 (r:ByteArray × ByteArray × ByteArray):List AV:=[.str r.1,.str r.2.1,.str r.2.2]
theorem yN (op:Int):aV prog E 92 [.int .i64 op] (.bool (l1 op)):=by
 refine bC.intro func92 rfl (by decide) rfl ?_
 refine zb ?_
 refine y7 rfl ?_
 refine z8 (yb (v:=.bool _) rfl) ?_
 refine z6 ?_
 refine zb ?_
 refine y7 rfl ?_
 refine z8 (yh (v:=.int _ _) rfl) ?_
 refine z8 (qg rfl rfl) ?_
 refine z8 (yh (v:=.bool _) rfl) ?_
 refine zm (s:=5) rfl (fun c1=>?_) (fun c1=>?_)
 ·refine z7 rfl rfl c1 ?_
  refine z8 (yh (v:=.int _ _) rfl) ?_
  refine z7 rfl rfl c1 ?_
  refine z8 (Gv.lss rfl rfl) ?_
  refine z8 (Gv.pickT (v:=.bool _) rfl c1 rfl) ?_
  refine z8 (yb (v:=.bool _) rfl) ?_
  refine z6 ?_
  refine ze ?_
  repeat (first|refine aX ?_|refine aR ?_)
  refine bM.t1 (x:=.bool _) rfl ?_
  simp_all[l1]<;>omega
 ·refine z2 rfl rfl c1 ?_
  refine z2 rfl rfl c1 ?_
  refine z8 (Gv.pickF (v:=.bool _) rfl c1 rfl) ?_
  refine z8 (yb (v:=.bool _) rfl) ?_
  refine z6 ?_
  refine ze ?_
  repeat (first|refine aX ?_|refine aR ?_)
  refine bM.t1 (x:=.bool _) rfl ?_
  simp_all[l1]<;>omega
set_option maxHeartbeats 4000000 in
theorem o5:aV prog E 93 [] (.agg (ec.flatMap l2)):=by
 refine bC.intro func93 rfl (by decide) rfl ?_
 refine zb ?_
 refine y7 rfl ?_
 refine ak.alloc (cs:=[.str ⟨#[]⟩,.str ⟨#[]⟩,.str ⟨#[]⟩,.str ⟨#[]⟩,.str ⟨#[]⟩,.str ⟨#[]⟩,.str ⟨#[]⟩,.str ⟨#[]⟩,.str ⟨#[]⟩,.str ⟨#[]⟩,.str ⟨#[]⟩,.str ⟨#[]⟩,.str ⟨#[]⟩,.str ⟨#[]⟩,.str ⟨#[]⟩,.str ⟨#[]⟩,.str ⟨#[]⟩,.str ⟨#[]⟩,.str ⟨#[]⟩,.str ⟨#[]⟩,.str ⟨#[]⟩,.str ⟨#[]⟩,.str ⟨#[]⟩,.str ⟨#[]⟩,.str ⟨#[]⟩,.str ⟨#[]⟩,.str ⟨#[]⟩,.str ⟨#[]⟩,.str ⟨#[]⟩,.str ⟨#[]⟩,.str ⟨#[]⟩,.str ⟨#[]⟩,.str ⟨#[]⟩,.str ⟨#[]⟩,.str ⟨#[]⟩,.str ⟨#[]⟩,.str ⟨#[]⟩,.str ⟨#[]⟩,.str ⟨#[]⟩,.str ⟨#[]⟩,.str ⟨#[]⟩,.str ⟨#[]⟩,.str ⟨#[]⟩,.str ⟨#[]⟩,.str ⟨#[]⟩,.str ⟨#[]⟩,.str ⟨#[]⟩,.str ⟨#[]⟩,.str ⟨#[]⟩,.str ⟨#[]⟩,.str ⟨#[]⟩,.str ⟨#[]⟩,.str ⟨#[]⟩,.str ⟨#[]⟩,.str ⟨#[]⟩,.str ⟨#[]⟩,.str ⟨#[]⟩,.str ⟨#[]⟩,.str ⟨#[]⟩,.str ⟨#[]⟩,.str ⟨#[]⟩,.str ⟨#[]⟩,.str ⟨#[]⟩,.str ⟨#[]⟩,.str ⟨#[]⟩,.str ⟨#[]⟩,.str ⟨#[]⟩,.str ⟨#[]⟩,.str ⟨#[]⟩,.str ⟨#[]⟩,.str ⟨#[]⟩,.str ⟨#[]⟩,.str ⟨#[]⟩,.str ⟨#[]⟩,.str ⟨#[]⟩,.str ⟨#[]⟩,.str ⟨#[]⟩,.str ⟨#[]⟩,.str ⟨#[]⟩,.str ⟨#[]⟩,.str ⟨#[]⟩]) zeroValue165 rfl rfl ?_
 intro i0
 refine z6 ?_
 refine zb ?_
 refine y7 rfl ?_
 refine z8 (Gv.build (cps:=[(0,[_]),(1,[_]),(2,[_])]) (rs:=[_,_,_]) co rfl rfl rfl) ?_
 refine z8 (Gv.build (cps:=[(0,[_]),(1,[_]),(2,[_])]) (rs:=[_,_,_]) co rfl rfl rfl) ?_
 refine z8 (Gv.build (cps:=[(0,[_]),(1,[_]),(2,[_])]) (rs:=[_,_,_]) co rfl rfl rfl) ?_
 refine z8 (Gv.build (cps:=[(0,[_]),(1,[_]),(2,[_])]) (rs:=[_,_,_]) co rfl rfl rfl) ?_
 refine z8 (Gv.build (cps:=[(0,[_]),(1,[_]),(2,[_])]) (rs:=[_,_,_]) co rfl rfl rfl) ?_
 refine z8 (Gv.build (cps:=[(0,[_]),(1,[_]),(2,[_])]) (rs:=[_,_,_]) co rfl rfl rfl) ?_
 refine z8 (Gv.build (cps:=[(0,[_]),(1,[_]),(2,[_])]) (rs:=[_,_,_]) co rfl rfl rfl) ?_
 refine z8 (Gv.build (cps:=[(0,[_]),(1,[_]),(2,[_])]) (rs:=[_,_,_]) co rfl rfl rfl) ?_
 refine z8 (Gv.build (cps:=[(0,[_]),(1,[_]),(2,[_])]) (rs:=[_,_,_]) co rfl rfl rfl) ?_
 refine z8 (Gv.build (cps:=[(0,[_]),(1,[_]),(2,[_])]) (rs:=[_,_,_]) co rfl rfl rfl) ?_
 refine z8 (Gv.build (cps:=[(0,[_]),(1,[_]),(2,[_])]) (rs:=[_,_,_]) co rfl rfl rfl) ?_
 refine z8 (Gv.build (cps:=[(0,[_]),(1,[_]),(2,[_])]) (rs:=[_,_,_]) co rfl rfl rfl) ?_
 refine z8 (Gv.build (cps:=[(0,[_]),(1,[_]),(2,[_])]) (rs:=[_,_,_]) co rfl rfl rfl) ?_
 refine z8 (Gv.build (cps:=[(0,[_]),(1,[_]),(2,[_])]) (rs:=[_,_,_]) co rfl rfl rfl) ?_
 refine z8 (Gv.build (cps:=[(0,[_]),(1,[_]),(2,[_])]) (rs:=[_,_,_]) co rfl rfl rfl) ?_
 refine z8 (Gv.build (cps:=[(0,[_]),(1,[_]),(2,[_])]) (rs:=[_,_,_]) co rfl rfl rfl) ?_
 refine z8 (Gv.build (cps:=[(0,[_]),(1,[_]),(2,[_])]) (rs:=[_,_,_]) co rfl rfl rfl) ?_
 refine z8 (Gv.build (cps:=[(0,[_]),(1,[_]),(2,[_])]) (rs:=[_,_,_]) co rfl rfl rfl) ?_
 refine z8 (Gv.build (cps:=[(0,[_]),(1,[_]),(2,[_])]) (rs:=[_,_,_]) co rfl rfl rfl) ?_
 refine z8 (Gv.build (cps:=[(0,[_]),(1,[_]),(2,[_])]) (rs:=[_,_,_]) co rfl rfl rfl) ?_
 refine z8 (Gv.build (cps:=[(0,[_]),(1,[_]),(2,[_])]) (rs:=[_,_,_]) co rfl rfl rfl) ?_
 refine z8 (Gv.build (cps:=[(0,[_]),(1,[_]),(2,[_])]) (rs:=[_,_,_]) co rfl rfl rfl) ?_
 refine z8 (Gv.build (cps:=[(0,[_]),(1,[_]),(2,[_])]) (rs:=[_,_,_]) co rfl rfl rfl) ?_
 refine z8 (Gv.build (cps:=[(0,[_]),(1,[_]),(2,[_])]) (rs:=[_,_,_]) co rfl rfl rfl) ?_
 refine z8 (Gv.build (cps:=[(0,[_]),(1,[_]),(2,[_])]) (rs:=[_,_,_]) co rfl rfl rfl) ?_
 refine z8 (Gv.build (cps:=[(0,[_]),(1,[_]),(2,[_])]) (rs:=[_,_,_]) co rfl rfl rfl) ?_
 refine z8 (Gv.build (cps:=[(0,[_]),(1,[_]),(2,[_])]) (rs:=[_,_,_]) co rfl rfl rfl) ?_
 refine z8 (Gv.buildAF (xs:=[[_,_,_],[_,_,_],[_,_,_],[_,_,_],[_,_,_],[_,_,_],[_,_,_],[_,_,_],[_,_,_],[_,_,_],[_,_,_],[_,_,_],[_,_,_],[_,_,_],[_,_,_],[_,_,_],[_,_,_],[_,_,_],[_,_,_],[_,_,_],[_,_,_],[_,_,_],[_,_,_],[_,_,_],[_,_,_],[_,_,_],[_,_,_]]) Dn rfl rfl rfl rfl) ?_
 refine ak.storeW sizeOf165 rfl rfl rfl rfl rfl rfl .head rfl ?_
 refine z6 ?_
 refine ze ?_
 repeat (first|refine aX ?_|refine aR ?_)
 refine bM.c1 rfl ⟨_,.head⟩ isAgg165 sizeOf165 rfl ?_
 rfl
theorem ob {op:Int} (h:l1 op=false):bm op=(⟨#[]⟩,⟨#[]⟩,⟨#[]⟩):=by
 unfold l1 at h
 unfold bm
 split
 ·rename_i h0
  have:¬op<27:=by simpa [h0] using h
  rw[List.getElem?_eq_none (by show 27≤_;omega)];rfl
 ·rfl
theorem yO {op:Int} (h:l1 op=true):∃j:Nat,op=(j:Int)∧j<27∧((ec.flatMap l2).drop (j*3)).take 3=l2 (bm op):=by
 unfold l1 at h
 simp at h
 obtain ⟨j,rfl⟩:∃j:Nat,op=j:=⟨op.toNat,by omega⟩
 have hj:j<27:=by omega
 refine ⟨j,rfl,hj,qH (enc:=l2) (k:=3) (fun _=>rfl) _ _ ?_⟩
 unfold bm
 rw[if_pos h.1,Int.toNat_natCast,List.getElem?_eq_getElem (show j<ec.length from hj)];rfl
theorem j4 (op:Int):aV prog E 80 [.int .i64 op] (.agg (l2 (bm op))):=by
 refine bC.intro func80 rfl (by decide) rfl ?_
 refine zb ?_
 refine y7 rfl ?_
 refine ak.alloc (cs:=[.str ⟨#[]⟩,.str ⟨#[]⟩,.str ⟨#[]⟩]) zeroValue155 rfl rfl ?_
 intro i2
 refine z6 ?_
 refine zb ?_
 refine zb ?_
 refine y7 rfl ?_
 refine z8 (yh (v:=.int _ _) rfl) ?_
 refine ak.callP (yN _) rfl ?_
 refine z8 (Gv.not rfl) ?_
 refine z6 ?_
 refine zw rfl (fun c=>?_) (fun c=>?_)
 ·have c:l1 op=false:=by simpa using c
  rw[ob c]
  refine zb ?_
  refine y7 rfl ?_
  refine z8 (Gv.build (cps:=[]) (rs:=[.str ⟨#[]⟩,.str ⟨#[]⟩,.str ⟨#[]⟩]) co rfl rfl rfl) ?_
  refine ak.storeW sizeOf155 rfl rfl rfl rfl rfl rfl .head rfl ?_
  refine z6 ?_
  refine ze ?_
  repeat (first|refine aX ?_|refine aR ?_)
  refine bM.c1 rfl ⟨_,.head⟩ isAgg155 sizeOf155 rfl ?_
  rfl
 ·have c:l1 op=true:=by simpa using c
  obtain ⟨j,hj1,hj2,hj3⟩:=yO c
  refine zg ?_
  refine zb ?_
  refine y7 rfl ?_
  refine ak.callP (o5) rfl ?_
  refine z8 (yh (v:=.int _ _) rfl) ?_
  refine z8 (Gv.indexA underlying165 isAgg155 sizeOf155 rfl rfl hj1 hj2 hj3) ?_
  refine ak.storeW sizeOf155 rfl rfl rfl rfl rfl rfl .head rfl ?_
  refine z6 ?_
  refine ze ?_
  repeat (first|refine aX ?_|refine aR ?_)
  refine bM.c1 rfl ⟨_,.head⟩ isAgg155 sizeOf155 rfl ?_
  rfl
theorem uP (op:Int):aV prog E 77 [.int .i64 op] (.str (bm op).1):=by
 refine bC.intro func77 rfl (by decide) rfl ?_
 refine zb ?_
 refine y7 rfl ?_
 refine z8 (yb (v:=.str _) rfl) ?_
 refine z6 ?_
 refine zb ?_
 refine y7 rfl ?_
 refine z8 (yh (v:=.int _ _) rfl) ?_
 refine ak.callP (j4 _) rfl ?_
 refine z8 (Gv.field1 (v:=.str _) underlying155 rfl isAgg9 rfl rfl) ?_
 refine z8 (yb (v:=.str _) rfl) ?_
 refine z6 ?_
 refine ze ?_
 repeat (first|refine aX ?_|refine aR ?_)
 refine bM.t1 (x:=.str _) rfl ?_
 rfl
def kJ (op:Int):Bool:=decide (op=0)||decide (op=25)
theorem dT (op:Int):aV prog E 78 [.int .i64 op] (.bool (kJ op)):=by
 refine bC.intro func78 rfl (by decide) rfl ?_
 refine zb ?_
 refine y7 rfl ?_
 refine z8 (yb (v:=.bool _) rfl) ?_
 refine z6 ?_
 refine zb ?_
 refine y7 rfl ?_
 refine z8 (yh (v:=.int _ _) rfl) ?_
 refine z8 (Gv.eqlI rfl rfl) ?_
 refine z8 (yh (v:=.bool _) rfl) ?_
 refine zm (s:=5) rfl (fun c2=>?_) (fun c2=>?_)
 ·refine z2 rfl rfl c2 ?_
  refine z2 rfl rfl c2 ?_
  refine z8 (Gv.pickT (v:=.bool _) rfl c2 rfl) ?_
  refine z8 (yb (v:=.bool _) rfl) ?_
  refine z6 ?_
  refine ze ?_
  repeat (first|refine aX ?_|refine aR ?_)
  refine bM.t1 (x:=.bool _) rfl ?_
  simp_all[kJ]
 ·refine z7 rfl rfl c2 ?_
  refine z8 (yh (v:=.int _ _) rfl) ?_
  refine z7 rfl rfl c2 ?_
  refine z8 (Gv.eqlI rfl rfl) ?_
  refine z8 (Gv.pickF (v:=.bool _) rfl c2 rfl) ?_
  refine z8 (yb (v:=.bool _) rfl) ?_
  refine z6 ?_
  refine ze ?_
  repeat (first|refine aX ?_|refine aR ?_)
  refine bM.t1 (x:=.bool _) rfl ?_
  simp_all[kJ]
def cH (c:Int):Int:=if c=98 then 1 else if c=97 then 2 else 0
theorem kK (c:Int):aV prog E 81 [.int .i32 c] (.int .i64 (cH c)):=by
 refine bC.intro func81 rfl (by decide) rfl ?_
 refine zb ?_
 refine y7 rfl ?_
 refine z8 (yb (v:=.int _ _) rfl) ?_
 refine z6 ?_
 refine zb ?_
 refine zb ?_
 refine y7 rfl ?_
 refine z8 (yh (v:=.int _ _) rfl) ?_
 refine z6 ?_
 refine zk ?_
 refine zb ?_
 refine y7 rfl ?_
 refine z8 (Gv.eqlI rfl rfl) ?_
 refine z8 (yb (v:=.bool _) rfl) ?_
 refine z6 ?_
 refine zw rfl (fun c3=>?_) (fun c3=>?_)
 ·refine zb ?_
  refine y7 rfl ?_
  refine z8 (yb (v:=.int _ _) rfl) ?_
  refine z6 ?_
  refine ze ?_
  repeat (first|refine aX ?_|refine aR ?_)
  refine bM.t1 (x:=.int _ _) rfl ?_
  simp_all[cH]
 ·refine zb ?_
  refine y7 rfl ?_
  refine z8 (Gv.eqlI rfl rfl) ?_
  refine z8 (yb (v:=.bool _) rfl) ?_
  refine z6 ?_
  refine zw rfl (fun c4=>?_) (fun c4=>?_)
  ·refine zb ?_
   refine y7 rfl ?_
   refine z8 (yb (v:=.int _ _) rfl) ?_
   refine z6 ?_
   refine ze ?_
   repeat (first|refine aX ?_|refine aR ?_)
   refine bM.t1 (x:=.int _ _) rfl ?_
   simp_all[cH]
  ·refine zg ?_
   refine zb ?_
   refine y7 rfl ?_
   refine z8 (yb (v:=.int _ _) rfl) ?_
   refine z6 ?_
   refine ze ?_
   repeat (first|refine aX ?_|refine aR ?_)
   refine bM.t1 (x:=.int _ _) rfl ?_
   simp_all[cH]
theorem wc:∀r∈ec,(∀b∈r.2.1.data.toList,b<128)∧(∀b∈r.2.2.data.toList,b<128):=by decide
theorem kL (op:Int):bm op=(⟨#[]⟩,⟨#[]⟩,⟨#[]⟩)∨bm op∈ec:=by
 unfold bm
 split
 ·cases h:ec[op.toNat]? with
  |none=>exact .inl rfl
  |some r=>exact .inr (List.mem_of_getElem? h)
 ·exact .inl rfl
theorem kM (op:Int):(∀b∈(bm op).2.1.data.toList,b<128)∧(∀b∈(bm op).2.2.data.toList,b<128):=by
 rcases kL op with h|h
 ·rw[h];simp
 ·exact wc _ h
def bg (op:Int):List Int:=(bm op).2.1.data.toList.map fun b=>cH b.toNat
def gG (op:Int):Int:=((bm op).2.2.data.toList.head?.map fun b=>cH b.toNat).getD 0
def cQ (op:Int):Bool:=!(bm op).2.2.data.toList.isEmpty
end
section
open Go.Proofs.Tryz
open Go.Proofs
theorem yP:dc prog 119 71 1 1 [.int .i64 0]:=⟨_,underlying119,sizeOf71,zeroValue71,by decide,by decide,by kernel_rfl⟩
variable {E:World}
set_option maxRecDepth 20000
structure l3 where
 name:ByteArray
 ty:Int
deriving DecidableEq
structure cV where
 dst:Int
 args:List Int
 from_:List Int
deriving DecidableEq
structure aD where
 op:Int
 dst:Int
 args:List Int
 num:Int
deriving DecidableEq
structure fH where
 kind:Int
 var:Int
 to0:Int
 to1:Int
deriving DecidableEq
structure aI where
 name:ByteArray
 phis:List cV
 insts:List aD
 term:fH
deriving DecidableEq
structure ai where
 vars:List l3
 params:List Int
 blocks:List aI
deriving DecidableEq
def bS (x:Int):List AV:=[.int .i64 x]
def bU (v:l3):List AV:=[.str v.name,.int .i64 v.ty]
def bD (p:cV):List AV:=[.int .i64 p.dst,.fro 1 (p.args.map bS),.fro 1 (p.from_.map bS)]
def bf (x:aD):List AV:=[.int .i64 x.op,.int .i64 x.dst,.fro 1 (x.args.map bS),.int .i64 x.num]
def mW (t:fH):List AV:=[.int .i64 t.kind,.int .i64 t.var,.int .i64 t.to0,.int .i64 t.to1]
def bc (b:aI):List AV:=[.str b.name,.fro 3 (b.phis.map bD),.fro 4 (b.insts.map bf),.int .i64 b.term.kind,.int .i64 b.term.var,.int .i64 b.term.to0,.int .i64 b.term.to1]
def bW (f:ai):List AV:=[.fro 2 (f.vars.map bU),.fro 1 (f.params.map bS),.fro 7 (f.blocks.map bc)]
theorem kN (op:Int):aV prog E 63 [.int .i64 op] (.fro 1 ((bg op).map bS)):=by
 obtain ⟨hasc,_⟩:=kM op
 have hl:(bg op).length=(bm op).2.1.size:=by unfold bg;rw[List.length_map];exact Array.length_toList
 have hlen:(bg op).length≤3:=by
  rcases kL op with h|h
  ·unfold bg;rw[h];decide
  ·have:∀r∈ec,r.2.1.data.toList.length≤3:=by decide
   have:=this _ h
   unfold bg;simpa using this
 refine bC.intro func63 rfl (by decide) rfl ?_
 refine zb ?_
 refine y7 rfl ?_
 refine z8 (yb (v:=.raw _) rfl) ?_
 refine z6 ?_
 refine zb ?_
 refine y7 rfl ?_
 refine z8 (yb (v:=.raw _) rfl) ?_
 refine z6 ?_
 refine e9 (t:=3) (k:=1) (T:=71) rfl ?_
 intro i3
 refine zb ?_
 refine zb ?_
 refine y7 rfl ?_
 refine z8 (yh (v:=.int _ _) rfl) ?_
 refine ak.callP (j4 _) rfl ?_
 refine z8 (Gv.field1 (v:=.str _) underlying155 rfl isAgg9 rfl rfl) ?_
 refine ak.rangeT underlying9 rfl ?_
 intro i9
 refine z6 ?_
 refine zk ?_
 refine yd (γ:=Nat × Nat) [9] (fun g=>[(3,.own g.2 g.1)]) (fun g=>[(i9,.iter (bm op).2.1 g.1),(g.2,.grow 1 71 (((bg op).take g.1).map bS).flatten)]) (fun g=>g.1≤(bg op).length) (fun g=>(bg op).length - g.1) (0,i3) ⟨rfl,trivial⟩ ⟨_,(.refl _),rfl⟩ (Nat.zero_le _) ?_
 rintro ⟨p,i⟩ hp
 try dsimp only at *
 try simp only at hp
 by_cases hlt:p<(bg op).length
 ·have hb:p<(bm op).2.1.data.toList.length:=by rw[hl] at hlt;exact hlt
  have hg:(bm op).2.1.data[p]?=some (bm op).2.1.data.toList[p]:=by rw[Array.getElem_toList];exact Array.getElem?_eq_getElem hb
  refine zb ?_
  refine y7 rfl ?_
  refine ak.nextA rfl hg (hasc _ (List.getElem_mem hb)) .head ?_
  refine z8 (Gv.extract (v:=.bool _) rfl rfl) ?_
  refine z6 ?_
  refine zb ?_
  refine yq rfl rfl ?_
  have ht:(bg op).take (p+1)=(bg op).take p++[cH ((bm op).2.1.data.toList[p]).toNat]:=by
   rw[List.take_succ_eq_append_getElem hlt]
   have:(bg op)[p]=cH ((bm op).2.1.data.toList[p]).toNat:=List.getElem_map _
   rw[this]
  refine zg ?_
  refine zk ?_
  refine zb ?_
  refine y7 rfl ?_
  refine z8 (Gv.extract (v:=.int _ _) rfl rfl) ?_
  refine z8 (yb (v:=.int _ _) rfl) ?_
  refine z6 ?_
  refine y7 rfl ?_
  refine z8 (yh (v:=.own _ _) rfl) ?_
  refine z8 (yh (v:=.int _ _) rfl) ?_
  refine ak.callP (kK _) rfl ?_
  refine ak.buildSliceFF (rows:=[[_]]) yP rfl rfl rfl rfl rfl ?_
  refine ak.appendS (k:=1) underlying119 type71 rfl rfl rfl rfl rfl (fun _=>(.tail .head)) (by rw[dC (k:=1) (fun _=>rfl),List.length_take,Nat.min_eq_left hp]) (by decide) rfl (by show (_+_)*8≤_;simp<;>omega) (by simp<;>omega) ?_
  intro i17
  refine z8 (yb (v:=.own _ _) rfl) ?_
  refine z6 ?_
  exact ⟨(p+1,i17),⟨rfl,trivial⟩,⟨rfl,trivial⟩,⟨_,(.refl _),by rw[←ei ht];rfl⟩,hlt,by simp only;omega⟩
 ·refine zb ?_
  refine y7 rfl ?_
  refine ak.nextTover rfl .head (by rw[←hl];exact hlt) ?_
  refine z8 (Gv.extract (v:=.bool _) rfl rfl) ?_
  refine z6 ?_
  refine zb ?_
  refine yv rfl rfl ?_
  have hkn:p=(bg op).length:=by omega
  subst hkn
  rw[List.take_length]
  refine yc ?_
  refine zb ?_
  refine y7 rfl ?_
  refine z8 (yh (v:=.own _ _) rfl) ?_
  refine z8 (yb (v:=.own _ _) rfl) ?_
  refine z6 ?_
  refine ze ?_
  repeat (first|refine aX ?_|refine aR ?_)
  refine aZ.fin (aZ.know (t:=2) (rows:=(bg op).map bS) rfl (.tail .head) (by first|(intro r hr;obtain ⟨x,_,rfl⟩:=List.mem_map.1 hr;rfl)|simp[bS,bU,bD,bf,bc]) (by decide) (by simp)) ?_
  refine bM.t1 (x:=.fro _ _) rfl ?_
  rfl
theorem kO (op:Int):aV prog E 64 [.int .i64 op] (.tup [.int .i64 (gG op),.bool (cQ op)]):=by
 obtain ⟨_,hasc⟩:=kM op
 refine bC.intro func64 rfl (by decide) rfl ?_
 refine zb ?_
 refine y7 rfl ?_
 refine z8 (yb (v:=.int _ _) rfl) ?_
 refine z8 (yb (v:=.bool _) rfl) ?_
 refine z6 ?_
 refine zb ?_
 refine zb ?_
 refine y7 rfl ?_
 refine z8 (yh (v:=.int _ _) rfl) ?_
 refine ak.callP (j4 _) rfl ?_
 refine z8 (Gv.field1 (v:=.str _) underlying155 rfl isAgg9 rfl rfl) ?_
 refine ak.rangeT underlying9 rfl ?_
 intro i9
 refine z6 ?_
 refine zk ?_
 refine yd (γ:=Unit) [9] (fun g=>[]) (fun g=>[(i9,.iter (bm op).2.2 0)]) (fun g=>True) (fun g=>0) () trivial ⟨_,(.refl _),rfl⟩ (trivial) ?_
 rintro _ _
 by_cases hlt:∃c0 tl,(bm op).2.2.data.toList=c0::tl
 ·obtain ⟨c0,tl,hk⟩:=hlt
  have hg:(bm op).2.2.data[0]?=some c0:=by rw[←Array.getElem?_toList,hk];rfl
  refine zb ?_
  refine y7 rfl ?_
  refine ak.nextA rfl hg (hasc _ (by rw[hk];exact .head _)) .head ?_
  refine z8 (Gv.extract (v:=.bool _) rfl rfl) ?_
  refine z6 ?_
  refine zb ?_
  refine yq rfl rfl ?_
  refine zg ?_
  refine zk ?_
  refine zb ?_
  refine y7 rfl ?_
  refine z8 (Gv.extract (v:=.int _ _) rfl rfl) ?_
  refine z8 (yb (v:=.int _ _) rfl) ?_
  refine z6 ?_
  refine zb ?_
  refine y7 rfl ?_
  refine z8 (yh (v:=.int _ _) rfl) ?_
  refine ak.callP (kK _) rfl ?_
  refine z8 (yb (v:=.int _ _) rfl) ?_
  refine z8 (yb (v:=.bool _) rfl) ?_
  refine z6 ?_
  refine ze ?_
  repeat (first|refine aX ?_|refine aR ?_)
  refine bM.t2 (x:=.int _ _) (y:=.bool _) rfl rfl ?_
  unfold gG cQ;rw[hk];rfl
 ·have hk:(bm op).2.2.data.toList=[]:=by
   cases h:(bm op).2.2.data.toList with
   |nil=>rfl
   |cons x l=>exact absurd ⟨x,l,h⟩ hlt
  refine zb ?_
  refine y7 rfl ?_
  refine ak.nextTover rfl .head (by show ¬0<(bm op).2.2.data.size;rw[←Array.length_toList,hk];decide) ?_
  refine z8 (Gv.extract (v:=.bool _) rfl rfl) ?_
  refine z6 ?_
  refine zb ?_
  refine yv rfl rfl ?_
  refine yc ?_
  refine zb ?_
  refine y7 rfl ?_
  refine z8 (yb (v:=.int _ _) rfl) ?_
  refine z8 (yb (v:=.bool _) rfl) ?_
  refine z6 ?_
  refine ze ?_
  repeat (first|refine aX ?_|refine aR ?_)
  refine bM.t2 (x:=.int _ _) (y:=.bool _) rfl rfl ?_
  unfold gG cQ;rw[hk];rfl
def bn (f:ai) (v:Int):Bool:=decide (0≤v)&&decide (v<f.vars.length)
def dk (f:ai) (b:Int):Bool:=decide (0≤b)&&decide (b<f.blocks.length)
theorem fZ (f:ai) (v:Int):aV prog E 72 [.agg (bW f),.int .i64 v] (.bool (bn f v)):=by
 refine bC.intro func72 rfl (by decide) rfl ?_
 refine zb ?_
 refine y7 rfl ?_
 refine ak.boxF (cs:=_) rfl rfl rfl ?_
 refine z8 (yb (v:=.bool _) rfl) ?_
 refine z6 ?_
 refine zb ?_
 refine y7 rfl ?_
 refine z8 (yh (v:=.int _ _) rfl) ?_
 refine z8 (qg rfl rfl) ?_
 refine z8 (yh (v:=.bool _) rfl) ?_
 refine zm (s:=7) rfl (fun c1=>?_) (fun c1=>?_)
 ·refine z7 rfl rfl c1 ?_
  refine z8 (yh (v:=.int _ _) rfl) ?_
  refine z7 rfl rfl c1 ?_
  refine z8 (Gv.fieldF underlying26 rfl sizeOf22 (by decide) rfl rfl) ?_
  refine z7 rfl rfl c1 ?_
  refine z8 (qi (c:=.fro _ _) isAgg22 rfl) ?_
  refine z7 rfl rfl c1 ?_
  refine z8 (Gv.lenM underlying22 rfl) ?_
  refine z7 rfl rfl c1 ?_
  refine z8 (Gv.lss rfl rfl) ?_
  refine z8 (Gv.pickT (v:=.bool _) rfl c1 rfl) ?_
  refine z8 (yb (v:=.bool _) rfl) ?_
  refine z6 ?_
  refine ze ?_
  repeat (first|refine aX ?_|refine aR ?_)
  refine bM.t1 (x:=.bool _) rfl ?_
  simp_all[bn]<;>omega
 ·refine z2 rfl rfl c1 ?_
  refine z2 rfl rfl c1 ?_
  refine z2 rfl rfl c1 ?_
  refine z2 rfl rfl c1 ?_
  refine z2 rfl rfl c1 ?_
  refine z8 (Gv.pickF (v:=.bool _) rfl c1 rfl) ?_
  refine z8 (yb (v:=.bool _) rfl) ?_
  refine z6 ?_
  refine ze ?_
  repeat (first|refine aX ?_|refine aR ?_)
  refine bM.t1 (x:=.bool _) rfl ?_
  simp_all[bn]<;>omega
theorem j5 (f:ai) (v:Int):aV prog E 75 [.agg (bW f),.int .i64 v] (.bool (dk f v)):=by
 refine bC.intro func75 rfl (by decide) rfl ?_
 refine zb ?_
 refine y7 rfl ?_
 refine ak.boxF (cs:=_) rfl rfl rfl ?_
 refine z8 (yb (v:=.bool _) rfl) ?_
 refine z6 ?_
 refine zb ?_
 refine y7 rfl ?_
 refine z8 (yh (v:=.int _ _) rfl) ?_
 refine z8 (qg rfl rfl) ?_
 refine z8 (yh (v:=.bool _) rfl) ?_
 refine zm (s:=7) rfl (fun c2=>?_) (fun c2=>?_)
 ·refine z7 rfl rfl c2 ?_
  refine z8 (yh (v:=.int _ _) rfl) ?_
  refine z7 rfl rfl c2 ?_
  refine z8 (Gv.fieldF underlying26 rfl sizeOf24 (by decide) rfl rfl) ?_
  refine z7 rfl rfl c2 ?_
  refine z8 (qi (c:=.fro _ _) isAgg24 rfl) ?_
  refine z7 rfl rfl c2 ?_
  refine z8 (Gv.lenM underlying24 rfl) ?_
  refine z7 rfl rfl c2 ?_
  refine z8 (Gv.lss rfl rfl) ?_
  refine z8 (Gv.pickT (v:=.bool _) rfl c2 rfl) ?_
  refine z8 (yb (v:=.bool _) rfl) ?_
  refine z6 ?_
  refine ze ?_
  repeat (first|refine aX ?_|refine aR ?_)
  refine bM.t1 (x:=.bool _) rfl ?_
  simp_all[dk]<;>omega
 ·refine z2 rfl rfl c2 ?_
  refine z2 rfl rfl c2 ?_
  refine z2 rfl rfl c2 ?_
  refine z2 rfl rfl c2 ?_
  refine z2 rfl rfl c2 ?_
  refine z8 (Gv.pickF (v:=.bool _) rfl c2 rfl) ?_
  refine z8 (yb (v:=.bool _) rfl) ?_
  refine z6 ?_
  refine ze ?_
  repeat (first|refine aX ?_|refine aR ?_)
  refine bM.t1 (x:=.bool _) rfl ?_
  simp_all[dk]<;>omega
def cR {α:Type} (p:α→Bool):List α→Nat→Int
 |[],_=>-1
 |x::xs,k=>if p x then k else cR p xs (k+1)
theorem fa {α:Type} (p:α→Bool):∀(xs:List α) (k:Nat),decide (0≤cR p xs k)=xs.any p
 |[],k=>rfl
 |x::xs,k=>by
  unfold cR
  rw[List.any_cons]
  split
  ·rename_i h;rw[h];simp
  ·rename_i h;simp[h,fa p xs (k+1)]
theorem bZ {α:Type} (p:α→Bool):∀(xs:List α) (k:Nat),k≤xs.length→(xs.take k).all (fun x=>!p x)=true→cR p xs 0=cR p (xs.drop k) k
 |_,0,_,_=>rfl
 |xs,k+1,h,hall=>by
  rw[List.take_succ_eq_append_getElem (by omega),List.all_append] at hall
  simp only[Bool.and_eq_true,List.all_cons,List.all_nil,Bool.and_true] at hall
  rw[bZ p xs k (by omega) hall.1,List.drop_eq_getElem_cons (by omega)]
  rw[cR]
  rw[if_neg (by simpa using hall.2)]
theorem jG {p:Int→Bool} {fn:FuncId} {c:List AV} (xs:List Int) (hl:xs.length≤281474976710656) (hp:∀x,aV prog E fn ([.int .i64 x]++c) (.bool (p x))) :
  aV prog E 79 [.fro 1 (xs.map bS),.fn fn [] c] (.int .i64 (cR p xs 0)):=by
 refine bC.intro func79 rfl (by decide) rfl ?_
 refine zb ?_
 refine y7 rfl ?_
 refine z8 (yb (v:=.int _ _) rfl) ?_
 refine z6 ?_
 refine zb ?_
 refine zb ?_
 refine y7 rfl ?_
 refine z8 (yh (v:=.fro _ _) rfl) ?_
 refine z8 (Gv.lenM underlying23 rfl) ?_
 refine z8 (yh (v:=.int _ _) rfl) ?_
 refine z6 ?_
 refine zk ?_
 refine yd (γ:=Nat) [0,1,7] (fun k=>[(8,.int .i64 k)]) (fun k=>[]) (fun k=>k≤xs.length∧(xs.take k).all (fun x=>!p x)) (fun k=>xs.length - k) 0 ⟨rfl,trivial⟩ ⟨_,(.refl _),rfl⟩ (⟨Nat.zero_le _,rfl⟩) ?_
 rintro k ⟨hk,hall⟩
 refine zb ?_
 refine y7 rfl ?_
 refine z8 (Gv.lss rfl rfl) ?_
 refine z6 ?_
 refine zb ?_
 refine zp rfl (fun ck=>?_) (fun ck=>?_)
 ·have hk2:k<xs.length:=by omega
  refine zg ?_
  refine zb ?_
  refine zk ?_
  refine zb ?_
  refine y7 rfl ?_
  refine z8 (yh (v:=.int _ _) rfl) ?_
  refine z8 (yb (v:=.int _ _) rfl) ?_
  refine z6 ?_
  refine zb ?_
  refine y7 rfl ?_
  refine z8 (yh (v:=.fn _ _ _) rfl) ?_
  refine z8 (yh (v:=.fro _ _) rfl) ?_
  refine z8 (yh (v:=.int _ _) rfl) ?_
  refine z8 (q8 underlying23 sizeOf3 rfl rfl rfl (List.getElem?_eq_getElem (by omega))) ?_
  refine z8 (qi (c:=.int _ _) isAgg3 rfl) ?_
  refine ak.callVP rfl (hp _) rfl ?_
  refine z6 ?_
  refine zw rfl (fun cp=>?_) (fun cp=>?_)
  ·refine zb ?_
   refine y7 rfl ?_
   refine z8 (yh (v:=.int _ _) rfl) ?_
   refine z8 (yb (v:=.int _ _) rfl) ?_
   refine z6 ?_
   refine ze ?_
   repeat (first|refine aX ?_|refine aR ?_)
   refine bM.t1 (x:=.int _ _) rfl ?_
   rw[bZ p xs k hk hall,List.drop_eq_getElem_cons hk2,cR,if_pos cp]
  ·refine zg ?_
   refine y7 rfl ?_
   refine z8 (Gv.add rfl rfl (by unfold ft;omega)) ?_
   refine z8 (yh (v:=.int _ _) rfl) ?_
   refine z6 ?_
   exact ⟨k+1,⟨rfl,rfl,rfl,trivial⟩,⟨rfl,trivial⟩,⟨_,(.refl _),rfl⟩,⟨hk2,by rw[List.take_succ_eq_append_getElem hk2,List.all_append,hall];simp[cp]⟩,by omega⟩
 ·have hkn:k=xs.length:=by omega
  refine yc ?_
  refine zb ?_
  refine y7 rfl ?_
  refine z8 (yb (v:=.int _ _) rfl) ?_
  refine z6 ?_
  refine ze ?_
  repeat (first|refine aX ?_|refine aR ?_)
  refine bM.t1 (x:=.int _ _) rfl ?_
  rw[bZ p xs k hk hall,hkn,List.drop_length,cR]
theorem ep {p:Int→Bool} {fn:FuncId} {c:List AV} (xs:List Int) (hl:xs.length≤281474976710656) (hp:∀x,aV prog E fn ([.int .i64 x]++c) (.bool (p x))) :
  aV prog E 59 [.fro 1 (xs.map bS),.fn fn [] c] (.bool (xs.any p)):=by
 refine bC.intro func59 rfl (by decide) rfl ?_
 refine zb ?_
 refine y7 rfl ?_
 refine z8 (yb (v:=.bool _) rfl) ?_
 refine z6 ?_
 refine zb ?_
 refine y7 rfl ?_
 refine z8 (yh (v:=.fro _ _) rfl) ?_
 refine z8 (yh (v:=.fn _ _ _) rfl) ?_
 refine ak.callP (jG xs hl hp) rfl ?_
 refine z8 (qg rfl rfl) ?_
 refine z8 (yb (v:=.bool _) rfl) ?_
 refine z6 ?_
 refine ze ?_
 repeat (first|refine aX ?_|refine aR ?_)
 refine bM.t1 (x:=.bool _) rfl ?_
 rw[fa]
theorem o6 (f:ai) (v:Int):aV prog E 91 ([.int .i64 v]++[.pf (bW f)]) (.bool (!bn f v)):=by
 refine bC.intro func91 rfl (by decide) rfl ?_
 refine zb ?_
 refine y7 rfl ?_
 refine z8 (yb (v:=.bool _) rfl) ?_
 refine z6 ?_
 refine zb ?_
 refine y7 rfl ?_
 refine z8 (yu isAgg26 sizeOf26 rfl rfl) ?_
 refine z8 (yh (v:=.int _ _) rfl) ?_
 refine ak.callP (fZ _ _) rfl ?_
 refine z8 (Gv.not rfl) ?_
 refine z8 (yb (v:=.bool _) rfl) ?_
 refine z6 ?_
 refine ze ?_
 repeat (first|refine aX ?_|refine aR ?_)
 refine bM.t1 (x:=.bool _) rfl ?_
 rfl
theorem mu (f:ai) (l:List Int) (hl:l.length≤281474976710656):aV prog E 73 [.agg (bW f),.fro 1 (l.map bS)] (.bool (l.all (bn f))):=by
 refine bC.intro func73 rfl (by decide) rfl ?_
 refine zb ?_
 refine y7 rfl ?_
 refine ak.boxF (cs:=_) rfl rfl rfl ?_
 refine z8 (yb (v:=.bool _) rfl) ?_
 refine z6 ?_
 refine zb ?_
 refine y7 rfl ?_
 refine z8 (yh (v:=.fro _ _) rfl) ?_
 refine z8 (Gv.func rfl rfl) ?_
 refine ak.callP (ep l hl (o6 f)) rfl ?_
 refine z8 (Gv.not rfl) ?_
 refine z8 (yb (v:=.bool _) rfl) ?_
 refine z6 ?_
 refine ze ?_
 repeat (first|refine aX ?_|refine aR ?_)
 refine bM.t1 (x:=.bool _) rfl ?_
 rw[List.any_eq_not_all_not];simp
end
section
open Go.Proofs.Tryz
open Go.Proofs
variable {E:World}
set_option maxRecDepth 20000
def mv {α:Type} (l:List α):Prop:=l.length≤140737488355328
def qI (p:cV):Prop:=mv p.args∧mv p.from_
def Do (b:aI):Prop:=mv b.phis∧mv b.insts∧(∀p∈b.phis,qI p)∧(∀x∈b.insts,mv x.args)
def mX (f:ai):Prop:=mv f.vars∧mv f.params∧mv f.blocks∧∀b∈f.blocks,Do b
theorem mv.lt {α:Type} {l:List α} (h:mv l):l.length≤140737488355328:=h
theorem jb {x y:Bool} (h:x=y):AV.bool x=AV.bool y:=congrArg AV.bool h
theorem Ce (a b c d:Int) (w:World) (m:Nat):(Op.equalIn (m+2) 35 (.agg [.int .i64 a,.int .i64 b].toArray) (.agg [.int .i64 c,.int .i64 d].toArray)).run prog w=.ok (decide (a=c∧b=d)) w:=by
 rw[Op.equalIn]
 simp only[Sem.run_bind,run_underlying underlying35,Result.andThen_ok]
 simp only[Std.Legacy.Range.forIn_eq_forIn_range',Std.Legacy.Range.size,Nat.sub_zero,Nat.add_sub_cancel,Nat.div_one,List.range'_succ,List.range'_zero,List.forIn_cons,List.forIn_nil]
 simp[part,isAgg3,sizeOf3,run_equalIn_int,underlying3]
 by_cases h1:a=c<;>by_cases h2:b=d<;>simp[h1,h2]
section
variable {P:Program} {E:World} {l:List Oper} {W:Nat→Bool} {fuel:Nat} {listed:Array Bool} {d ty:Nat} {op:Op} {pos:String} {af:Array Edge} {Q:aH→OL→Prop} {env:aH} {Os Om:OL}
def mY (l:List Oper) (W:Nat→Bool) (listed:Array Bool) (i:Nat):Bool:=Region.noSelect l.toArray&&(Region.free .any l.toArray listed i&&((Region.ready .any l.toArray listed).contains i&&(em l i W&&(!W i&&dL W listed))))
theorem mY.of {i:Nat} (h:mY l W listed i=true):Region.noSelect l.toArray=true∧Region.free .any l.toArray listed i=true∧(Region.ready .any l.toArray listed).contains i=true∧em l i W=true∧W i=false∧dL W listed=true:=by
 simpa only[mY,Bool.and_eq_true,Bool.not_eq_true'] using h
theorem ad (i:Nat) {x:AV} (hi:l[i]?=some (Oper.mk (some d) op ty pos af none)) (hg:Gv P env Os (Oper.mk (some d) op ty pos af none) x)
  (h:bH P E l W Q fuel (listed.setIfInBounds i true) (bz env d x) Os Om) (hb:mY l W listed i=true:=by kernel_rfl):bH P E l W Q (fuel+1) listed env Os Om:=
 have ⟨a,b,c,e,g,k⟩:=mY.of hb
 bH.take hi a b c e g k hg h
theorem gW (i:Nat) {j s:Nat} {b t:Bool} {x:AV} (hi:l[i]?=some (Oper.mk (some d) op ty pos af (some (j,b)))) (hg0:(l[j]?).bind (fun o:Oper=>o.dst)=some s) (hv0:env s=.bool t) (ht:t=b) (hg:Gv P env Os (Oper.mk (some d) op ty pos af none) x)
  (h:bH P E l W Q fuel (listed.setIfInBounds i true) (bz env d x) Os Om) (hb:mY l W listed i=true:=by kernel_rfl):bH P E l W Q (fuel+1) listed env Os Om:=
 have ⟨a,b,c,e,g,k⟩:=mY.of hb
 bH.takeT hi hg0 hv0 ht a b c e g k hg h
theorem er (i:Nat) {j s:Nat} {b t:Bool} (hi:l[i]?=some (Oper.mk (some d) op ty pos af (some (j,b)))) (hg0:(l[j]?).bind (fun o:Oper=>o.dst)=some s) (hv0:env s=.bool t) (ht:t=!b)
  (h:bH P E l W Q fuel (listed.setIfInBounds i true) (bz env d (.raw undef)) Os Om) (hb:mY l W listed i=true:=by kernel_rfl):bH P E l W Q (fuel+1) listed env Os Om:=
 have ⟨a,b,c,e,g,k⟩:=mY.of hb
 bH.takeF hi hg0 hv0 ht a b c e g k h
theorem bl (i:Nat) {o:Oper} (hi:l[i]?=some o) (h:ak P E l.toArray (fun env' Om'=>bH P E l W Q fuel (listed.setIfInBounds i true) env' Os Om') [o] env Om) (hr:Region.ready .any l.toArray listed=[i]:=by kernel_rfl):bH P E l W Q (fuel+1) listed env Os Om:=bH.one hi hr h
theorem dU (h:Q env (Os++Om)) (hr:Region.ready .any l.toArray listed=[]:=by kernel_rfl):bH P E l W Q fuel listed env Os Om:=bH.done hr h
variable {x y z:Operand} {t:TypeId} {O:OL}
theorem cG {k:IntKind} {a:Int} (hx:aU env x=.int k a):Gv P env O (Oper.mk (some d) (.move x) ty pos af none) (.int k a):=yh hx
theorem yQ {a:Bool} (hx:aU env x=.bool a):Gv P env O (Oper.mk (some d) (.move x) ty pos af none) (.bool a):=yh hx
theorem eR {k:Nat} {a:List (List AV)} (hx:aU env x=.fro k a):Gv P env O (Oper.mk (some d) (.move x) ty pos af none) (.fro k a):=yh hx
theorem yR {k:IntKind} {a:Int} (hx:aU env x=.int k a):Gv P env O (Oper.mk (some d) (.assign x) ty pos af none) (.int k a):=yb hx
theorem uQ {a:Bool} (hx:aU env x=.bool a):Gv P env O (Oper.mk (some d) (.assign x) ty pos af none) (.bool a):=yb hx
theorem BS {k:Nat} {a:List (List AV)} (hx:aU env x=.fro k a):Gv P env O (Oper.mk (some d) (.assign x) ty pos af none) (.fro k a):=yb hx
theorem d8 {k:IntKind} {a:Int} {cs:List AV} (ha:∀w,(isAgg t).run P w=.ok false w) (hx:aU env x=.pf (.int k a::cs)):Gv P env O (Oper.mk (some d) (.load t x) ty pos af none) (.int k a):=qi ha hx
theorem jH {k:Nat} {a:List (List AV)} {cs:List AV} (ha:∀w,(isAgg t).run P w=.ok false w) (hx:aU env x=.pf (.fro k a::cs)):Gv P env O (Oper.mk (some d) (.load t x) ty pos af none) (.fro k a):=qi ha hx
theorem yS {b v:Bool} (hc:aU env x=.bool b) (hb:b=true) (hy:aU env y=.bool v):Gv P env O (Oper.mk (some d) (.pick x y z) ty pos af none) (.bool v):=Gv.pickT hc hb hy
theorem yT {b v:Bool} (hc:aU env x=.bool b) (hb:b=false) (hy:aU env z=.bool v):Gv P env O (Oper.mk (some d) (.pick x y z) ty pos af none) (.bool v):=Gv.pickF hc hb hy
theorem wd {i m:Nat} (hx:aU env x=.own i m):Gv P env O (Oper.mk (some d) (.move x) ty pos af none) (.own i m):=yh hx
theorem dh {i m:Nat} (hx:aU env x=.po i m):Gv P env O (Oper.mk (some d) (.move x) ty pos af none) (.po i m):=yh hx
theorem EZ {cs:List AV} (hx:aU env x=.pf cs):Gv P env O (Oper.mk (some d) (.move x) ty pos af none) (.pf cs):=yh hx
theorem Eo {cs:List AV} (hx:aU env x=.tup cs):Gv P env O (Oper.mk (some d) (.move x) ty pos af none) (.tup cs):=yh hx
theorem d6 {i m:Nat} (hx:aU env x=.own i m):Gv P env O (Oper.mk (some d) (.assign x) ty pos af none) (.own i m):=yb hx
theorem yJ {i m:Nat} (hx:aU env x=.po i m):Gv P env O (Oper.mk (some d) (.assign x) ty pos af none) (.po i m):=yb hx
theorem uR {a:Value} (hx:aU env x=.raw a):Gv P env O (Oper.mk (some d) (.assign x) ty pos af none) (.raw a):=yb hx
theorem BT {vs:List AV} {i:Nat} {k:IntKind} {a:Int} (hx:aU env x=.tup vs) (hv:vs[i]?=some (.int k a)):Gv P env O (Oper.mk (some d) (.extract x i) ty pos af none) (.int k a):=Gv.extract hx hv
theorem BU {vs:List AV} {i:Nat} {a:Bool} (hx:aU env x=.tup vs) (hv:vs[i]?=some (.bool a)):Gv P env O (Oper.mk (some d) (.extract x i) ty pos af none) (.bool a):=Gv.extract hx hv
theorem dV {fs:Array Field} {f:Field} {i sz:Nat} {cs cs':List AV} (ht:P.underlying t=some (.struct fs)) (hf:fs[i]?=some f) (hs:∀w,(sizeOf f.type).run P w=.ok sz w)
  (hx:aU env x=.pf cs) (hr:cs.drop f.offset=cs') (hz:sz≠0:=by decide):Gv P env O (Oper.mk (some d) (.fieldAddr t x i) ty pos af none) (.pf cs'):=Gv.fieldF ht hf hs hz hx hr
theorem o7 {u:TypeId} {a b:Int} (hx:aU env x=.int .i64 a) (hy:aU env y=.int .i64 b) (hr:ft (a+b):=by unfold ft;omega):Gv P env O (Oper.mk (some d) (.binOp .add t x y u) ty pos af none) (.int .i64 (a+b)):=Gv.add hx hy hr
theorem ao {n id:Nat} {y:Code} {R:Exit→aH→OL→Prop} (h:ak P E l.toArray (kH (b9 P E n y R) R .normal) l env O) (hd:dK n l=true:=by exact rfl):b9 P E n (.seq (.region id l.toArray false) y) R env O:=zb (y7 hd h)
theorem bj {n id:Nat} {R:Exit→aH→OL→Prop} (h:ak P E l.toArray (R .normal) l env O) (hd:dK n l=true:=by exact rfl):b9 P E n (.region id l.toArray false) R env O:=y7 hd h
theorem dj {α:Type} {enc:α→List AV} {xs:List α} {k:Nat} {e:TypeId} (j:Nat) {i:Int} {v:α} (ht:P.underlying t=some (.slice e)) (hs:∀w,(sizeOf e).run P w=.ok k w) (hx:aU env x=.fro k (xs.map enc)) (hy:aU env y=.int .i64 i) (hi:i=(j:Int)) (hj:xs[j]?=some v) :
  Gv P env O (Oper.mk (some d) (.indexAddr t x y) ty pos af none) (.pf (enc v)):=q8 ht hs hx hy hi hj
theorem aS {O:OL}:Left O O:=⟨_,.refl _,rfl⟩
theorem cU.t1 {x0:Nat × aW} {O:OL} {i:Nat} {o:aW}:cU (x0::(i,o)::O) i o (x0::O):=.tail .head
theorem eh.t1 {x0:Nat × aW} {O:OL} {i:Nat} {o o':aW}:eh (x0::(i,o)::O) i o o' (x0::(i,o')::O):=.tail .head
theorem jY.t1 {x0:Nat × aW} {O:OL} {i j:Nat} {o o':aW}:jY (x0::(i,o)::O) i o j o' (x0::(j,o')::O):=.tail .head
theorem cU.t2 {x0 x1:Nat × aW} {O:OL} {i:Nat} {o:aW}:cU (x0::x1::(i,o)::O) i o (x0::x1::O):=.tail .t1
theorem eh.t2 {x0 x1:Nat × aW} {O:OL} {i:Nat} {o o':aW}:eh (x0::x1::(i,o)::O) i o o' (x0::x1::(i,o')::O):=.tail .t1
theorem jY.t2 {x0 x1:Nat × aW} {O:OL} {i j:Nat} {o o':aW}:jY (x0::x1::(i,o)::O) i o j o' (x0::x1::(j,o')::O):=.tail .t1
theorem cU.t3 {x0 x1 x2:Nat × aW} {O:OL} {i:Nat} {o:aW}:cU (x0::x1::x2::(i,o)::O) i o (x0::x1::x2::O):=.tail .t2
theorem eh.t3 {x0 x1 x2:Nat × aW} {O:OL} {i:Nat} {o o':aW}:eh (x0::x1::x2::(i,o)::O) i o o' (x0::x1::x2::(i,o')::O):=.tail .t2
theorem jY.t3 {x0 x1 x2:Nat × aW} {O:OL} {i j:Nat} {o o':aW}:jY (x0::x1::x2::(i,o)::O) i o j o' (x0::x1::x2::(j,o')::O):=.tail .t2
theorem cU.t4 {x0 x1 x2 x3:Nat × aW} {O:OL} {i:Nat} {o:aW}:cU (x0::x1::x2::x3::(i,o)::O) i o (x0::x1::x2::x3::O):=.tail .t3
theorem eh.t4 {x0 x1 x2 x3:Nat × aW} {O:OL} {i:Nat} {o o':aW}:eh (x0::x1::x2::x3::(i,o)::O) i o o' (x0::x1::x2::x3::(i,o')::O):=.tail .t3
theorem jY.t4 {x0 x1 x2 x3:Nat × aW} {O:OL} {i j:Nat} {o o':aW}:jY (x0::x1::x2::x3::(i,o)::O) i o j o' (x0::x1::x2::x3::(j,o')::O):=.tail .t3
theorem cU.t5 {x0 x1 x2 x3 x4:Nat × aW} {O:OL} {i:Nat} {o:aW}:cU (x0::x1::x2::x3::x4::(i,o)::O) i o (x0::x1::x2::x3::x4::O):=.tail .t4
theorem eh.t5 {x0 x1 x2 x3 x4:Nat × aW} {O:OL} {i:Nat} {o o':aW}:eh (x0::x1::x2::x3::x4::(i,o)::O) i o o' (x0::x1::x2::x3::x4::(i,o')::O):=.tail .t4
theorem jY.t5 {x0 x1 x2 x3 x4:Nat × aW} {O:OL} {i j:Nat} {o o':aW}:jY (x0::x1::x2::x3::x4::(i,o)::O) i o j o' (x0::x1::x2::x3::x4::(j,o')::O):=.tail .t4
theorem cU.t6 {x0 x1 x2 x3 x4 x5:Nat × aW} {O:OL} {i:Nat} {o:aW}:cU (x0::x1::x2::x3::x4::x5::(i,o)::O) i o (x0::x1::x2::x3::x4::x5::O):=.tail .t5
theorem eh.t6 {x0 x1 x2 x3 x4 x5:Nat × aW} {O:OL} {i:Nat} {o o':aW}:eh (x0::x1::x2::x3::x4::x5::(i,o)::O) i o o' (x0::x1::x2::x3::x4::x5::(i,o')::O):=.tail .t5
theorem jY.t6 {x0 x1 x2 x3 x4 x5:Nat × aW} {O:OL} {i j:Nat} {o o':aW}:jY (x0::x1::x2::x3::x4::x5::(i,o)::O) i o j o' (x0::x1::x2::x3::x4::x5::(j,o')::O):=.tail .t5
theorem cU.t7 {x0 x1 x2 x3 x4 x5 x6:Nat × aW} {O:OL} {i:Nat} {o:aW}:cU (x0::x1::x2::x3::x4::x5::x6::(i,o)::O) i o (x0::x1::x2::x3::x4::x5::x6::O):=.tail .t6
theorem eh.t7 {x0 x1 x2 x3 x4 x5 x6:Nat × aW} {O:OL} {i:Nat} {o o':aW}:eh (x0::x1::x2::x3::x4::x5::x6::(i,o)::O) i o o' (x0::x1::x2::x3::x4::x5::x6::(i,o')::O):=.tail .t6
theorem jY.t7 {x0 x1 x2 x3 x4 x5 x6:Nat × aW} {O:OL} {i j:Nat} {o o':aW}:jY (x0::x1::x2::x3::x4::x5::x6::(i,o)::O) i o j o' (x0::x1::x2::x3::x4::x5::x6::(j,o')::O):=.tail .t6
theorem cU.t8 {x0 x1 x2 x3 x4 x5 x6 x7:Nat × aW} {O:OL} {i:Nat} {o:aW}:cU (x0::x1::x2::x3::x4::x5::x6::x7::(i,o)::O) i o (x0::x1::x2::x3::x4::x5::x6::x7::O):=.tail .t7
theorem eh.t8 {x0 x1 x2 x3 x4 x5 x6 x7:Nat × aW} {O:OL} {i:Nat} {o o':aW}:eh (x0::x1::x2::x3::x4::x5::x6::x7::(i,o)::O) i o o' (x0::x1::x2::x3::x4::x5::x6::x7::(i,o')::O):=.tail .t7
theorem jY.t8 {x0 x1 x2 x3 x4 x5 x6 x7:Nat × aW} {O:OL} {i j:Nat} {o o':aW}:jY (x0::x1::x2::x3::x4::x5::x6::x7::(i,o)::O) i o j o' (x0::x1::x2::x3::x4::x5::x6::x7::(j,o')::O):=.tail .t7
theorem aY {α0:Sort _} {a0:α0}:a0=a0∧True:=⟨rfl,trivial⟩
theorem dX {α0:Sort _} {a0:α0} {α1:Sort _} {a1:α1}:a0=a0∧a1=a1∧True:=⟨rfl,rfl,trivial⟩
theorem gB {α0:Sort _} {a0:α0} {α1:Sort _} {a1:α1} {α2:Sort _} {a2:α2}:a0=a0∧a1=a1∧a2=a2∧True:=⟨rfl,rfl,rfl,trivial⟩
theorem f0 {α0:Sort _} {a0:α0} {α1:Sort _} {a1:α1} {α2:Sort _} {a2:α2} {α3:Sort _} {a3:α3}:a0=a0∧a1=a1∧a2=a2∧a3=a3∧True:=⟨rfl,rfl,rfl,rfl,trivial⟩
theorem qJ {α0:Sort _} {a0:α0} {α1:Sort _} {a1:α1} {α2:Sort _} {a2:α2} {α3:Sort _} {a3:α3} {α4:Sort _} {a4:α4}:a0=a0∧a1=a1∧a2=a2∧a3=a3∧a4=a4∧True:=⟨rfl,rfl,rfl,rfl,rfl,trivial⟩
theorem oY {α0:Sort _} {a0:α0} {α1:Sort _} {a1:α1} {α2:Sort _} {a2:α2} {α3:Sort _} {a3:α3} {α4:Sort _} {a4:α4} {α5:Sort _} {a5:α5}:a0=a0∧a1=a1∧a2=a2∧a3=a3∧a4=a4∧a5=a5∧True:=⟨rfl,rfl,rfl,rfl,rfl,rfl,trivial⟩
theorem jI {α0:Sort _} {a0:α0} {α1:Sort _} {a1:α1} {α2:Sort _} {a2:α2} {α3:Sort _} {a3:α3} {α4:Sort _} {a4:α4} {α5:Sort _} {a5:α5} {α6:Sort _} {a6:α6}:a0=a0∧a1=a1∧a2=a2∧a3=a3∧a4=a4∧a5=a5∧a6=a6∧True:=⟨rfl,rfl,rfl,rfl,rfl,rfl,rfl,trivial⟩
theorem oZ {α0:Sort _} {a0:α0} {α1:Sort _} {a1:α1} {α2:Sort _} {a2:α2} {α3:Sort _} {a3:α3} {α4:Sort _} {a4:α4} {α5:Sort _} {a5:α5} {α6:Sort _} {a6:α6} {α7:Sort _} {a7:α7}:a0=a0∧a1=a1∧a2=a2∧a3=a3∧a4=a4∧a5=a5∧a6=a6∧a7=a7∧True:=⟨rfl,rfl,rfl,rfl,rfl,rfl,rfl,rfl,trivial⟩
theorem jJ {α0:Sort _} {a0:α0} {α1:Sort _} {a1:α1} {α2:Sort _} {a2:α2} {α3:Sort _} {a3:α3} {α4:Sort _} {a4:α4} {α5:Sort _} {a5:α5} {α6:Sort _} {a6:α6} {α7:Sort _} {a7:α7} {α8:Sort _} {a8:α8} {α9:Sort _} {a9:α9} {α10:Sort _} {a10:α10}:a0=a0∧a1=a1∧a2=a2∧a3=a3∧a4=a4∧a5=a5∧a6=a6∧a7=a7∧a8=a8∧a9=a9∧a10=a10∧True:=⟨rfl,rfl,rfl,rfl,rfl,rfl,rfl,rfl,rfl,rfl,rfl,trivial⟩
theorem gz {α0:Sort _} {a0:α0} {α1:Sort _} {a1:α1} {α2:Sort _} {a2:α2} {α3:Sort _} {a3:α3} {α4:Sort _} {a4:α4} {α5:Sort _} {a5:α5} {α6:Sort _} {a6:α6} {α7:Sort _} {a7:α7} {α8:Sort _} {a8:α8} {α9:Sort _} {a9:α9} {α10:Sort _} {a10:α10} {α11:Sort _} {a11:α11}:a0=a0∧a1=a1∧a2=a2∧a3=a3∧a4=a4∧a5=a5∧a6=a6∧a7=a7∧a8=a8∧a9=a9∧a10=a10∧a11=a11∧True:=⟨rfl,rfl,rfl,rfl,rfl,rfl,rfl,rfl,rfl,rfl,rfl,rfl,trivial⟩
variable {ops:Array Oper} {K:aH→OL→Prop} {rest:List Oper} {u e:TypeId}
theorem aa {k:IntKind} {a:Int} (hx:aU env x=.int k a) (kk:ak P E ops K rest (bz env d (.int k a)) O):ak P E ops K (Oper.mk (some d) (.move x) ty pos af none::rest) env O:=z8 (cG hx) kk
theorem ab {a:Bool} (hx:aU env x=.bool a) (kk:ak P E ops K rest (bz env d (.bool a)) O):ak P E ops K (Oper.mk (some d) (.assign x) ty pos af none::rest) env O:=z8 (uQ hx) kk
theorem ah {a:Bool} (hx:aU env x=.bool a) (kk:ak P E ops K rest (bz env d (.bool a)) O):ak P E ops K (Oper.mk (some d) (.move x) ty pos af none::rest) env O:=z8 (yQ hx) kk
theorem ap {b v:Bool} (hc:aU env x=.bool b) (hb:b=true) (hy:aU env y=.bool v) (kk:ak P E ops K rest (bz env d (.bool v)) O):ak P E ops K (Oper.mk (some d) (.pick x y z) ty pos af none::rest) env O:=z8 (yS hc hb hy) kk
theorem aq {b v:Bool} (hc:aU env x=.bool b) (hb:b=false) (hy:aU env z=.bool v) (kk:ak P E ops K rest (bz env d (.bool v)) O):ak P E ops K (Oper.mk (some d) (.pick x y z) ty pos af none::rest) env O:=z8 (yT hc hb hy) kk
theorem aw {fs:Array Field} {f:Field} {i sz:Nat} {cs cs':List AV} (ht:P.underlying t=some (.struct fs)) (hf:fs[i]?=some f) (hs:∀w,(sizeOf f.type).run P w=.ok sz w) (hx:aU env x=.pf cs) (hr:cs.drop f.offset=cs') (kk:ak P E ops K rest (bz env d (.pf cs')) O) (hz:sz≠0:=by decide):ak P E ops K (Oper.mk (some d) (.fieldAddr t x i) ty pos af none::rest) env O:=z8 (dV ht hf hs hx hr hz) kk
theorem ax {k:IntKind} {a:Int} (hx:aU env x=.int k a) (kk:ak P E ops K rest (bz env d (.int k a)) O):ak P E ops K (Oper.mk (some d) (.assign x) ty pos af none::rest) env O:=z8 (yR hx) kk
theorem aj {α:Type} {enc:α→List AV} {xs:List α} {k:Nat} (ht:P.underlying t=some (.slice e)) (hx:aU env x=.fro k (xs.map enc)) (kk:ak P E ops K rest (bz env d (.int .i64 xs.length)) O):ak P E ops K (Oper.mk (some d) (.call { callee:=.builtin .len,args:=#[x],argTypes:=#[t] }) ty pos af none::rest) env O:=z8 (Gv.lenM ht hx) kk
theorem aF {u:TypeId} {a b:Int} (hx:aU env x=.int .i64 a) (hy:aU env y=.int .i64 b) (kk:ak P E ops K rest (bz env d (.int .i64 (a+b))) O) (hr:ft (a+b):=by unfold ft;omega):ak P E ops K (Oper.mk (some d) (.binOp .add t x y u) ty pos af none::rest) env O:=z8 (o7 hx hy hr) kk
theorem ac {n:Nat} {cs:List AV} (ha:∀w,(isAgg t).run P w=.ok true w) (hs:∀w,(sizeOf t).run P w=.ok n w) (hx:aU env x=.pf cs) (hn:cs.length=n) (kk:ak P E ops K rest (bz env d (.agg cs)) O):ak P E ops K (Oper.mk (some d) (.load t x) ty pos af none::rest) env O:=z8 (yu ha hs hx hn) kk
theorem aN {k:IntKind} {a:Int} {cs:List AV} (ha:∀w,(isAgg t).run P w=.ok false w) (hx:aU env x=.pf (.int k a::cs)) (kk:ak P E ops K rest (bz env d (.int k a)) O):ak P E ops K (Oper.mk (some d) (.load t x) ty pos af none::rest) env O:=z8 (d8 ha hx) kk
theorem ay {k:IntKind} {a b:Int} (hx:aU env x=.int k a) (hy:aU env y=.int k b) (kk:ak P E ops K rest (bz env d (.bool (decide (a<b)))) O):ak P E ops K (Oper.mk (some d) (.binOp .lss t x y u) ty pos af none::rest) env O:=z8 (Gv.lss hx hy) kk
theorem aT {k:Nat} {a:List (List AV)} {cs:List AV} (ha:∀w,(isAgg t).run P w=.ok false w) (hx:aU env x=.pf (.fro k a::cs)) (kk:ak P E ops K rest (bz env d (.fro k a)) O):ak P E ops K (Oper.mk (some d) (.load t x) ty pos af none::rest) env O:=z8 (jH ha hx) kk
theorem aE {b:Bool} (hx:aU env x=.bool b) (kk:ak P E ops K rest (bz env d (.bool (!b))) O):ak P E ops K (Oper.mk (some d) (.unOp .not t x) ty pos af none::rest) env O:=z8 (Gv.not hx) kk
theorem az {k:IntKind} {a b:Int} (hx:aU env x=.int k a) (hy:aU env y=.int k b) (kk:ak P E ops K rest (bz env d (.bool (decide (a=b)))) O):ak P E ops K (Oper.mk (some d) (.binOp .eql t x y u) ty pos af none::rest) env O:=z8 (Gv.eqlI hx hy) kk
theorem bd {i m:Nat} (hx:aU env x=.po i m) (kk:ak P E ops K rest (bz env d (.po i m)) O):ak P E ops K (Oper.mk (some d) (.move x) ty pos af none::rest) env O:=z8 (dh hx) kk
end
set_option linter.defProp false
def j6:=@Tryz.underlying23
def j7:=@Tryz.sizeOf3
def j8:=@Tryz.underlying55
def j9:=@Tryz.underlying62
def jd:=@Tryz.underlying67
def je:=@Tryz.isAgg3
def jf:=@Tryz.underlying53
def jg:=@Tryz.underlying49
def jh:=@Tryz.underlying48
def ji:=@Tryz.underlying60
def jj:=@Tryz.underlying26
def jk:=@Tryz.underlying27
def jl:=@Tryz.sizeOf26
def jm:=@Tryz.underlying57
def jn:=@Tryz.sizeOf23
def jp:=@Tryz.underlying24
def jq:=@Tryz.isAgg26
def jr:=@Tryz.underlying77
def js:=@Tryz.isAgg23
def ju:=@Tryz.sizeOf62
def jv:=@Tryz.sizeOf67
def jw:=@Tryz.sizeOf57
def jx:=@Tryz.underlying35
def jy:=@Tryz.underlying56
def jz:=@Tryz.sizeOf53
def Z0:=@Tryz.sizeOf2
def Z1:=@Tryz.sizeOf48
def Z2:=@Tryz.underlying40
def Z3:=@Tryz.sizeOf49
def Z4:=@Tryz.sizeOf35
def Z5:=@Tryz.underlying22
def Z6:=@Tryz.sizeOf24
def Z7:=@Tryz.sizeOf65
def Z8:=@Tryz.sizeOf4
def Z9:=@Tryz.underlying126
def Za:=@Tryz.sizeOf77
def Zb:=@Tryz.isAgg57
def Zc:=@Tryz.isAgg49
def Zd:=@Tryz.underlying9
def Ze:=@Tryz.zeroValue62
def Zf:=@Tryz.underlying2
def Zg:=@Tryz.sizeOf9
def Zh:=@Tryz.isAgg65
def Zi:=@Tryz.underlying73
def Zj:=@Tryz.underlying97
def Zk:=@Tryz.isAgg24
def Zl:=@Tryz.sizeOf40
def Zm:=@Tryz.underlying42
def Zn:=@Tryz.isAgg9
def Zo:=@Tryz.type3
def Zp:=@Tryz.underlying145
def Zq:=@Tryz.sizeOf56
def Zr:=@Tryz.isAgg67
def Zs:=@Tryz.zeroValue67
def Zt:=@Tryz.sizeOf60
def Zu:=@Tryz.zeroValue26
def Zv:=@Tryz.type4
def Zw:=@Tryz.sizeOf97
def Zx:=@Tryz.sizeOf73
def Zy:=@Tryz.zeroValue77
def Zz:=@Tryz.isAgg2
def Y0:=@Tryz.isAgg62
def Y1:=@Tryz.isAgg40
def Y2:=@Tryz.type2
def Y3:=@Tryz.sizeOf58
def Y4:=@Tryz.sizeOf22
def Y5:=@Tryz.sizeOf27
def Y6:=@Tryz.underlying33
def Y7:=@Tryz.underlying39
def Y8:=@Tryz.isAgg56
def Y9:=@Tryz.isAgg58
def Ya:=@Tryz.underlying98
def Yb:=@Tryz.isAgg22
def Yc:=@Tryz.isAgg27
def Yd:=@Tryz.underlying84
def Ye:=@Tryz.isAgg4
set_option linter.defProp false
def zh:=@ak.callP
def zi:=@bM.t1
def zj:=@aZ.perm
def zo:=@b9.regionDraw
def zq:=@oa.perm
def zr:=@bC.intro
def zt:=@aZ.ops
def zx:=@ak.storeW
def zy:=@aZ.wp
def zz:=@ak.alloc
def y8:=@ak.storeC
def y9:=@ak.buildSlice0
def ya:=@bH.writes
def ye:=@iS.done
def yf:=@ak.boxF
def yg:=@iS.one
def yi:=@Gv.idxAO
def yj:=@bH.takeK
def yk:=@ak.buildSliceFF
def yn:=@Gv.build
def yr:=@ak.callA
def yt:=@ak.appendS
def yw:=@bM.t0
def yz:=@Gv.idxAF
def q5:=@aZ.fin
def qk:=@aZ.drop
def qo:=@List.getElem?_eq_getElem
def qp:=@List.take_succ_eq_append_getElem
def qq:=@List.append_assoc
def qr:=@Nat.zero_le
def qs:=@List.getElem_mem
def qt:=@List.take_length
def qu:=@List.length_append
def qv:=@List.mem_of_getElem?
def qw:=@List.length_take
def qx:=@decide_eq_true
def qy:=@decide_eq_false
def qz:=@Bool.and_eq_true
def w0:=@Int.toNat_of_nonneg
theorem Z {α:Sort _} {a:α}:a=a:=rfl
end
end Go.Proofs.YtbconpmnckokoaaGreatDoor
