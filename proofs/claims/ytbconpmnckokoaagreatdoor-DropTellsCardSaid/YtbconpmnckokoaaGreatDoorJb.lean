/- Programs as plain data, and as memory holds them. No conditions. -/
import Derived.Test.YtbconpmnckokoaaGreatDoorJa
import Derived.Test.YtbconpmnckokoaaGreatDoorChecked
set_option linter.unusedVariables false
set_option linter.unusedSimpArgs false
set_option linter.unusedSectionVars false
namespace Go.Proofs.YtbconpmnckokoaaGreatDoor
section
open Go.Proofs.Tryz
def lit:Value→AV
 |.bool b=>.bool b
 |.int k n=>.int k n
 |.string s=>.str s
 |v=>.raw v
theorem nr (I:G) (v:Value):bu I (lit v) v:=by cases v<;>exact rfl
theorem eJ (I:G):∀l:List Value,RepL I (l.map lit) l
 |[]=>rfl
 |v::l=>⟨v,l,rfl,nr I v,eJ I l⟩
def AV.cs:AV→List AV
 |.agg cs=>cs
 |x=>[x]
def AV.sto:AV→Bool
 |.any | .tup _=>false
 |.raw v=>v.oneCell'
 |_=>true
theorem AV.cs_rep {I:G} {x:AV} {v:Value} (h:bu I x v) (hs:x.sto=true):RepL I x.cs v.cells.toList:=by
 cases x
 case agg cs=>obtain ⟨vs,e,h2⟩:=h;subst e;simpa [AV.cs,Value.cells] using h2
 case any=>cases hs
 case tup=>cases hs
 all_goals
  have hc:v.cells=#[v]:=by
   have:=AV.cell_rep h (by first|rfl|exact hs)
   cases v<;>first|rfl|(simp[Value.oneCell'] at this)
  rw[hc]
  exact RepL.one h
theorem dV.name {I:G} {O:OL} {F:List (Nat × Obj)} {E w:World} (h:dV I O F E w):∃i,∀hd:Option Nat × Nat,∃J:G,J.k=I.k∧I.le J∧J.h i=some hd∧∃top,∀i,top≤i→J.h i=none:=by
 obtain ⟨⟨top,ht⟩,_⟩:=h
 refine ⟨top,fun hd=>⟨⟨I.k,fun j=>if j=top then some hd else I.h j⟩,rfl,⟨.refl _,fun i x hi=>?_⟩,by simp,top+1,fun i hi=>?_⟩⟩
 ·have:i≠top:=fun e=>by rw[e,ht top (Nat.le_refl _)] at hi;cases hi
  simp[this,hi]
 ·simp only
  rw[if_neg (by omega)];exact ht i (by omega)
theorem bk.perm {I:G} {O O':OL} (h:O.Perm O'):∀{L},bk I O L→∃L',bk I O' L'∧L.Perm L':=by
 induction h with
 |nil=>intro L h;exact ⟨L,h,.refl _⟩
 |cons x _ ih=>rintro L ⟨A,B,e,h1,h2⟩;obtain ⟨B',h3,h4⟩:=ih h2;exact ⟨A++B',⟨A,B',rfl,h1,h3⟩,e▸h4.append_left A⟩
 |swap x y l=>
  rintro L ⟨A,B,e,h1,C,D,e2,h2,h3⟩
  refine ⟨C++(A++D),⟨C,A++D,rfl,h2,A,D,rfl,h1,h3⟩,?_⟩
  subst e e2
  rw[←List.append_assoc,←List.append_assoc]
  exact List.perm_append_comm.append_right D
 |trans _ _ ih1 ih2=>intro L h;obtain ⟨L1,h1,h2⟩:=ih1 h;obtain ⟨L2,h3,h4⟩:=ih2 h1;exact ⟨L2,h3,h2.trans h4⟩
def bx (P:Program) (E:World) (f:FuncId) (args:List AV) (O:OL) (R:AV→OL→Prop):Prop:=
 ∀I F w vs,RepL I args vs→dV I O F E w→Fn P f vs.toArray w fun v w'=>∃J x O',I.le J∧bu J x v∧dV J O' F E w'∧R x O'
def aQ (P:Program) (E:World) (f:FuncId) (args:List AV) (r:AV):Prop:=bx P E f args [] fun x _=>x=r
theorem bx.mono {E:World} {P:Program} {f:FuncId} {args:List AV} {O:OL} {R R':AV→OL→Prop} (h:bx P E f args O R) (hr:∀x O,R x O→R' x O):bx P E f args O R':=fun I F w vs h1 h2=>
 (h I F w vs h1 h2).mono fun _ _ ⟨J,x,O',a,b,c,d⟩=>⟨J,x,O',a,b,c,hr _ _ d⟩
def zT (E:World) (rs:Array ResultVar) (env:aE) (O:OL) (P:Program) (x:AV):Prop:=
 ∀I F ρ w,cD I env ρ→dV I O F E w→∃v,hZ rs ρ P w=.ok v w∧bu I x v
def bC (P:Program) (E:World) (rs:Array ResultVar) (R:AV→OL→Prop):Exit→aE→OL→Prop:=fun e env O=>
 match e with
 |.normal | .ret=>∀I F ρ w,cD I env ρ→dV I O F E w→∃v,hZ rs ρ P w=.ok v w∧∃J x O',I.le J∧bu J x v∧dV J O' F E w∧R x O'
 |_=>False
def r8 (args:List AV):aE:=fun t=>(args[t]?).getD (.raw undef)
theorem q2 {I:G} {args:List AV} {vs:List Value} (h:RepL I args vs):cD I (r8 args) (mz vs.toArray):=fun t=>by
 unfold r8 mz
 cases ha:args[t]? with
 |none=>
  have:vs[t]?=none:=by
   rw[List.getElem?_eq_none_iff] at ha ⊢
   rw[h.length];exact ha
  simp[Array.getD_eq_getD_getElem?,this,bu]
 |some x=>
  obtain ⟨v,hv,hr⟩:=h.get ha
  simp[Array.getD_eq_getD_getElem?,hv,hr]
theorem bx.intro {E:World} {P:Program} {f:FuncId} {fn:Func} {c:Code} {args:List AV} {O:OL} {R:AV→OL→Prop} (hf:P.funcs[f]?=some fn) (hb:fn.body=some c)
  (hn:fn.name≠"runtime.NumGoroutine") (hs:Nat.ble args.length fn.ntmps=true) (h:bQ P E fn.ntmps c (bC P E fn.results R) (r8 args) O):bx P E f args O R:=fun I F w vs h1 h2=>
 Fn.intro hf hb hn (by rw[List.size_toArray,h1.length];exact hs) ((h I F _ w (q2 h1) h2).mono fun e ρ w ⟨J,env,O,a,b,c,d⟩=>by
  cases e<;>first|exact d.elim|(obtain ⟨v,h3,K,x,O',h4,h5,h6,h7⟩:=d J F ρ w b c;exact ⟨v,h3,K,x,O',a.trans h4,h5,h6,h7⟩))
section
variable {E:World} {P:Program} {env:aE} {O:OL} {R:AV→OL→Prop}
theorem bC.of {rs:Array ResultVar} {x:AV} (h:zT E rs env O P x) (hr:R x O):bC P E rs R .ret env O:=fun I F ρ w h1 h2=>by
 obtain ⟨v,h3,h4⟩:=h I F ρ w h1 h2
 exact ⟨v,h3,I,x,O,.refl _,h4,h2,hr⟩
theorem bC.t1 {t:Nat} {x:AV} (hv:env t=x) (h:R x O):bC P E #[.tmp t] R .ret env O:=bC.of (fun I F ρ w h1 _=>⟨_,by simp[hZ],hv▸h1 t⟩) h
theorem bC.t2 {t u:Nat} {x y:AV} (hv:env t=x) (hu:env u=y) (h:R (.tup [x,y]) O):bC P E #[.tmp t,.tmp u] R .ret env O:=
 bC.of (x:=.tup [x,y]) (fun I F ρ w h1 _=>⟨.tuple #[ρ t,ρ u],by simp[hZ],⟨[ρ t,ρ u],rfl,⟨_,_,rfl,hv▸h1 t,⟨_,_,rfl,hu▸h1 u,rfl⟩⟩⟩⟩) h
theorem bC.c1 {t T i:Nat} {T':TypeId} {cs:List AV} {n:Nat} (hv:env t=.po i 0) (hO:qZ O i (.cells T' cs)) (ha:∀w,(isAgg T).run P w=.ok true w) (hs:∀w,(sizeOf T).run P w=.ok n w) (hn:cs.length=n) (h:R (.agg cs) O) :
  bC P E #[.cell t T] R .ret env O:=bC.of (fun I F ρ w h1 h2=>by
 obtain ⟨L,hL,hS⟩:=h2.2
 have h3:=h1 t
 rw[hv] at h3
 obtain ⟨b,c,e1,e⟩:=h3
 obtain ⟨b',c',vs,e2,h4,hm⟩:=hO.cells hL
 rw[e1] at e2;cases e2
 have hl:=dl (P:=P) (w:=w) (b:=b) (off:=0) ha (cs:=vs) (by rw[h4.length,hn];exact hs) (fun j v hj=>by
  rw[Nat.zero_add]
  exact hS.at_ (.inr ⟨_,_,_,List.mem_append_left _ hm,by rw[List.getElem?_toArray];exact hj⟩))
 exact ⟨.agg vs.toArray,by simp[hZ,e,asAddr,hl],⟨vs,rfl,h4⟩⟩) h
end
section
variable {E:World} {P:Program} {ops:Array Oper} {K:aE→OL→Prop} {env:aE} {O O':OL} {rest:List Oper}
variable {d ty:Nat} {pos:String} {af:Array Edge} {x y z:Operand} {t u e:TypeId}
theorem aq.boxF {v:AV} {cs:List AV} (hx:aT env x=v) (hv:v.sto=true) (hc:v.cs=cs) (k:aq P E ops K rest (bp env d (.pf cs)) O):aq P E ops K (Oper.mk (some d) (.box t x) ty pos af none::rest) env O:=fun I F ρ w h1 h2=>by
 obtain ⟨ht,L,hL,hS⟩:=h2
 refine bq.boxP hS rfl fun b w' J hl hb hS'=>?_
 have h3:=h1.ev x
 rw[hx] at h3
 have h4:=AV.cs_rep h3 hv
 rw[hc] at h4
 let I':G:=⟨J,I.h⟩
 have hle:I.le I':=⟨hl,fun _ _ h=>h⟩
 refine yk (fun _ _=>cG.up hle) _ _ _ (k I' F _ w' ((h1.mono hle).upd d ⟨b,0,_,rfl,RepL.mono hle _ _ h4,fun j u hj=>⟨_,_,_,hb,?_⟩⟩) ⟨ht,L,hL.mono hle,hS'⟩)
 rw[Nat.zero_add];simpa using hj
theorem wT {I:G} {F:List (Nat × Obj)} {E w w':World} {L:List (Nat × Obj)} {b:Nat} {T:TypeId} {cs:List AV} {vs:List Value} (h2:dV I O F E w) (hL:bk I O L) (hr:RepL I cs vs) (h1c:∀u∈vs,u.oneCell'=true)
  (hS:SL I.k ((b,.cells vs.toArray T (0,0))::(L++F)) E w'):∃i J,I.le J∧J.h i=some (some b,0)∧dV J ((i,.cells T cs)::O) F E w':=by
 obtain ⟨i,hi⟩:=h2.name
 obtain ⟨J,e1,hle,e2,htop⟩:=hi (some b,0)
 exact ⟨i,J,hle,e2,htop,_,⟨_,L,rfl,⟨b,0,vs,e2,RepL.mono hle _ _ hr,h1c,rfl⟩,hL.mono hle⟩,by rw[e1];exact hS⟩
theorem RepL.cell1 {I:G} {cs:List AV} {vs:List Value} (h4:RepL I cs vs) (hc1:cs.all AV.cell=true):∀u∈vs,u.oneCell'=true:=by
 intro u hu
 obtain ⟨j,hj⟩:=List.mem_iff_getElem?.1 hu
 have hlen:=h4.length
 have hjl:=(List.getElem?_eq_some_iff.1 hj).1
 have hx:cs[j]?=some cs[j]:=List.getElem?_eq_getElem (by omega)
 obtain ⟨v',hv',hr'⟩:=h4.get hx
 rw[hj] at hv';cases hv'
 exact AV.cell_rep hr' (List.all_eq_true.1 hc1 _ (List.getElem_mem _))
theorem aq.alloc {zv:Value} {cs:List AV} (hz:∀w,(zeroValue t).run P w=.ok zv w) (hc:zv.cells.toList.map lit=cs) (h1c:zv.cells.toList.all Value.oneCell'=true) (k:∀i,aq P E ops K rest (bp env d (.po i 0)) ((i,.cells t cs)::O)) :
  aq P E ops K (Oper.mk (some d) (.alloc t) ty pos af none::rest) env O:=fun I F ρ w h1 h2=>by
 obtain ⟨L,hL,hS⟩:=h2.2
 refine bq.alloc hz hS fun b w' hS'=>?_
 obtain ⟨i,J,hle,e2,h5⟩:=wT (O:=O) (w':=w') (b:=b) (T:=t) h2 hL (hc▸eJ I zv.cells.toList) (List.all_eq_true.1 h1c) (by simpa using hS')
 exact yk (fun _ _=>cG.up hle) _ _ _ (k i J F _ w' ((h1.mono hle).upd d ⟨b,0,e2,rfl⟩) h5)
theorem eK {b off n:Nat} {vs:List Value} {T:TypeId} {v:Value} {old:List Value} {w:World} (hs:∀w,(sizeOf t).run P w=.ok n w) (hvc:v.cells=vs.toArray) (hn:vs.length=n) (h1c:∀u∈vs,u.oneCell'=true) (hb:off+n≤old.length)
  (hown:w.heap[b]?=some (.cells old.toArray T (0,0))):(Instr.storeAt t (.pointer (some ⟨b,off,none⟩)) v).run P w=.ok () (w.setRow b (old.take off++vs++old.drop (off+n)).toArray):=by
 have hst:(storeCells (⟨b,off,none⟩:Addr) vs 0).run P w=.ok () (w.setRow b (old.take off++vs++old.drop (off+n)).toArray):=by
  rw[run_storeCells_at (P:=P) b off T vs 0 old.toArray w hown (by simp;omega) h1c]
  simp[hn]
 have hvs:v.cells.size=n:=by rw[hvc];simpa using hn
 simp[Instr.storeAt,Instr.sureAddr,storeVar,hs,hvc,hn,hst]
theorem SL.turn1 {I:aF} {L:List (Nat × Obj)} {E w:World} {b:Nat} {old new:List Value} {T:TypeId} (h:SL I ((b,.cells old.toArray T (0,0))::L) E w):SL I ((b,.cells new.toArray T (0,0))::L) E (w.setRow b new.toArray):=by
 have hown:=h.own _ (.head _)
 simp only at hown
 refine h.turn rfl rfl rfl ?_ ?_
 ·simp[World.setRow,Array.getElem?_modify,hown]
 ·intro k hk
  simp only[World.setRow,Array.getElem?_modify]
  rw[if_neg (by omega)]
theorem aq.storeC {i off n:Nat} {T:TypeId} {v:AV} {cs l new:List AV} (hs:∀w,(sizeOf t).run P w=.ok n w) (hx:aT env x=.po i off) (hy:aT env y=v) (hv:v.sto=true) (hl:v.cs=l) (hl1:l.all AV.cell=true) (hn:l.length=n)
  (hO:ed O i (.cells T cs) (.cells T new) O') (hb:Nat.ble (off+n) cs.length=true) (hnew:cs.take off++l++cs.drop (off+n)=new) (k:aq P E ops K rest env O'):aq P E ops K (Oper.mk none (.store t x y) ty pos af none::rest) env O:=fun I F ρ w h1 h2=>by
 obtain ⟨htop,L,hL,hS⟩:=h2
 have h3:=h1.ev x
 rw[hx] at h3
 obtain ⟨b,c,e1,e⟩:=h3
 have h4:=h1.ev y
 rw[hy] at h4
 have h5:=AV.cs_rep h4 hv
 rw[hl] at h5
 obtain ⟨A,B,hp,⟨b',c',vs,e2,h6,h6c,rfl⟩,hback⟩:=hO.rep hL
 rw[e1] at e2;cases e2
 have hS2:SL I.k ((b,.cells vs.toArray T (0,0))::(B++F)) E w:=hS.perm ((hp.append_right F).symm)
 have hb:=Nat.le_of_ble_eq_true hb
 have hrun:=eK (P:=P) (t:=t) (b:=b) (off:=off) (v:=ev ρ y) (vs:=(ev ρ y).cells.toList) (old:=vs) (w:=w) hs (by simp) (by rw[h5.length,hn]) (h5.cell1 hl1) (by rw[h6.length];exact hb) (hS2.own _ (.head _))
 refine bq.step rfl ?_
 unfold cQ
 have:(execOp (ev ρ) (Oper.mk none (.store t x y) ty pos af none)).run P w=.ok .skip (w.setRow b (vs.take off++(ev ρ y).cells.toList++vs.drop (off+n)).toArray):=by
  simp only[execOp,e]
  rw[Sem.run_bind,hrun];rfl
 rw[this]
 have hnr:RepL I new (vs.take off++(ev ρ y).cells.toList++vs.drop (off+n)):=hnew▸((h6.take off).append h5).append (h6.drop (off+n))
 obtain ⟨L',h7,h8⟩:=hback (G.le.refl I) (A':=[(b,.cells (vs.take off++(ev ρ y).cells.toList++vs.drop (off+n)).toArray T (0,0))]) ⟨b,c,_,e1,hnr,by
  intro u hu
  simp only[List.mem_append] at hu
  rcases hu with (hu|hu)|hu
  ·exact h6c u (List.mem_of_mem_take hu)
  ·exact h5.cell1 hl1 u hu
  ·exact h6c u (List.mem_of_mem_drop hu),rfl⟩
 exact k I F ρ _ h1 ⟨htop,L',h7,(hS2.turn1).perm (h8.append_right F)⟩
end
end
section
open Go.Proofs.Tryz
def eL (place:Nat→Option (Nat × Nat)):List AV→List (Nat × List AV)→Option (List AV)
 |cells,[]=>some cells
 |cells,(i,xs)::rest=>
  match place i with
  |none=>none
  |some (off,size)=>bif Nat.beq xs.length size&&Nat.ble (off+size) cells.length then eL place (cells.take off++(xs++cells.drop (off+size))) rest else none
theorem ko (off:Nat):∀(l:List Value) (k:Nat) (cs:Array Value),off+k+l.length≤cs.size→((l.zipIdx k).foldl (fun cs (x:Value × Nat)=>cs.setIfInBounds (off+x.2) x.1) cs).toList=cs.toList.take (off+k)++l++cs.toList.drop (off+k+l.length):=by
 intro l
 induction l with
 |nil=>intro k cs _;simp
 |cons c l ih=>
  intro k cs hk
  simp only[List.zipIdx_cons,List.foldl_cons]
  rw[ih (k+1) _ (by simp at hk ⊢;omega)]
  simp only[Array.toList_setIfInBounds,List.length_cons]
  have hk':off+k<cs.toList.length:=by simp at hk ⊢;omega
  rw[←Nat.add_assoc off k 1,List.take_succ_eq_append_getElem (by simpa using hk'),List.getElem_set_self,List.take_set_of_le (Nat.le_refl _)]
  rw[List.drop_set_of_lt (by omega:off+k<off+k+1+l.length)]
  simp only[List.append_assoc,List.singleton_append]
  have:off+k+1+l.length=off+k+(l.length+1):=by omega
  rw[this]
theorem fD {I:G} {place:Nat→Option (Nat × Nat)}:∀(l:List (Nat × Value)) (cps:List (Nat × List AV)) (cells:List AV) (vcells:Array Value) (rs:List AV),
  cps.map (·.1)=l.map (·.1)→(∀(j:Nat) p q,l[j]?=some p→cps[j]?=some q→RepL I q.2 p.2.cells.toList)→RepL I cells vcells.toList→eL place cells cps=some rs →
  ∃vc,Instr.fill place vcells l=some vc∧RepL I rs vc.toList
 |[],[],cells,vcells,rs,_,_,h,hf=>⟨vcells,rfl,by cases hf;exact h⟩
 |[],_::_,_,_,_,h,_,_,_=>by cases h
 |_::_,[],_,_,_,h,_,_,_=>by cases h
 |(i,v)::l,(i',xs)::cps,cells,vcells,rs,hk,hp,h,hf=>by
  simp only[List.map_cons,List.cons.injEq] at hk
  obtain ⟨rfl,hk⟩:=hk
  unfold eL at hf
  unfold Instr.fill
  cases hpl:place i' with
  |none=>rw[hpl] at hf;cases hf
  |some os=>
   obtain ⟨off,size⟩:=os
   rw[hpl] at hf
   simp only at hf ⊢
   have hx:=hp 0 _ _ rfl rfl
   simp only at hx
   have hxl:=hx.length
   have hcl:=h.length
   simp only[Array.length_toList] at hxl hcl
   cases hb:(Nat.beq xs.length size&&Nat.ble (off+size) cells.length) with
   |false=>rw[hb] at hf;cases hf
   |true=>
    rw[hb] at hf
    simp only[cond_true] at hf
    simp only[Bool.and_eq_true] at hb
    have e1:=Nat.eq_of_beq_eq_true hb.1
    have e2:=Nat.le_of_ble_eq_true hb.2
    rw[if_neg (show ¬((v.cells.size≠size||off+v.cells.size>vcells.size)=true) by simp;omega)]
    have hfold:=ko off v.cells.toList 0 vcells (by simp;omega)
    simp only[Nat.add_zero] at hfold
    have hfa:(v.cells.zipIdx.foldl (fun cs (x:Value × Nat)=>cs.setIfInBounds (off+x.2) x.1) vcells).toList=vcells.toList.take off++v.cells.toList++vcells.toList.drop (off+size):=by
     rw[←Array.foldl_toList]
     have:v.cells.zipIdx.toList=v.cells.toList.zipIdx 0:=by simp
     have hlen:v.cells.toList.length=size:=by rw[Array.length_toList];omega
     rw[this,hfold,hlen]
    refine fD l cps _ _ rs hk (fun j p q h1 h2=>hp (j+1) p q (by simpa using h1) (by simpa using h2)) ?_ hf
    rw[hfa,List.append_assoc]
    exact (h.take off).append (hx.append (h.drop _))
def fV (P:Program) (t:TypeId) (places:Array (Nat × Nat)) (zs:List AV):Prop:=
 ∃fs zv,P.underlying t=some (.struct fs)∧(∀w,(zeroValue t).run P w=.ok zv w)∧(∀w,(fs.mapM (m:=Sem) fun f=>do pure (f.offset,←sizeOf f.type)).run P w=.ok places w)∧zv.cells.toList.map lit=zs
def gM (P:Program) (t:TypeId) (k:Nat) (zs:List AV):Prop:=
 ∃n e zv,P.underlying t=some (.array n e)∧(∀w,(zeroValue t).run P w=.ok zv w)∧(∀w,(sizeOf e).run P w=.ok k w)∧zv.cells.toList.map lit=zs
section
variable {E:World} {P:Program} {ops:Array Oper} {K:aE→OL→Prop} {env:aE} {O O':OL} {rest:List Oper}
variable {d ty:Nat} {pos:String} {af:Array Edge} {x y z:Operand} {t u e:TypeId}
theorem fW {I:G} {ρ:bn} (h1:cD I env ρ) (l:List (Nat × Operand)) (hs:l.all (fun p=>(aT env p.2).sto)=true) (j:Nat) (p:Nat × Value) (q:Nat × List AV)
  (hp:(l.map fun p=>(p.1,ev ρ p.2))[j]?=some p) (hq:(l.map fun p=>(p.1,(aT env p.2).cs))[j]?=some q):RepL I q.2 p.2.cells.toList:=by
 rw[List.getElem?_map] at hp hq
 cases hl:l[j]? with
 |none=>rw[hl] at hp;cases hp
 |some o=>
  rw[hl] at hp hq
  cases hp;cases hq
  exact AV.cs_rep (h1.ev o.2) (List.all_eq_true.1 hs _ (List.mem_of_getElem? hl))
theorem Gv.build {places:Array (Nat × Nat)} {zs rs:List AV} {l:List (Nat × Operand)} {cps:List (Nat × List AV)} (hpl:fV P t places zs) (hs:l.all (fun p=>(aT env p.2).sto)=true) (hv:l.map (fun p=>(p.1,(aT env p.2).cs))=cps)
  (hf:eL (places[·]?) zs cps=some rs):Gv P env O (Oper.mk (some d) (.build t l.toArray) ty pos af none) (.agg rs):=Gv.ofEv fun I ρ h=>by
 obtain ⟨fs,zv,ht,hz,hp,hc⟩:=hpl
 obtain ⟨vc,h1,h2⟩:=fD (I:=I) (place:=(places[·]?)) (l.map fun p=>(p.1,ev ρ p.2)) cps zs zv.cells rs (by subst hv;simp) (fun j p q hj hq=>fW h l hs j p q hj (hv▸hq)) (hc▸eJ I _) hf
 refine ⟨.agg vc,⟨vc.toList,by simp,h2⟩,fun w=>?_⟩
 have hrun:(Instr.build t (l.map fun p=>(p.1,ev ρ p.2)).toArray).run P w=.ok (.agg vc) w:=by
  unfold Instr.build
  simp only[Sem.run_bind,hz,Result.andThen_ok,run_underlying ht]
  rw[hp]
  simp only[Result.andThen_ok,h1]
  rfl
 simp only[execOp,List.map_toArray]
 rw[Sem.run_bind,hrun];rfl
theorem Gv.buildA {k:Nat} {zs rs:List AV} {l:List (Nat × Operand)} {cps:List (Nat × List AV)} (hpl:gM P t k zs) (hs:l.all (fun p=>(aT env p.2).sto)=true) (hv:l.map (fun p=>(p.1,(aT env p.2).cs))=cps)
  (hf:eL (fun i=>some (i*k,k)) zs cps=some rs):Gv P env O (Oper.mk (some d) (.build t l.toArray) ty pos af none) (.agg rs):=Gv.ofEv fun I ρ h=>by
 obtain ⟨n,e,zv,ht,hz,hp,hc⟩:=hpl
 obtain ⟨vc,h1,h2⟩:=fD (I:=I) (place:=fun i=>some (i*k,k)) (l.map fun p=>(p.1,ev ρ p.2)) cps zs zv.cells rs (by subst hv;simp) (fun j p q hj hq=>fW h l hs j p q hj (hv▸hq)) (hc▸eJ I _) hf
 refine ⟨.agg vc,⟨vc.toList,by simp,h2⟩,fun w=>?_⟩
 have hrun:(Instr.build t (l.map fun p=>(p.1,ev ρ p.2)).toArray).run P w=.ok (.agg vc) w:=by
  unfold Instr.build
  simp only[Sem.run_bind,hz,Result.andThen_ok,run_underlying ht,hp,h1]
  rfl
 simp only[execOp,List.map_toArray]
 rw[Sem.run_bind,hrun];rfl
def dg (P:Program) (t e:TypeId) (n k:Nat) (zs:List AV):Prop:=
 ∃zv,P.underlying t=some (.slice e)∧(∀w,(sizeOf e).run P w=.ok k w)∧(∀w,(zeroValue e).run P w=.ok zv w)∧0<n*k∧n*k≤2 ^ 24∧((Array.range (n*k)).map (zv.cells[·% zv.cells.size]!)).toList.map lit=zs
theorem gC {n k:Nat} {zs rs:List AV} {l:List (Nat × Operand)} {cps:List (Nat × List AV)} (hpl:dg P t e n k zs) (hs:l.all (fun p=>(aT env p.2).sto)=true) (hv:l.map (fun p=>(p.1,(aT env p.2).cs))=cps)
  (hf:eL (fun i=>some (i*k,k)) zs cps=some rs) {I:G} {ρ:bn} (h:cD I env ρ):∃vc:List Value,RepL I rs vc∧∀w,(execOp (ev ρ) (Oper.mk (some d) (.buildSlice t n l.toArray) ty pos af none)).run P w=.ok (.value (.slice (some ⟨w.heap.size,0,none⟩) n n)) (w.alloc (.cells vc.toArray e)):=by
 obtain ⟨zv,ht,hsz,hz,h0,h24,hc⟩:=hpl
 obtain ⟨vc,h1,h2⟩:=fD (I:=I) (place:=fun i=>some (i*k,k)) (l.map fun p=>(p.1,ev ρ p.2)) cps zs ((Array.range (n*k)).map (zv.cells[·% zv.cells.size]!)) rs (by subst hv;simp) (fun j p q hj hq=>fW h l hs j p q hj (hv▸hq)) (hc▸eJ I _) hf
 refine ⟨vc.toList,h2,fun w=>?_⟩
 have hrun:(Instr.buildSlice t n (l.map fun p=>(p.1,ev ρ p.2)).toArray).run P w=.ok (.slice (some ⟨w.heap.size,0,none⟩) n n) (w.alloc (.cells vc e)):=by
  unfold Instr.buildSlice
  simp only[Sem.run_bind,Result.andThen_ok,run_underlying ht,hsz]
  rw[if_neg (by omega)]
  simp only[Sem.run_pure,Result.andThen_ok,if_neg (by omega:¬n*k=0),Sem.run_bind,hz,h1,newRow]
  simp
 simp only[execOp,List.map_toArray]
 rw[Sem.run_bind,hrun];simp
theorem RepR.of_flat {I:G} {k b:Nat} {c:Array Value} {T:TypeId} {f:Nat × Nat} (hb:I.k b=some (.cells c T f)):∀(rows:List (List AV)) (vs:List Value) (j:Nat),(∀r∈rows,r.length=k)→RepL I rows.flatten vs→(∀(i:Nat) u,vs[i]?=some u→c[j*k+i]?=some u)→RepR I k (some ⟨b,0,none⟩) j rows
 |[],_,_,_,_,_=>trivial
 |r::rows,vs,j,hk,h,hc=>by
  have hr:=hk r (by simp)
  have h1:=h.take r.length
  have h2:=h.drop r.length
  simp only[List.flatten_cons,List.take_left,List.drop_left] at h1 h2
  refine ⟨⟨b,0,vs.take r.length,rfl,?_,h1,fun i u hu=>⟨c,T,f,hb,?_⟩⟩,RepR.of_flat hb rows _ (j+1) (fun r hr=>hk r (by simp[hr])) h2 fun i u hu=>?_⟩
  ·rw[h1.length,hr]
  ·rw[List.getElem?_take] at hu
   split at hu
   ·rw[Nat.zero_add];exact hc i u hu
   ·cases hu
  ·rw[List.getElem?_drop,hr] at hu
   have:=hc _ u hu
   rw[Nat.add_mul,Nat.one_mul,Nat.add_assoc];exact this
theorem aq.buildSliceF {n k:Nat} {zs rs:List AV} {rows:List (List AV)} {l:List (Nat × Operand)} {cps:List (Nat × List AV)} (hpl:dg P t e n k zs) (hs:l.all (fun p=>(aT env p.2).sto)=true) (hv:l.map (fun p=>(p.1,(aT env p.2).cs))=cps)
  (hf:eL (fun i=>some (i*k,k)) zs cps=some rs) (hr:rows.flatten=rs) (hk:rows.all (fun r=>Nat.beq r.length k)=true) (hn:rows.length=n) (kk:aq P E ops K rest (bp env d (.fro k rows)) O) :
  aq P E ops K (Oper.mk (some d) (.buildSlice t n l.toArray) ty pos af none::rest) env O:=fun I F ρ w h1 h2=>by
 obtain ⟨htop,L,hL,hS⟩:=h2
 obtain ⟨vc,hrep,hrun⟩:=gC (d:=d) (ty:=ty) (pos:=pos) (af:=af) hpl hs hv hf h1
 refine bq.step rfl ?_
 unfold cQ
 rw[hrun w]
 obtain ⟨hl,hS'⟩:=hS.alloc_pers (.cells vc.toArray e)
 let J:G:=⟨I.k.put w.heap.size (.cells vc.toArray e),I.h⟩
 have hle:I.le J:=⟨hl,fun _ _ h=>h⟩
 have hb:J.k w.heap.size=some (.cells vc.toArray e):=aF.put_same _ _ _
 refine yk (fun _ _=>cG.up hle) _ _ _ (kk J F _ _ ((h1.mono hle).upd d ⟨_,n,n,rfl,hn.symm,Nat.le_refl _,fun h=>by (cases h),?_⟩) ⟨htop,L,hL.mono hle,hS'⟩)
 exact RepR.of_flat hb rows vc 0 (fun r h=>Nat.eq_of_beq_eq_true (List.all_eq_true.1 hk r h)) (hr▸RepL.mono hle _ _ hrep) (fun i u hu=>by simpa using hu)
theorem aq.buildSlice0 {i:TypeInfo} {k:Nat} (ht:P.underlying t=some (.slice e)) (hi:P.info? e=some i) (kk:∀j,aq P E ops K rest (bp env d (.own j 0)) ((j,.grow k e [])::O)) :
  aq P E ops K (Oper.mk (some d) (.buildSlice t 0 #[]) ty pos af none::rest) env O:=fun I F ρ w h1 h2=>by
 obtain ⟨L,hL,hS⟩:=h2.2
 obtain ⟨j,hj⟩:=h2.name
 refine bq.buildSlice0 ht hi hS fun b w' hS'=>?_
 obtain ⟨J,e1,hle,e2,htop⟩:=hj (some b,0)
 refine yk (fun _ _=>cG.up hle) _ _ _ (kk j J F _ _ ((h1.mono hle).upd d ⟨_,0,e2,rfl⟩) ⟨htop,_,⟨[(b,.cells [].toArray e (0,0))],L,rfl,⟨some b,0,0,[],e2,rfl,(by simp),fj.made (n:=0) (by simp)⟩,hL.mono hle⟩,by rw[e1];exact hS'⟩)
end
end
section
open Go.Proofs.Tryz
theorem RepR.flat {I:G} {k:Nat} {a:Option Addr}:∀{rows:List (List AV)} {j:Nat},RepR I k a j rows→rows≠[]→∃b off vs,a=some ⟨b,off,none⟩∧RepL I rows.flatten vs∧vs.length=rows.length*k∧∀(i:Nat) u,vs[i]?=some u→qY I.k b (off+j*k+i) u
 |[],_,_,h=>absurd rfl h
 |[r],j,⟨⟨b,off,vs,e,h1,h2,h3⟩,_⟩,_=>⟨b,off,vs,e,by simpa using h2,by simpa using h1,h3⟩
 |r::r'::rows,j,⟨⟨b,off,vs,e,h1,h2,h3⟩,h4⟩,_=>by
  obtain ⟨b',off',us,e',h5,h6,h7⟩:=RepR.flat h4 (by simp)
  subst e
  cases e'
  refine ⟨b,off,vs++us,rfl,by simpa using h2.append h5,by simp only[List.length_append,h1,h6,List.length_cons,Nat.add_mul];omega,fun i u hu=>?_⟩
  by_cases hi:i<vs.length
  ·rw[List.getElem?_append_left hi] at hu;exact h3 i u hu
  ·rw[List.getElem?_append_right (by omega)] at hu
   have:=h7 _ u hu
   have e:off+(j+1)*k+(i - vs.length)=off+j*k+i:=by rw[Nat.add_mul,h1];omega
   rwa [e] at this
theorem uq {I:G} {k:Nat} {rows:List (List AV)} {v:Value} (h:bu I (.fro k rows) v) (hc:rows.flatten.all AV.cell=true):∃a n c vs,v=.slice a n c∧n=rows.length∧RepL I rows.flatten vs∧(∀u∈vs,u.oneCell'=true)∧∀O,zS I.k O k a n vs:=by
 obtain ⟨a,n,c,e,hn,hnc,hnil,hr⟩:=h
 cases rows with
 |nil=>
  refine ⟨a,n,c,[],e,hn,rfl,by simp,fun O=>⟨by simp[hn],by simp,?_⟩⟩
  cases a with
  |none=>exact .inl ⟨rfl,hn⟩
  |some p=>exact .inr ⟨p,rfl,by simp⟩
 |cons r rows=>
  obtain ⟨b,off,vs,e',h1,h2,h3⟩:=hr.flat (by simp)
  refine ⟨a,n,c,vs,e,hn,h1,h1.cell1 hc,fun O=>⟨by rw[h2,hn],h1.cell1 hc,.inr ⟨_,e',fun j u hj=>⟨b,off,rfl,?_⟩⟩⟩⟩
  have:=h3 j u hj
  rw[Nat.zero_mul,Nat.add_zero] at this
  exact .inl this
section
variable {E:World} {P:Program} {ops:Array Oper} {K:aE→OL→Prop} {env:aE} {O O':OL} {rest:List Oper}
variable {d ty:Nat} {pos:String} {af:Array Edge} {x y z:Operand} {t u e:TypeId}
theorem dV.split {I:G} {O1 O2:OL} {F:List (Nat × Obj)} {E w:World} (hO:O.Perm (O1++O2)) (h:dV I O F E w):∃L2,bk I O2 L2∧dV I O1 (L2++F) E w:=by
 obtain ⟨ht,L,hL,hS⟩:=h
 obtain ⟨L',h1,h2⟩:=hL.perm hO
 obtain ⟨A,B,rfl,h3,h4⟩:=bk.append.1 h1
 exact ⟨B,h4,ht,A,h3,hS.perm (by rw[←List.append_assoc];exact (h2.append_right F).symm)⟩
theorem dV.join {I J:G} {O1 O2:OL} {L2 F:List (Nat × Obj)} {E w:World} (hle:I.le J) (h2:bk I O2 L2) (h:dV J O1 (L2++F) E w):dV J (O1++O2) F E w:=by
 obtain ⟨ht,L,hL,hS⟩:=h
 exact ⟨ht,L++L2,bk.append.2 ⟨L,L2,rfl,hL,h2.mono hle⟩,by rw[List.append_assoc];exact hS⟩
theorem dV.drops {I:G} {O1:OL} {L2 F:List (Nat × Obj)} {E w:World} (h:dV I O1 (L2++F) E w):SL I.k (L2++F) E w:=by
 obtain ⟨ht,L,hL,hS⟩:=h
 exact hS.dropAll
theorem aq.callA {f:FuncId} {args:List Operand} {tys:Array TypeId} {as0:List AV} {O1 O2:OL} {R:AV→OL→Prop} (ha:args.map (aT env)=as0) (hO:O.Perm (O1++O2)) (hc:bx P E f as0 O1 R)
  (k:∀r O1',R r O1'→aq P E ops K rest (bp env d r) (O1'++O2)):aq P E ops K (Oper.mk (some d) (.call { callee:=.value (.func f),args:=args.toArray,argTypes:=tys }) ty pos af none::rest) env O:=fun I F ρ w h1 h2=>by
 obtain ⟨L2,hL2,h3⟩:=h2.split hO
 refine bq.callF (hc I (L2++F) w (args.map (ev ρ)) (ha▸h1.evs args) h3) ?_
 rintro v w' ⟨J,r,O1',hle,hr,hS,hR⟩
 exact yk (fun _ _=>cG.up hle) _ _ _ (k r O1' hR J F _ _ ((h1.mono hle).upd d hr) (hS.join hle hL2))
theorem aq.callP {f:FuncId} {args:List Operand} {tys:Array TypeId} {as0:List AV} {r:AV} (hc:aQ P E f as0 r) (ha:args.map (aT env)=as0)
  (k:aq P E ops K rest (bp env d r) O):aq P E ops K (Oper.mk (some d) (.call { callee:=.value (.func f),args:=args.toArray,argTypes:=tys }) ty pos af none::rest) env O:=fun I F ρ w h1 h2=>by
 obtain ⟨L2,hL2,h3⟩:=h2.split (O1:=[]) (O2:=O) (.refl _)
 refine bq.callF (hc I (L2++F) w (args.map (ev ρ)) (ha▸h1.evs args) h3) ?_
 rintro v w' ⟨J,r',O1',hle,hr,hS,rfl⟩
 exact yk (fun _ _=>cG.up hle) _ _ _ (k J F _ _ ((h1.mono hle).upd d hr) ⟨hS.1,L2,hL2.mono hle,hS.drops⟩)
theorem aq.callVP {f:FuncId} {args:List Operand} {tys:Array TypeId} {a c as0:List AV} {r:AV} (hx:aT env x=.fn f a c) (hc:aQ P E f as0 r) (ha:a++args.map (aT env)++c=as0)
  (k:aq P E ops K rest (bp env d r) O):aq P E ops K (Oper.mk (some d) (.call { callee:=.value x,args:=args.toArray,argTypes:=tys }) ty pos af none::rest) env O:=fun I F ρ w h1 h2=>by
 obtain ⟨L2,hL2,h3⟩:=h2.split (O1:=[]) (O2:=O) (.refl _)
 have h4:=h1.ev x
 rw[hx] at h4
 obtain ⟨vs,us,e,h5,h6⟩:=h4
 refine bq.callV e (hc I (L2++F) w (vs++args.map (ev ρ)++us) (ha▸(h5.append (h1.evs args)).append h6) h3) ?_
 rintro v w' ⟨J,r',O1',hle,hr,hS,rfl⟩
 exact yk (fun _ _=>cG.up hle) _ _ _ (k J F _ _ ((h1.mono hle).upd d hr) ⟨hS.1,L2,hL2.mono hle,hS.drops⟩)
theorem Gv.func {f:FuncId} {l m:List Operand} {a c:List AV} (hl:l.map (aT env)=a) (hm:m.map (aT env)=c):Gv P env O (Oper.mk (some d) (.makeFunc (.func f) l.toArray m.toArray) ty pos af none) (.fn f a c):=Gv.ofEv fun I ρ h=>
 ⟨.func (.func f) (l.map (ev ρ)).toArray (m.map (ev ρ)).toArray,⟨_,_,rfl,hl▸h.evs l,hm▸h.evs m⟩,fun w=>by simp[execOp,Instr.makeFunc]⟩
def bt (E:World) (env:aE) (O:OL) (env':aE) (O':OL):Prop:=∀I F ρ w,cD I env ρ→dV I O F E w→∃J,I.le J∧cD J env' ρ∧dV J O' F E w
end
section
variable {E:World} {P:Program} {n:Nat} {os:Array Oper} {env env':aE} {O O':OL}
theorem bt.wp {c:Code} {Q:Exit→aE→OL→Prop} (g:bt E env O env' O') (h:bQ P E n c Q env' O'):bQ P E n c Q env O:=fun I F ρ w h1 h2=>by
 obtain ⟨J,hle,h3,h4⟩:=g I F ρ w h1 h2
 exact (h J F ρ w h3 h4).mono fun _ _ _=>fC.up hle
theorem bt.ops {K:aE→OL→Prop} {l:List Oper} (g:bt E env O env' O') (h:aq P E os K l env' O'):aq P E os K l env O:=fun I F ρ w h1 h2=>by
 obtain ⟨J,hle,h3,h4⟩:=g I F ρ w h1 h2
 exact yk (fun _ _=>cG.up hle) _ _ _ (h J F ρ w h3 h4)
theorem bt.fin {rs:Array ResultVar} {R:AV→OL→Prop} (g:bt E env O env' O') (h:bC P E rs R .ret env' O'):bC P E rs R .ret env O:=fun I F ρ w h1 h2=>by
 obtain ⟨J,hle,h3,h4⟩:=g I F ρ w h1 h2
 obtain ⟨v,h5,K,x,O'',h6,h7⟩:=h J F ρ w h3 h4
 exact ⟨v,h5,K,x,O'',hle.trans h6,h7⟩
theorem bt.perm (h:O.Perm O'):bt E env O env O':=fun I F ρ w h1 h2=>by
 obtain ⟨L2,hL2,h3⟩:=h2.split (O1:=O') (O2:=[]) (by simpa using h)
 have:L2=[]:=hL2
 subst this
 exact ⟨I,.refl _,h1,h3⟩
theorem bt.slot {t:Nat} {x y:AV} (hv:env t=x) (hi:∀I v,bu I x v→bu I y v):bt E env O (bp env t y) O:=fun I F ρ w h1 h2=>by
 refine ⟨I,.refl _,fun s=>?_,h2⟩
 unfold bp
 cases hb:Nat.beq s t with
 |false=>exact h1 s
 |true=>
  have:s=t:=Nat.eq_of_beq_eq_true hb
  subst this
  exact hi I _ (hv▸h1 s)
end
section
variable {E:World} {P:Program} {n:Nat} {ops:Array Oper} {env:aE} {O O':OL}
theorem eM {c:Code} {Q:Exit→aE→OL→Prop} {t k:Nat} {T:TypeId} (hv:env t=.raw (.slice none 0 0)) (h:∀i,bQ P E n c Q (bp env t (.own i 0)) ((i,.grow k T [])::O)):bQ P E n c Q env O:=fun I F ρ w h1 h2=>by
 obtain ⟨i,hi⟩:=h2.name
 obtain ⟨J,e1,hle,e2,htop⟩:=hi (none,0)
 obtain ⟨_,L,hL,hS⟩:=h2
 have h3:ρ t=.slice none 0 0:=by have:=h1 t;rw[hv] at this;exact this
 refine (h i J F ρ w (fun s=>?_) ⟨htop,_,⟨[],L,rfl,⟨none,0,0,[],e2,rfl,by simp,fj.nil k T⟩,hL.mono hle⟩,by rw[e1];exact hS⟩).mono fun _ _ _=>fC.up hle
 unfold bp
 cases hb:Nat.beq s t with
 |false=>exact bu.mono hle _ _ (h1 s)
 |true=>
  have:s=t:=Nat.eq_of_beq_eq_true hb
  subst this
  exact ⟨none,0,e2,h3⟩
theorem know {I:G} {F:List (Nat × Obj)} {E w:World} {i k m:Nat} {T:TypeId} {rows:List (List AV)} (hO:cF O i (.grow k T rows.flatten) O') (hk:∀r∈rows,r.length=k) (hk0:0<k) (hm:rows.length=m) (h:dV I O F E w) :
  ∃J,I.le J∧dV J O' F E w∧∀v,bu I (.own i m) v→bu J (.fro k rows) v:=by
 obtain ⟨ht,L,hL,hS⟩:=h
 obtain ⟨A,B,hp,⟨b,c,n,vs,e1,hvs,hvc,hown⟩,hB⟩:=hO.rep hL
 simp only at e1
 have hS2:SL I.k (A++(B++F)) E w:=hS.perm (by rw[←List.append_assoc];exact (hp.append_right F).symm)
 have hflat:rows.flatten.length=rows.length*k:=by
  clear hO hvs hm
  induction rows with
  |nil=>simp
  |cons r rows ih=>simp only[List.flatten_cons,List.length_append,List.length_cons,ih (fun r h=>hk r (by simp[h])),hk r (by simp),Nat.add_mul];omega
 have hnm:n=m:=by
  have h5:=hown.1
  have h6:=hvs.length
  have:n*k=m*k:=by rw[←hm];omega
  exact Nat.eq_of_mul_eq_mul_right hk0 this
 subst hnm
 obtain ⟨h5,h6,h7⟩:=hown
 rcases h7 with ⟨ea,rfl,rfl⟩|⟨b',junk,ea,rfl,hj⟩
 ·refine ⟨I,.refl _,⟨ht,B,hB,by simpa using hS2⟩,?_⟩
  rintro v ⟨b2,c2,e2,rfl⟩
  rw[e1] at e2
  simp only[Option.some.injEq,Prod.mk.injEq] at e2
  obtain ⟨rfl,rfl⟩:=e2
  have h0:rows=[]:=List.eq_nil_of_length_eq_zero (by omega)
  subst h0
  exact ⟨lG b,n,0,rfl,hm.symm,h6,fun _=>rfl,trivial⟩
 ·cases b with
  |none=>simp[lG] at ea
  |some b=>
   simp[lG] at ea
   subst ea
   obtain ⟨hl,hS3⟩:=SL.freeze (by simpa using hS2:SL I.k ((b,.cells (vs++junk).toArray T (0,0))::(B++F)) E w)
   let J:G:=⟨I.k.put b (.cells (vs++junk).toArray T (0,0)),I.h⟩
   have hle:I.le J:=⟨hl,fun _ _ h=>h⟩
   have hb:J.k b=some (.cells (vs++junk).toArray T (0,0)):=aF.put_same _ _ _
   refine ⟨J,hle,⟨ht,B,hB.mono hle,hS3⟩,?_⟩
   rintro v ⟨b2,c2,e2,rfl⟩
   rw[e1] at e2
   simp only[Option.some.injEq,Prod.mk.injEq] at e2
   obtain ⟨rfl,rfl⟩:=e2
   refine ⟨lG (some b),n,c,rfl,hm.symm,h6,fun h=>by simp[lG] at h,RepR.of_flat hb rows vs 0 hk (RepL.mono hle _ _ hvs) fun i u hu=>?_⟩
   rw[Nat.zero_mul,Nat.zero_add,List.getElem?_toArray,List.getElem?_append_left (List.getElem?_eq_some_iff.1 hu).1]
   exact hu
theorem bt.know {t i k m:Nat} {T:TypeId} {rows:List (List AV)} (hv:env t=.own i m) (hO:cF O i (.grow k T rows.flatten) O') (hk:∀r∈rows,r.length=k) (hk0:0<k) (hm:rows.length=m):bt E env O (bp env t (.fro k rows)) O':=fun I F ρ w h1 h2=>by
 obtain ⟨J,hle,h3,h4⟩:=Go.Proofs.YtbconpmnckokoaaGreatDoor.know hO hk hk0 hm h2
 refine ⟨J,hle,fun s=>?_,h3⟩
 unfold bp
 cases hb:Nat.beq s t with
 |false=>exact bu.mono hle _ _ (h1 s)
 |true=>
  have:s=t:=Nat.eq_of_beq_eq_true hb
  subst this
  exact h4 _ (hv▸h1 s)
end
end
section
open Go.Proofs.Tryz
theorem bo.mono {P:Program} {ops:Array Oper} {S0 S0' S S':World→Prop} {W:Nat→Bool} {Q Q':bn→World→Prop} (hS0:∀w,S0 w→S0' w) (hS:∀w,S w→S' w) (hQ:∀ρ w,Q ρ w→Q' ρ w):∀(fuel:Nat) (listed:Array Bool) (ρ:bn) (w:World),
  bo P ops S0 S W Q fuel listed ρ w→bo P ops S0' S' W Q' fuel listed ρ w
 |0,_,_,_,h=>⟨h.1,hQ _ _ h.2⟩
 |fuel+1,_,_,_,h=>⟨fun h0=>hQ _ _ (h.1 h0),fun i hi o ho=>yk (fun _ _ ⟨a,b⟩=>⟨⟨hS0 _ a.1,a.2.imp id (hS _)⟩,bo.mono hS0 hS hQ fuel _ _ _ b⟩) _ _ _ (h.2 i hi o ho)⟩
def dE (J0:aF) (L:List (Nat × Obj)) (E:World) (w:World):Prop:=∃J L',J0.le J∧SL J L' E w∧∀y∈L,y∈L'
def bl (P:Program) (E:World) (l:List Oper) (W:Nat→Bool) (Q:aE→OL→Prop) (fuel:Nat) (listed:Array Bool) (env:aE) (Os Om:OL):Prop:=
 ∀I F ρ w Ls,cD I env ρ→bk I Os Ls→dV I Om (Ls++F) E w→bo P l.toArray (dE I.k [] E) (dE I.k Ls E) W (cG I F E Q) fuel listed ρ w
def cB (P:Program) (E:World) (l:List Oper) (W:Nat→Bool) (Q:aE→OL→Prop) (fuel:Nat) (listed:Array Bool) (env:aE) (O:OL):Prop:=
 ∀I F ρ w,cD I env ρ→dV I O F E w→∀S,bo P l.toArray (dE I.k [] E) S W (cG I F E Q) fuel listed ρ w
theorem dV.here {I:G} {Om:OL} {Ls F:List (Nat × Obj)} {E w:World} (h:dV I Om (Ls++F) E w):dE I.k Ls E w:=by
 obtain ⟨_,L,_,hS⟩:=h
 exact ⟨I.k,_,.refl _,hS,fun y hy=>by simp[hy]⟩
theorem dV.together {I:G} {Os Om:OL} {Ls F:List (Nat × Obj)} {E w:World} (hs:bk I Os Ls) (h:dV I Om (Ls++F) E w):dV I (Os++Om) F E w:=by
 obtain ⟨ht,L,hL,hS⟩:=h
 refine ⟨ht,Ls++L,bk.append.2 ⟨Ls,L,rfl,hs,hL⟩,hS.perm ?_⟩
 rw[←List.append_assoc]
 exact (List.perm_append_comm).append_right F
theorem dE.less {J0:aF} {L:List (Nat × Obj)} {E w:World} (h:dE J0 L E w):dE J0 [] E w:=let ⟨J,L',a,b,_⟩:=h;⟨J,L',a,b,fun _ h=>(by cases h)⟩
section
variable {E:World} {P:Program} {n:Nat} {l:List Oper} {W:Nat→Bool} {Q:aE→OL→Prop} {fuel:Nat} {listed:Array Bool} {env:aE} {O Os Om:OL}
variable {d ty:Nat} {op:Op} {pos:String} {af:Array Edge}
theorem bQ.regionDraw (W:Nat→Bool) {Q:Exit→aE→OL→Prop} {id:Nat} (hm:P.follows .mixedOrders=true) (hd:dk n l=true) (hO:O.Perm (Om++Os)) (h:bl P E l W (Q .normal) l.length (Array.replicate l.length false) env Os Om):bQ P E n (.region id l.toArray true) Q env O:=fun I F ρ w h1 h2=>by
 obtain ⟨Ls,hLs,h3⟩:=h2.split hO
 refine WP.regionDraw (dE I.k [] E) (dE I.k Ls E) W hm hd fun w' hw=>?_
 subst hw
 refine h I F ρ _ Ls h1 hLs ?_
 obtain ⟨ht,L,hL,hS⟩:=h3
 exact ⟨ht,L,hL,hS.drew⟩
theorem r9 {i:Nat} (hr:Region.ready .any l.toArray listed=[i]) (hW:(W i||!cZ W listed)=true):cE W (listed.setIfInBounds i true):=by
 have h1:=(mem_ready.1 (show i∈Region.ready .any l.toArray listed by rw[hr];exact .head _)).1
 have hi:i<listed.size:=by
  rcases Nat.lt_or_ge i listed.size with h|h
  ·exact h
  ·rw[Array.getD_eq_getD_getElem?,Array.getElem?_eq_none h] at h1;cases h1
 rcases Bool.or_eq_true_iff.1 hW with h|h
 ·refine ⟨i,?_,h⟩
  rw[Array.getD_eq_getD_getElem?,Array.getElem?_setIfInBounds,if_pos rfl,if_pos hi];rfl
 ·refine fk ?_
  have h:cZ W listed=false:=by simpa using h
  unfold cZ at h
  obtain ⟨j,_,hj⟩:=List.all_eq_false.1 h
  simp only[Bool.not_eq_true,Bool.not_eq_false',Bool.and_eq_true] at hj
  exact ⟨j,by simpa using hj⟩
theorem bl.takeK {i:Nat} {x:AV} (hi:l[i]?=some (Oper.mk (some d) op ty pos af none)) (hs:Region.noSelect l.toArray=true) (hf:Region.free .any l.toArray listed i=true)
  (hr:(Region.ready .any l.toArray listed).contains i=true) (hWi:W i=false) (hg:Gv P env [] (Oper.mk (some d) op ty pos af none) x)
  (h:bl P E l W Q fuel (listed.setIfInBounds i true) (bp env d x) Os Om):bl P E l W Q (fuel+1) listed env Os Om:=fun I F ρ w Ls h1 hLs h2=>by
 obtain ⟨v,hv,hrun⟩:=hg I [] E ρ h1 rfl
 exact bo.takeK hi hs hf hr hWi h2.here.less (.inr h2.here) (fun w ⟨J,L',a,b,c⟩=>hrun w J L' a b c) (h I F _ w Ls (h1.upd d hv) hLs h2)
theorem bl.take {i:Nat} {x:AV} (hi:l[i]?=some (Oper.mk (some d) op ty pos af none)) (hs:Region.noSelect l.toArray=true) (hf:Region.free .any l.toArray listed i=true)
  (hr:(Region.ready .any l.toArray listed).contains i=true) (hW:dD l i W=true) (hWi:W i=false) (hcl:cZ W listed=true) (hg:Gv P env Os (Oper.mk (some d) op ty pos af none) x)
  (h:bl P E l W Q fuel (listed.setIfInBounds i true) (bp env d x) Os Om):bl P E l W Q (fuel+1) listed env Os Om:=fun I F ρ w Ls h1 hLs h2=>by
 obtain ⟨v,hv,hrun⟩:=hg I Ls E ρ h1 hLs
 exact bo.take hi hs hf hr hW hWi hcl h2.here.less h2.here (fun w ⟨J,L',a,b,c⟩=>hrun w J L' a b c) (h I F _ w Ls (h1.upd d hv) hLs h2)
theorem bl.takeT {i j s:Nat} {b t:Bool} {x:AV} (hi:l[i]?=some (Oper.mk (some d) op ty pos af (some (j,b)))) (hg0:(l[j]?).bind (fun o:Oper=>o.dst)=some s) (hv0:env s=.bool t) (ht:t=b) (hs:Region.noSelect l.toArray=true) (hf:Region.free .any l.toArray listed i=true)
  (hr:(Region.ready .any l.toArray listed).contains i=true) (hW:dD l i W=true) (hWi:W i=false) (hcl:cZ W listed=true) (hg:Gv P env Os (Oper.mk (some d) op ty pos af none) x)
  (h:bl P E l W Q fuel (listed.setIfInBounds i true) (bp env d x) Os Om):bl P E l W Q (fuel+1) listed env Os Om:=fun I F ρ w Ls h1 hLs h2=>by
 obtain ⟨v,hv,hrun⟩:=hg I Ls E ρ h1 hLs
 exact bo.takeT hi hg0 (by have:=h1 s;rw[hv0] at this;exact this) ht hs hf hr hW hWi hcl h2.here.less h2.here (fun w ⟨J,L',a,b,c⟩=>hrun w J L' a b c) (h I F _ w Ls (h1.upd d hv) hLs h2)
theorem bl.takeF {i j s:Nat} {b t:Bool} (hi:l[i]?=some (Oper.mk (some d) op ty pos af (some (j,b)))) (hg0:(l[j]?).bind (fun o:Oper=>o.dst)=some s) (hv0:env s=.bool t) (ht:t=!b) (hs:Region.noSelect l.toArray=true) (hf:Region.free .any l.toArray listed i=true)
  (hr:(Region.ready .any l.toArray listed).contains i=true) (hW:dD l i W=true) (hWi:W i=false) (hcl:cZ W listed=true)
  (h:bl P E l W Q fuel (listed.setIfInBounds i true) (bp env d (.raw undef)) Os Om):bl P E l W Q (fuel+1) listed env Os Om:=fun I F ρ w Ls h1 hLs h2=>
 bo.takeF hi hg0 (by have:=h1 s;rw[hv0] at this;exact this) ht hs hf hr hW hWi hcl h2.here.less h2.here (h I F _ w Ls (h1.upd d rfl) hLs h2)
theorem bl.one {i:Nat} {o:Oper} (hi:l[i]?=some o) (hr:Region.ready .any l.toArray listed=[i])
  (h:aq P E l.toArray (fun env' Om'=>bl P E l W Q fuel (listed.setIfInBounds i true) env' Os Om') [o] env Om):bl P E l W Q (fuel+1) listed env Os Om:=fun I F ρ w Ls h1 hLs h2=>
 bo.one hi hr (yk (fun ρ' w' ⟨J,env',Om',a,b,c,d⟩=>by
  have hst:dE I.k Ls E w':=by
   obtain ⟨J',L',h3,h4,h5⟩:=c.here
   exact ⟨J',L',a.k.trans h3,h4,h5⟩
  refine ⟨⟨hst.less,.inr hst⟩,bo.mono ?_ ?_ (fun _ _=>cG.up a) _ _ _ _ (d J F ρ' w' Ls b (hLs.mono a) c)⟩
  ·rintro w ⟨J',L',h3,h4⟩;exact ⟨J',L',a.k.trans h3,h4⟩
  ·rintro w ⟨J',L',h3,h4⟩;exact ⟨J',L',a.k.trans h3,h4⟩) _ _ _ (h I (Ls++F) ρ w h1 h2))
theorem bl.done (hr:Region.ready .any l.toArray listed=[]) (h:Q env (Os++Om)):bl P E l W Q fuel listed env Os Om:=fun I F ρ w Ls h1 hLs h2=>
 bo.done hr ⟨I,env,Os++Om,.refl _,h1,dV.together hLs h2,h⟩
theorem bl.case {t:Bool} {s:Nat} (_:env s=.bool t) (h1:t=true→bl P E l W Q fuel listed env Os Om) (h2:t=false→bl P E l W Q fuel listed env Os Om):bl P E l W Q fuel listed env Os Om:=by
 cases t
 ·exact h2 rfl
 ·exact h1 rfl
theorem bl.writes (h:cB P E l W Q fuel listed env (Os++Om)):bl P E l W Q fuel listed env Os Om:=fun I F ρ w Ls h1 hLs h2=>h I F ρ w h1 (dV.together hLs h2) _
theorem cB.one {i:Nat} {o:Oper} (hi:l[i]?=some o) (hr:Region.ready .any l.toArray listed=[i]) (hW:(W i||!cZ W listed)=true)
  (h:aq P E l.toArray (fun env' O'=>cB P E l W Q fuel (listed.setIfInBounds i true) env' O') [o] env O):cB P E l W Q (fuel+1) listed env O:=fun I F ρ w h1 h2 S=>
 bo.one hi hr (yk (fun ρ' w' ⟨J,env',O',a,b,c,d⟩=>⟨⟨(by
  obtain ⟨_,L',_,h4⟩:=c
  exact ⟨J.k,_,a.k,h4,fun _ h=>(by cases h)⟩),.inl (r9 hr hW)⟩,bo.mono (fun _ ⟨J',L',h3,h4⟩=>⟨J',L',a.k.trans h3,h4⟩) (fun _ h=>h) (fun _ _=>cG.up a) _ _ _ _ (d J F ρ' w' b c S)⟩) _ _ _ (h I F ρ w h1 h2))
theorem cB.done (hr:Region.ready .any l.toArray listed=[]) (h:Q env O):cB P E l W Q fuel listed env O:=fun I F ρ w h1 h2 S=>
 bo.done hr ⟨I,env,O,.refl _,h1,h2,h⟩
end
theorem RepL.same {I J:G} (hle:I.le J):∀{cs:List AV} {vs:List Value},RepL I cs vs→∀{off:Nat} {x y:AV},cs[off]?=some x→(∀v,bu I x v→bu J y v)→RepL J (cs.set off y) vs
 |[],_,_,_,_,_,h,_=>by simp at h
 |c::cs,_,⟨v,us,e,h1,h2⟩,off,x,y,h,hxy=>by
  subst e
  cases off with
  |zero=>simp at h;subst h;exact ⟨v,us,rfl,hxy v h1,RepL.mono hle _ _ h2⟩
  |succ off=>exact ⟨v,us,rfl,bu.mono hle _ _ h1,RepL.same hle h2 (by simpa using h) hxy⟩
section
variable {E:World} {P:Program} {n:Nat} {env:aE} {O O' O'':OL}
theorem ed.same {I J:G} {F:List (Nat × Obj)} {E w:World} {j off:Nat} {T:TypeId} {cs:List AV} {x y:AV} (hle:I.le J) (hk:J.k=I.k∨True) (hp:ed O j (.cells T cs) (.cells T (cs.set off y)) O') (hc:cs[off]?=some x) (hxy:∀v,bu I x v→bu J y v)
  {L:List (Nat × Obj)} (hL:bk I O L):∃L',bk J O' L'∧L.Perm L':=by
 obtain ⟨A,B,hp1,⟨b,c,vs,e1,hvs,hvc,rfl⟩,hback⟩:=hp.rep hL
 obtain ⟨L',h1,h2⟩:=hback hle (A':=[(b,.cells vs.toArray T (0,0))]) ⟨b,c,vs,hle.h _ _ e1,hvs.same hle hc hxy,hvc,rfl⟩
 exact ⟨L',h1,hp1.trans h2.symm⟩
theorem bt.knowC {j off i k m:Nat} {T T':TypeId} {cs:List AV} {rows:List (List AV)} (hO:cF O i (.grow k T rows.flatten) O') (hP:ed O' j (.cells T' cs) (.cells T' (cs.set off (.fro k rows))) O'') (hc:cs[off]?=some (.own i m))
  (hk:∀r∈rows,r.length=k) (hk0:0<k) (hm:rows.length=m):bt E env O env O'':=fun I F ρ w h1 h2=>by
 obtain ⟨J,hle,h3,h4⟩:=Go.Proofs.YtbconpmnckokoaaGreatDoor.know hO hk hk0 hm h2
 obtain ⟨ht,L,hL,hS⟩:=h3
 obtain ⟨_,L0,hL0,hS0⟩:=h2
 obtain ⟨A,B,hp,⟨b,c,vs,e1,hvs,hvc,rfl⟩,hback⟩:=hP.rep hL
 obtain ⟨A0,B0,hp0,_,hB0⟩:=hO.rep hL0
 obtain ⟨A1,B1,hp1,⟨b1,c1,vs1,e2,hvs1,hvc1,rfl⟩,_⟩:=hP.rep hB0
 have e3:=hle.h _ _ e2
 simp only at e1 e3
 rw[e1] at e3
 simp only[Option.some.injEq,Prod.mk.injEq] at e3
 obtain ⟨rfl,rfl⟩:=e3
 have hS1:SL I.k (A0++(B0++F)) E w:=hS0.perm (by rw[←List.append_assoc];exact (hp0.append_right F).symm)
 have hv1:=hS1.own (b,.cells vs1.toArray T' (0,0)) (by simp;right;left;exact hp1.mem_iff.2 (by simp))
 have hv:=hS.own (b,.cells vs.toArray T' (0,0)) (by simp;left;exact hp.mem_iff.2 (by simp))
 simp only at hv hv1
 rw[hv] at hv1
 simp only[Option.some.injEq,Obj.cells.injEq] at hv1
 have hvv:vs=vs1:=by have:=congrArg Array.toList hv1.1;simpa using this
 subst hvv
 obtain ⟨L',h5,h6⟩:=hback (G.le.refl J) (A':=[(b,.cells vs.toArray T' (0,0))]) ⟨b,c,vs,e1,hvs1.same hle hc h4,hvc,rfl⟩
 exact ⟨J,hle,h1.mono hle,ht,L',h5,hS.perm (((h6.trans hp.symm).append_right F))⟩
theorem dY {j off k:Nat} {T T':TypeId} {cs:List AV} {c:Code} {Q:Exit→aE→OL→Prop} {f:Nat→OL} (hP:∀i,ed O j (.cells T' cs) (.cells T' (cs.set off (.own i 0))) (f i)) (hc:cs[off]?=some (.raw (.slice none 0 0)))
  (h:∀i,bQ P E n c Q env ((i,.grow k T [])::f i)):bQ P E n c Q env O:=fun I F ρ w h1 h2=>by
 obtain ⟨i,hi⟩:=h2.name
 obtain ⟨J,e1,hle,e2,htop⟩:=hi (none,0)
 obtain ⟨_,L,hL,hS⟩:=h2
 obtain ⟨L',h3,h4⟩:=ed.same (F:=F) (E:=E) (w:=w) hle (.inr trivial) (hP i) hc (fun v hv=>⟨none,0,e2,hv⟩) hL
 exact (h i J F ρ w (h1.mono hle) ⟨htop,_,⟨[],L',rfl,⟨none,0,0,[],e2,rfl,by simp,fj.nil k T⟩,h3⟩,by rw[e1];exact hS.perm (h4.symm.append_right F)⟩).mono fun _ _ _=>fC.up hle
end
def AV.plain:AV→Bool
 |.bool _ | .int _ _ | .str _=>true
 |_=>false
theorem AV.plain_rep {I J:G} {x:AV} {v:Value} (hp:x.plain=true) (h:bu I x v):bu J x v:=by
 cases x<;>first|exact h|cases hp
theorem lI {k:Nat} {rows:List (List AV)} (hk:∀r∈rows,r.length=k):rows.flatten.length=rows.length*k:=by
 induction rows with
 |nil=>simp
 |cons r rows ih=>simp only[List.flatten_cons,List.length_append,List.length_cons,ih (fun r h=>hk r (by simp[h])),hk r (by simp),Nat.add_mul];omega
end
section
open Go.Proofs.Tryz
inductive lJ:OL→OL→OL→Prop
 |rest (O):lJ O O []
 |l {x O A B}:lJ O A B→lJ (x::O) (x::A) B
 |r {x O A B}:lJ O A B→lJ (x::O) A (x::B)
theorem lJ.perm {O A B:OL} (h:lJ O A B):O.Perm (A++B):=by
 induction h with
 |rest=>simp
 |l _ ih=>exact ih.cons _
 |r _ ih=>exact (ih.cons _).trans List.perm_middle.symm
section
variable {E:World} {P:Program} {n:Nat} {ops:Array Oper} {K:aE→OL→Prop} {env:aE} {O O':OL} {rest:List Oper}
variable {d ty:Nat} {pos:String} {af:Array Edge} {x y z:Operand} {t u e:TypeId}
theorem aq.storeW {i m:Nat} {T:TypeId} {v:AV} {cs l:List AV} (hs:∀w,(sizeOf t).run P w=.ok m w) (hx:aT env x=.po i 0) (hy:aT env y=v) (hv:v.sto=true) (hl:v.cs=l) (hl1:l.all AV.cell=true) (hn:l.length=m)
  (hO:ed O i (.cells T cs) (.cells T l) O') (hb:cs.length=m) (k:aq P E ops K rest env O'):aq P E ops K (Oper.mk none (.store t x y) ty pos af none::rest) env O:=
 aq.storeC (off:=0) hs hx hy hv hl hl1 hn hO (by rw[hb];simp) (by rw[Nat.zero_add,List.drop_eq_nil_of_le (by omega)];simp) k
theorem aq.storeG {i off m k:Nat} {T:TypeId} {v:AV} {cs l new:List AV} (hs:∀w,(sizeOf t).run P w=.ok m w) (hx:aT env x=.po i off) (hy:aT env y=v) (hv:v.sto=true) (hl:v.cs=l) (hl1:l.all AV.cell=true) (hn:l.length=m)
  (hO:ed O i (.grow k T cs) (.grow k T new) O') (hb:off+m≤cs.length) (hm:0<m) (hnew:cs.take off++l++cs.drop (off+m)=new) (kk:aq P E ops K rest env O'):aq P E ops K (Oper.mk none (.store t x y) ty pos af none::rest) env O:=fun I F ρ w h1 h2=>by
 obtain ⟨htop,L,hL,hS⟩:=h2
 have h3:=h1.ev x
 rw[hx] at h3
 obtain ⟨b,c,e1,e⟩:=h3
 have h4:=h1.ev y
 rw[hy] at h4
 have h5:=AV.cs_rep h4 hv
 rw[hl] at h5
 obtain ⟨A,B,hp,⟨b',c',n',vs,e2,h6,h6c,hown⟩,hback⟩:=hO.rep hL
 simp only at e2
 rw[e1] at e2
 simp only[Option.some.injEq,Prod.mk.injEq] at e2
 obtain ⟨rfl,rfl⟩:=e2
 obtain ⟨g1,g2,g3⟩:=hown
 rcases g3 with ⟨g3,_,_⟩|⟨b'',junk,g3,rfl,g4⟩
 ·simp[lG] at g3
 simp[lG] at g3
 subst g3
 have hS2:SL I.k ((b,.cells (vs++junk).toArray T (0,0))::(B++F)) E w:=hS.perm ((hp.append_right F).symm)
 have hlen:=h6.length
 have hrun:=eK (P:=P) (t:=t) (b:=b) (off:=off) (v:=ev ρ y) (vs:=(ev ρ y).cells.toList) (old:=vs++junk) (w:=w) hs (by simp) (by rw[h5.length,hn]) (h5.cell1 hl1) (by rw[List.length_append];omega) (hS2.own _ (.head _))
 have hre:(vs++junk).take off++(ev ρ y).cells.toList++(vs++junk).drop (off+m)=(vs.take off++(ev ρ y).cells.toList++vs.drop (off+m))++junk:=by
  rw[List.take_append_of_le_length (by omega),List.drop_append_of_le_length (by omega)];simp
 rw[hre] at hrun
 refine bq.step rfl ?_
 unfold cQ
 have:(execOp (ev ρ) (Oper.mk none (.store t x y) ty pos af none)).run P w=.ok .skip (w.setRow b ((vs.take off++(ev ρ y).cells.toList++vs.drop (off+m))++junk).toArray):=by
  simp only[execOp,e]
  rw[Sem.run_bind,hrun];rfl
 rw[this]
 have hnr:RepL I new (vs.take off++(ev ρ y).cells.toList++vs.drop (off+m)):=hnew▸((h6.take off).append h5).append (h6.drop (off+m))
 have hnl:(vs.take off++(ev ρ y).cells.toList++vs.drop (off+m)).length=vs.length:=by
  have:=h5.length
  simp only[List.length_append,List.length_take,List.length_drop];omega
 obtain ⟨L',h7,h8⟩:=hback (G.le.refl I) (A':=[(b,.cells ((vs.take off++(ev ρ y).cells.toList++vs.drop (off+m))++junk).toArray T (0,0))]) ⟨some b,_,n',_,e1,hnr,by
  intro u hu
  simp only[List.mem_append] at hu
  rcases hu with (hu|hu)|hu
  ·exact h6c u (List.mem_of_mem_take hu)
  ·exact h5.cell1 hl1 u hu
  ·exact h6c u (List.mem_of_mem_drop hu),by rw[hnl];exact g1,g2,.inr ⟨b,junk,rfl,rfl,by
   simp only[List.length_append] at g4 ⊢
   simp only[List.length_append] at hnl
   omega⟩⟩
 exact kk I F ρ _ h1 ⟨htop,L',h7,(hS2.turn1).perm (h8.append_right F)⟩
theorem aq.storeG1 {i off k:Nat} {T:TypeId} {v:AV} {cs:List AV} (hs:∀w,(sizeOf t).run P w=.ok 1 w) (hx:aT env x=.po i off) (hy:aT env y=v) (hv:v.sto=true) (hl:v.cs=[v]) (hl1:v.cell=true)
  (hO:ed O i (.grow k T cs) (.grow k T (cs.set off v)) O') (hb:off<cs.length) (kk:aq P E ops K rest env O'):aq P E ops K (Oper.mk none (.store t x y) ty pos af none::rest) env O:=
 aq.storeG hs hx hy hv hl (by simp[hl1]) rfl hO (by omega) (by omega) (by rw[List.set_eq_take_append_cons_drop,if_pos hb];simp) kk
theorem Gv.field1 {fs:Array Field} {f:Field} {i:Nat} {cs:List AV} {v:AV} (ht:P.underlying t=some (.struct fs)) (hf:fs[i]?=some f) (ha:∀w,(isAgg f.type).run P w=.ok false w) (hx:aT env x=.agg cs) (hv:cs[f.offset]?=some v) :
  Gv P env O (Oper.mk (some d) (.field t x i) ty pos af none) v:=Gv.ofEv fun I ρ h=>by
 have h2:=h.ev x
 rw[hx] at h2
 obtain ⟨vs,e,hr⟩:=h2
 obtain ⟨u,hu,hru⟩:=hr.get hv
 exact ⟨u,hru,fun w=>by simp[execOp,e,Instr.field,run_underlying ht,hf,part,ha,hu,asAgg,Result.andThen]⟩
theorem Gv.idxAF {n k j:Nat} {i:Int} {cs cs':List AV} (ht:P.underlying t=some (.array n e)) (hs:∀w,(sizeOf e).run P w=.ok k w) (hx:aT env x=.pf cs) (hy:aT env y=.int .i64 i) (hi:i=(j:Int)) (hj:j<n) (hl:cs.drop (j*k)=cs') :
  Gv P env O (Oper.mk (some d) (.indexAddr t x y) ty pos af none) (.pf cs'):=fun I L E ρ h1 _=>by
 have h2:=h1.ev x
 rw[hx] at h2
 obtain ⟨b,off,vs,ex,h3,h5⟩:=h2
 refine ⟨.pointer (some ⟨b,off+j*k,none⟩),⟨b,_,vs.drop (j*k),rfl,hl▸h3.drop _,fun m u hu=>?_⟩,fun w J L' _ _ _=>?_⟩
 ·rw[List.getElem?_drop] at hu
  have:=h5 _ _ hu
  rwa [←Nat.add_assoc] at this
 ·subst hi
  simp[execOp,ex,fU h1 hy,Instr.indexAt,asIntOf,run_underlying ht,hs,hj,bd,Instr.sureAddr]
theorem Gv.idxAO {n k j id off:Nat} {i:Int} (ht:P.underlying t=some (.array n e)) (hs:∀w,(sizeOf e).run P w=.ok k w) (hx:aT env x=.po id off) (hy:aT env y=.int .i64 i) (hi:i=(j:Int)) (hj:j<n) {r:Nat} (hr:off+j*k=r) :
  Gv P env O (Oper.mk (some d) (.indexAddr t x y) ty pos af none) (.po id r):=fun I L E ρ h1 _=>by
 have h2:=h1.ev x
 rw[hx] at h2
 obtain ⟨b,c,e1,ex⟩:=h2
 refine ⟨.pointer (some ⟨b,r,none⟩),⟨b,c,e1,rfl⟩,fun w J L' _ _ _=>?_⟩
 subst hi hr
 simp[execOp,ex,fU h1 hy,Instr.indexAt,asIntOf,run_underlying ht,hs,hj,bd,Instr.sureAddr]
theorem Gv.indexA {n j k:Nat} {i:Int} {cs l:List AV} (ht:P.underlying t=some (.array n e)) (ha:∀w,(isAgg e).run P w=.ok true w) (hs:∀w,(sizeOf e).run P w=.ok k w) (hx:aT env x=.agg cs) (hy:aT env y=.int .i64 i) (hi:i=(j:Int)) (hj:j<n) (hl:(cs.drop (j*k)).take k=l) :
  Gv P env O (Oper.mk (some d) (.index t x y) ty pos af none) (.agg l):=Gv.ofEv fun I ρ h=>by
 have h2:=h.ev x
 rw[hx] at h2
 obtain ⟨vs,ex,hr⟩:=h2
 refine ⟨.agg ((vs.drop (j*k)).take k).toArray,⟨_,rfl,hl▸(hr.drop _).take _⟩,fun w=>?_⟩
 subst hi
 simp[execOp,ex,fU h hy,Instr.index,asIntOf,run_underlying ht,hj,hs,part,ha,Result.andThen]
theorem Gv.indexT {j:Nat} {i:Int} {s:ByteArray} {c:UInt8} (ht:P.underlying t=some .string) (hx:aT env x=.str s) (hy:aT env y=.int .i64 i) (hi:i=(j:Int)) (hv:s.data[j]?=some c) :
  Gv P env O (Oper.mk (some d) (.index t x y) ty pos af none) (.int .u8 c.toNat):=Gv.ofEv fun I ρ h=>by
 refine ⟨_,rfl,fun w=>?_⟩
 subst hi
 have hj:s[j]?=some c:=by
  have h1:=(Array.getElem?_eq_some_iff.1 hv)
  obtain ⟨h1,h2⟩:=h1
  show (if h:j<s.size then some s[j] else none)=some c
  rw[dif_pos (show j<s.size from h1)];exact congrArg some h2
 simp[execOp,uo h hx,fU h hy,Instr.index,asIntOf,run_underlying ht,hj]
theorem aq.rangeT {s:ByteArray} (ht:P.underlying t=some .string) (hx:aT env x=.str s) (k:∀i,aq P E ops K rest (bp env d (.po i 0)) ((i,.iter s 0)::O)):aq P E ops K (Oper.mk (some d) (.range t x) ty pos af none::rest) env O:=fun I F ρ w h1 h2=>by
 obtain ⟨L,hL,hS⟩:=h2.2
 obtain ⟨i,hi⟩:=h2.name
 refine bq.rangeT ht hS (uo h1 hx) fun b w' hS'=>?_
 obtain ⟨J,e1,hle,e2,htop⟩:=hi (some b,0)
 exact yk (fun _ _=>cG.up hle) _ _ _ (k i J F _ _ ((h1.mono hle).upd d ⟨b,0,e2,rfl⟩) ⟨htop,_,⟨_,L,rfl,⟨b,0,e2,rfl⟩,hL.mono hle⟩,by rw[e1];exact hS'⟩)
theorem aq.nextT {i p:Nat} {s:ByteArray} (hx:aT env x=.po i 0) (hO:ed O i (.iter s p) (.iter s (p+(Utf8.decode s p).2)) O') (hp:p<s.size)
  (k:aq P E ops K rest (bp env d (.tup [.bool true,.int .i64 p,.int .i32 (Utf8.decode s p).1])) O'):aq P E ops K (Oper.mk (some d) (.next x true) ty pos af none::rest) env O:=fun I F ρ w h1 h2=>by
 obtain ⟨ht,L,hL,hS⟩:=h2
 have h3:=h1.ev x
 rw[hx] at h3
 obtain ⟨b,c,e1,e⟩:=h3
 obtain ⟨A,B,hp1,⟨b',c',e2,rfl⟩,hback⟩:=hO.rep hL
 simp only at e2
 rw[e1] at e2
 simp only[Option.some.injEq,Prod.mk.injEq] at e2
 obtain ⟨rfl,rfl⟩:=e2
 have hS2:SL I.k ((b,.stringIter s p)::(B++F)) E w:=hS.perm ((hp1.append_right F).symm)
 refine bq.nextT hS2 e hp fun w' hS'=>?_
 obtain ⟨L',h7,h8⟩:=hback (G.le.refl I) (A':=[(b,.stringIter s (p+(Utf8.decode s p).2))]) ⟨b,c,e1,rfl⟩
 exact k I F _ _ (h1.upd d ⟨[.bool true,.int .i64 p,.int .i32 (Utf8.decode s p).1],rfl,⟨_,_,rfl,rfl,⟨_,_,rfl,rfl,⟨_,_,rfl,rfl,rfl⟩⟩⟩⟩) ⟨ht,L',h7,hS'.perm (h8.append_right F)⟩
theorem aq.nextTover {i p:Nat} {s:ByteArray} (hx:aT env x=.po i 0) (hO:cF O i (.iter s p) O') (hp:¬p<s.size)
  (k:aq P E ops K rest (bp env d (.tup [.bool false])) O):aq P E ops K (Oper.mk (some d) (.next x true) ty pos af none::rest) env O:=fun I F ρ w h1 h2=>by
 obtain ⟨ht,L,hL,hS⟩:=id h2
 have h3:=h1.ev x
 rw[hx] at h3
 obtain ⟨b,c,e1,e⟩:=h3
 obtain ⟨A,B,hp1,⟨b',c',e2,rfl⟩,_⟩:=hO.rep hL
 simp only at e2
 rw[e1] at e2
 simp only[Option.some.injEq,Prod.mk.injEq] at e2
 obtain ⟨rfl,rfl⟩:=e2
 have hS2:SL I.k ((b,.stringIter s p)::(B++F)) E w:=hS.perm (by have:=(hp1.append_right F).symm;simpa using this)
 exact bq.nextTover hS2 e hp (k I F _ _ (h1.upd d ⟨[.bool false],rfl,⟨_,_,rfl,rfl,rfl⟩⟩) h2)
theorem aq.nextA {i p:Nat} {s:ByteArray} {c:UInt8} (hx:aT env x=.po i 0) (hc:s.data[p]?=some c) (hc2:c<128) (hO:ed O i (.iter s p) (.iter s (p+1)) O')
  (k:aq P E ops K rest (bp env d (.tup [.bool true,.int .i64 p,.int .i32 (c.toNat:Int)])) O'):aq P E ops K (Oper.mk (some d) (.next x true) ty pos af none::rest) env O:=by
 have hp:p<s.size:=by
  by_cases hp:p<s.data.size
  ·exact hp
  ·rw[Array.getElem?_eq_none (by omega)] at hc;cases hc
 have hd:=fB hc hc2
 exact aq.nextT hx (by rw[hd];exact hO) hp (by rw[hd];exact k)
end
end
section
open Go.Proofs.Tryz
theorem fX {k:Nat}:∀(xs:List (List AV)) (i:Nat) (pre zs:List AV),(∀x∈xs,x.length=k)→zs.length=xs.length*k→pre.length=i*k →
  eL (fun i=>some (i*k,k)) (pre++zs) ((xs.zipIdx i).map fun p=>(p.2,p.1))=some (pre++xs.flatten)
 |[],i,pre,zs,_,h,_=>by simp at h;subst h;simp[eL]
 |x::xs,i,pre,zs,hk,h,hp=>by
  have hx:=hk x (by simp)
  have e1:Nat.beq x.length k=true:=by rw[hx];exact Nat.beq_refl k
  have e2:Nat.ble (i*k+k) (pre++zs).length=true:=by
   rw[Nat.ble_eq,List.length_append,hp,h,List.length_cons,Nat.add_mul];omega
  simp only[List.zipIdx_cons,List.map_cons,eL,e1,e2,Bool.and_self,cond_true]
  have h1:(pre++zs).take (i*k)=pre:=by rw[←hp];simp
  have h2:(pre++zs).drop (i*k+k)=zs.drop k:=by rw[←hp,List.drop_append];simp
  rw[h1,h2,←List.append_assoc]
  rw[fX xs (i+1) (pre++x) (zs.drop k) (fun y hy=>hk y (by simp[hy])) (by rw[List.length_drop,h,List.length_cons,Nat.add_mul];omega) (by rw[List.length_append,hp,hx,Nat.add_mul];omega)]
  simp
theorem nt {α:Type} {enc:α→List AV} {k:Nat} (hk:∀x,(enc x).length=k):∀(l:List α) (j:Nat) {x:α},l[j]?=some x→((l.flatMap enc).drop (j*k)).take k=enc x
 |[],j,x,h=>by simp at h
 |y::l,0,x,h=>by simp at h;subst h;simp[List.take_append_of_le_length,hk]
 |y::l,j+1,x,h=>by
  simp only[List.getElem?_cons_succ] at h
  rw[←nt hk l j h,List.flatMap_cons,Nat.add_mul,Nat.one_mul,Nat.add_comm,←List.drop_drop]
  congr 2
  rw[←hk y];simp
section
variable {E:World} {P:Program} {env:aE} {O:OL} {d ty:Nat} {pos:String} {af:Array Edge} {t:TypeId}
theorem Gv.buildAF {k:Nat} {zs:List AV} {xs:List (List AV)} {l:List (Nat × Operand)} (hpl:gM P t k zs) (hs:l.all (fun p=>(aT env p.2).sto)=true) (hv:l.map (fun p=>(p.1,(aT env p.2).cs))=(xs.zipIdx 0).map fun p=>(p.2,p.1))
  (hk:xs.all (fun x=>Nat.beq x.length k)=true) (hz:zs.length=xs.length*k):Gv P env O (Oper.mk (some d) (.build t l.toArray) ty pos af none) (.agg xs.flatten):=
 Gv.buildA hpl hs hv (by
  have:=fX xs 0 [] zs (fun x hx=>Nat.eq_of_beq_eq_true (List.all_eq_true.1 hk x hx)) hz (by simp)
  simpa using this)
end
inductive jP:OL→Nat→bi→Nat→bi→OL→Prop
 |head {i o j o' O}:jP ((i,o)::O) i o j o' ((j,o')::O)
 |tail {x O i o j o' O'}:jP O i o j o' O'→jP (x::O) i o j o' (x::O')
theorem jP.rep {I:G} {O O':OL} {i j:Nat} {o o':bi} (h:jP O i o j o' O'):∀{L},bk I O L→∃A B,L.Perm (A++B)∧ic I (i,o) A ∧
  ∀{J:G} {A'},I.le J→ic J (j,o') A'→∃L',bk J O' L'∧L'.Perm (A'++B):=by
 induction h with
 |head=>rintro L ⟨A,B,e,h1,h2⟩;exact ⟨A,B,e▸.refl _,h1,fun {J A'} hl h=>⟨A'++B,⟨A',B,rfl,h,h2.mono hl⟩,.refl _⟩⟩
 |tail h ih=>
  rintro L ⟨A,B,e,h1,h2⟩
  obtain ⟨C,D,hp,h3,h4⟩:=ih h2
  refine ⟨C,A++D,?_,h3,fun {J A'} hl h=>?_⟩
  ·subst e
   refine (hp.append_left A).trans ?_
   rw[←List.append_assoc,←List.append_assoc]
   exact List.perm_append_comm.append_right D
  ·obtain ⟨L',h5,h6⟩:=h4 hl h
   refine ⟨A++L',⟨A,L',rfl,h1.mono hl,h5⟩,?_⟩
   refine (h6.append_left A).trans ?_
   rw[←List.append_assoc,←List.append_assoc]
   exact List.perm_append_comm.append_right D
section
variable {E:World} {P:Program} {ops:Array Oper} {K:aE→OL→Prop} {env:aE} {O O':OL} {rest:List Oper}
variable {d ty:Nat} {pos:String} {af:Array Edge} {x y z:Operand} {t u e:TypeId}
theorem aq.appendS {ti:TypeInfo} {zv:Value} {k n i:Nat} {cs:List AV} {rows:List (List AV)} {f:Nat→OL} (ht:P.underlying t=some (.slice e)) (hi:P.info? e=some ti) (hz:ti.zero=some zv) (hk:ti.size=k) (hzc:zv.cells.size=k)
  (hx:aT env x=.own i n) (hy:aT env y=.fro k rows) (hO:∀j,jP O i (.grow k e cs) j (.grow k e (cs++rows.flatten)) (f j)) (hn:cs.length=n*k) (hk0:0<k) (hc1:rows.flatten.all AV.cell=true) (hb:(n+rows.length)*ti.bytes≤140737488355328) (hb2:n+rows.length≤140737488355328)
  (kk:∀j,aq P E ops K rest (bp env d (.own j (n+rows.length))) (f j)) :
  aq P E ops K (Oper.mk (some d) (.call { callee:=.builtin .append,args:=#[x,y],argTypes:=#[t,t] }) ty pos af none::rest) env O:=fun I F ρ w h1 h2=>by
 obtain ⟨htop,L,hL,hS⟩:=id h2
 have h3:=h1.ev x
 rw[hx] at h3
 obtain ⟨b,cap,e1,ex⟩:=h3
 have h4:=h1.ev y
 rw[hy] at h4
 obtain ⟨sa,m,sc,vs,ey,hm,hvs,hvc,hsrc⟩:=uq h4 hc1
 obtain ⟨j,hj⟩:=h2.name
 obtain ⟨A,B,hp,⟨b',cap',n',us,e2,hus,huc,hown⟩,hback⟩:=(hO j).rep hL
 simp only at e2
 rw[e1] at e2
 simp only[Option.some.injEq,Prod.mk.injEq] at e2
 obtain ⟨rfl,rfl⟩:=e2
 have hnn:n'=n:=by
  have h5:=hown.1
  have h6:=hus.length
  have:n'*k=n*k:=by omega
  exact Nat.eq_of_mul_eq_mul_right hk0 this
 subst hnn
 subst hm
 have hS2:SL I.k (A++(B++F)) E w:=hS.perm (by rw[←List.append_assoc];exact (hp.append_right F).symm)
 refine bq.append ht hi hz hk hzc ex ey hS2 hown (hsrc _) hb hb2 fun a' c' A' w' h5 h6 h7=>?_
 have hb':∃b'',a'=lG b'':=by
  rcases h5.2.2 with ⟨e,_⟩|⟨b'',junk,e,_⟩
  ·exact ⟨none,e⟩
  ·exact ⟨some b'',e⟩
 obtain ⟨b'',rfl⟩:=hb'
 obtain ⟨J,ek,hle,e3,htop'⟩:=hj (b'',c')
 obtain ⟨L',h8,h9⟩:=hback hle (A':=A') ⟨b'',c',_,us++vs,e3,RepL.mono hle _ _ (hus.append hvs),(by
  intro u hu
  rcases List.mem_append.1 hu with hu|hu
  ·exact huc u hu
  ·exact hvc u hu),h5⟩
 exact yk (fun _ _=>cG.up hle) _ _ _ (kk j J F _ _ ((h1.mono hle).upd d ⟨b'',c',e3,rfl⟩) ⟨htop',L',h8,by rw[ek];exact h6.perm (by rw[←List.append_assoc];exact h9.append_right F)⟩)
end
theorem dz {α:Type} {enc:α→List AV} {xs ys:List α} {x:α} (h:ys=xs++[x]):(xs.map enc).flatten++[enc x].flatten=(ys.map enc).flatten:=by subst h;simp
theorem cT {α:Type} {enc:α→List AV} {k:Nat} (hk:∀x,(enc x).length=k) (xs:List α):(xs.map enc).flatten.length=xs.length*k:=by
 rw[lI (k:=k) (by simp[hk]),List.length_map]
end
section
open Go.Proofs.Tryz
theorem wU {I:G} {x v:Value} (h:bu I (lit x) v):v=x:=by cases x<;>exact h
theorem eY {I:G}:∀{xs vs:List Value},RepL I (xs.map lit) vs→vs=xs
 |[],_,h=>h
 |x::xs,_,⟨v,us,e,h1,h2⟩=>by rw[e,wU h1,eY h2]
section
variable {E:World} {P:Program} {env:aE} {O:OL} {d ty:Nat} {pos:String} {af:Array Edge} {x y:Operand} {t u:TypeId}
theorem Gv.eqlP {xs ys:List Value} {r:Bool} (hg:P.eqGuardType P.depth t=false) (hx:aT env x=.agg (xs.map lit)) (hy:aT env y=.agg (ys.map lit)) (hr:∀w,(Op.equalIn 10000 t (.agg xs.toArray) (.agg ys.toArray)).run P w=.ok r w) :
  Gv P env O (Oper.mk (some d) (.binOp .eql t x y u) ty pos af none) (.bool r):=Gv.ofEv fun I ρ h=>by
 have h1:=h.ev x
 have h2:=h.ev y
 rw[hx] at h1
 rw[hy] at h2
 obtain ⟨vs,e1,hv⟩:=h1
 obtain ⟨us,e2,hu⟩:=h2
 rw[eY hv] at e1
 rw[eY hu] at e2
 exact ⟨_,rfl,fun w=>by simp only[execOp,e1,e2];simp[run_eqGuard_agg w .eql t x y xs.toArray ys.toArray hg,run_eql_struct,hr]⟩
theorem Gv.neqP {xs ys:List Value} {r:Bool} (hg:P.eqGuardType P.depth t=false) (hx:aT env x=.agg (xs.map lit)) (hy:aT env y=.agg (ys.map lit)) (hr:∀w,(Op.equalIn 10000 t (.agg xs.toArray) (.agg ys.toArray)).run P w=.ok r w) :
  Gv P env O (Oper.mk (some d) (.binOp .neq t x y u) ty pos af none) (.bool (!r)):=Gv.ofEv fun I ρ h=>by
 have h1:=h.ev x
 have h2:=h.ev y
 rw[hx] at h1
 rw[hy] at h2
 obtain ⟨vs,e1,hv⟩:=h1
 obtain ⟨us,e2,hu⟩:=h2
 rw[eY hv] at e1
 rw[eY hu] at e2
 exact ⟨_,rfl,fun w=>by simp only[execOp,e1,e2];simp[run_eqGuard_agg w .neq t x y xs.toArray ys.toArray hg,run_neq_struct,hr]⟩
end
theorem wv {α:Type} {xs ys:List α} {k:Nat} (h1:k<xs.length) (h2:k<ys.length) (h:¬xs[k]=ys[k]):¬xs=ys:=fun e=>by subst e;exact h rfl
theorem dA {α:Type} {xs ys:List α} {k:Nat} (h1:k<xs.length) (h2:k<ys.length) (he:xs.take k=ys.take k) (h:xs[k]=ys[k]):xs.take (k+1)=ys.take (k+1):=by
 rw[List.take_succ_eq_append_getElem h1,List.take_succ_eq_append_getElem h2,he,h]
theorem dB {α:Type} {xs ys:List α} {k:Nat} (hl:xs.length=ys.length) (hk:xs.length≤k) (he:xs.take k=ys.take k):xs=ys:=by
 rwa [List.take_of_length_le hk,List.take_of_length_le (by omega)] at he
end
section
open Go.Proofs.Tryz
section
variable {E:World} {P:Program} {ops:Array Oper} {K:aE→OL→Prop} {env:aE} {O O':OL} {rest:List Oper}
variable {d ty:Nat} {pos:String} {af:Array Edge} {x y:Operand} {t u e:TypeId}
theorem aq.isNil {k:Nat} {rows:List (List AV)} (ht:P.underlying t=some (.slice e)) (hx:aT env x=.fro k rows) (hy:aT env y=.raw (.slice none 0 0)) (kt:rows=[]→aq P E ops K rest (bp env d (.bool true)) O) (kf:aq P E ops K rest (bp env d (.bool false)) O) :
  aq P E ops K (Oper.mk (some d) (.binOp .eql t x y u) ty pos af none::rest) env O:=fun I F ρ w h1 h2=>by
 have h3:=h1.ev x
 rw[hx] at h3
 obtain ⟨a,n,c,e1,hn,hnc,hnil,_⟩:=h3
 refine bq.eqNilS ht e1 (r7 h1 hy) ?_
 cases a with
 |none=>
  have:rows=[]:=List.eq_nil_of_length_eq_zero (by have:=hnil rfl;omega)
  exact kt this I F _ w (h1.upd d rfl) h2
 |some p=>exact kf I F _ w (h1.upd d rfl) h2
theorem kp {rs:Array ResultVar} {R:AV→OL→Prop} {s k:Nat} {T:TypeId} (hv:env s=.raw (.slice none 0 0)) (h:∀i,bC P E rs R .ret (bp env s (.own i 0)) ((i,.grow k T [])::O)):bC P E rs R .ret env O:=fun I F ρ w h1 h2=>by
 obtain ⟨i,hi⟩:=h2.name
 obtain ⟨J,e1,hle,e2,htop⟩:=hi (none,0)
 obtain ⟨_,L,hL,hS⟩:=h2
 have h3:ρ s=.slice none 0 0:=by have:=h1 s;rw[hv] at this;exact this
 obtain ⟨v,g1,K,x,O',g2,g3⟩:=h i J F ρ w (fun q=>by
  unfold bp
  cases hb:Nat.beq q s with
  |false=>exact bu.mono hle _ _ (h1 q)
  |true=>
   have:q=s:=Nat.eq_of_beq_eq_true hb
   subst this
   exact ⟨none,0,e2,h3⟩) ⟨htop,_,⟨[],L,rfl,⟨none,0,0,[],e2,rfl,by simp,fj.nil k T⟩,hL.mono hle⟩,by rw[e1];exact hS⟩
 exact ⟨v,g1,K,x,O',hle.trans g2,g3⟩
end
theorem Left.refl (O:OL):Left O O:=⟨O,.refl _,rfl⟩
end
section
open Go.Proofs.Tryz
section
variable {E:World} {P:Program} {ops:Array Oper} {K:aE→OL→Prop} {env:aE} {O O':OL} {rest:List Oper}
variable {d ty:Nat} {pos:String} {af:Array Edge} {x y:Operand} {t u e:TypeId}
theorem q3 {k:Nat} {zs:List AV} {xs:List (List AV)} (hk:xs.all (fun x=>Nat.beq x.length k)=true) (hz:zs.length=xs.length*k):eL (fun i=>some (i*k,k)) zs ((xs.zipIdx 0).map fun p=>(p.2,p.1))=some xs.flatten:=by
 have:=fX xs 0 [] zs (fun x hx=>Nat.eq_of_beq_eq_true (List.all_eq_true.1 hk x hx)) hz (by simp)
 simpa using this
theorem aq.buildSliceFF {n k:Nat} {zs:List AV} {rows:List (List AV)} {l:List (Nat × Operand)} (hpl:dg P t e n k zs) (hs:l.all (fun p=>(aT env p.2).sto)=true) (hv:l.map (fun p=>(p.1,(aT env p.2).cs))=(rows.zipIdx 0).map fun p=>(p.2,p.1))
  (hk:rows.all (fun r=>Nat.beq r.length k)=true) (hn:rows.length=n) (hz:zs.length=n*k) (kk:aq P E ops K rest (bp env d (.fro k rows)) O) :
  aq P E ops K (Oper.mk (some d) (.buildSlice t n l.toArray) ty pos af none::rest) env O:=
 aq.buildSliceF hpl hs hv (q3 hk (by rw[hz,hn])) rfl hk hn kk
end
theorem SL.belowE {I:aF} {O:List (Nat × Obj)} {E w:World} (hS:SL I O E w):Go.RowKit.Below E.heap.size E w:=by
 have key:∀k,k<E.heap.size→w.heap[k]?=E.heap[k]?:=fun k hk=>by
  have h1:E.heap[k]?=some E.heap[k]:=Array.getElem?_eq_getElem hk
  rw[h1]
  exact hS.pers _ _ (hS.base k _ h1)
 refine ⟨hS.os,hS.tape,hS.output,?_,key⟩
 rcases Nat.lt_or_ge w.heap.size E.heap.size with h|h
 ·have:=key w.heap.size h
  rw[Array.getElem?_eq_none (Nat.le_refl _),Array.getElem?_eq_getElem h] at this
  cases this
 ·exact h
theorem aQ.ofBelow {E:World} {P:Program} {f:FuncId} {fn:Func} {c:Code} {as0:List AV} {vs:List Value} {r:Value} (hf:P.funcs[f]?=some fn) (hb:fn.body=some c) (hn:fn.name≠"runtime.NumGoroutine") (has:as0=vs.map lit)
  (h:∀w,Go.RowKit.Below E.heap.size E w→Calls P f vs.toArray w fun e w'=>e=.returned r∧Go.RowKit.Below w.heap.size w w'):aQ P E f as0 (lit r):=fun I F w us h1 h2=>by
 subst has
 rw[eY h1]
 obtain ⟨ht,L,hL,hS⟩:=h2
 have hL:L=[]:=hL
 subst hL
 refine Fn.ofCalls hf hb hn ?_
 exact (h w hS.belowE).mono fun e w' ⟨he,hw⟩=>⟨_,he,I,lit r,[],.refl _,nr I r,⟨ht,[],rfl,hS.below hw⟩,rfl⟩
end
section
open Go.Proofs.Tryz
open Go.Proofs
theorem bN:fV prog 155 #[(0,1),(1,1),(2,1)] [.str ⟨#[]⟩,.str ⟨#[]⟩,.str ⟨#[]⟩]:=⟨_,_,underlying155,zeroValue155,fun w=>by kernel_rfl,rfl⟩
theorem xJ:gM prog 165 3 [.str ⟨#[]⟩,.str ⟨#[]⟩,.str ⟨#[]⟩,.str ⟨#[]⟩,.str ⟨#[]⟩,.str ⟨#[]⟩,.str ⟨#[]⟩,.str ⟨#[]⟩,.str ⟨#[]⟩,.str ⟨#[]⟩,.str ⟨#[]⟩,.str ⟨#[]⟩,.str ⟨#[]⟩,.str ⟨#[]⟩,.str ⟨#[]⟩,.str ⟨#[]⟩,.str ⟨#[]⟩,.str ⟨#[]⟩,.str ⟨#[]⟩,.str ⟨#[]⟩,.str ⟨#[]⟩,.str ⟨#[]⟩,.str ⟨#[]⟩,.str ⟨#[]⟩,.str ⟨#[]⟩,.str ⟨#[]⟩,.str ⟨#[]⟩,.str ⟨#[]⟩,.str ⟨#[]⟩,.str ⟨#[]⟩,.str ⟨#[]⟩,.str ⟨#[]⟩,.str ⟨#[]⟩,.str ⟨#[]⟩,.str ⟨#[]⟩,.str ⟨#[]⟩,.str ⟨#[]⟩,.str ⟨#[]⟩,.str ⟨#[]⟩,.str ⟨#[]⟩,.str ⟨#[]⟩,.str ⟨#[]⟩,.str ⟨#[]⟩,.str ⟨#[]⟩,.str ⟨#[]⟩,.str ⟨#[]⟩,.str ⟨#[]⟩,.str ⟨#[]⟩,.str ⟨#[]⟩,.str ⟨#[]⟩,.str ⟨#[]⟩,.str ⟨#[]⟩,.str ⟨#[]⟩,.str ⟨#[]⟩,.str ⟨#[]⟩,.str ⟨#[]⟩,.str ⟨#[]⟩,.str ⟨#[]⟩,.str ⟨#[]⟩,.str ⟨#[]⟩,.str ⟨#[]⟩,.str ⟨#[]⟩,.str ⟨#[]⟩,.str ⟨#[]⟩,.str ⟨#[]⟩,.str ⟨#[]⟩,.str ⟨#[]⟩,.str ⟨#[]⟩,.str ⟨#[]⟩,.str ⟨#[]⟩,.str ⟨#[]⟩,.str ⟨#[]⟩,.str ⟨#[]⟩,.str ⟨#[]⟩,.str ⟨#[]⟩,.str ⟨#[]⟩,.str ⟨#[]⟩,.str ⟨#[]⟩,.str ⟨#[]⟩,.str ⟨#[]⟩,.str ⟨#[]⟩]:=⟨_,_,_,underlying165,zeroValue165,sizeOf155,rfl⟩
variable {E:World}
set_option maxRecDepth 20000
def dn:List (ByteArray × ByteArray × ByteArray):=[(⟨#[99,111,110,115,116]⟩,⟨#[]⟩,⟨#[105]⟩),
 (⟨#[99,111,112,121]⟩,⟨#[105]⟩,⟨#[105]⟩),
 (⟨#[97,100,100]⟩,⟨#[105,105]⟩,⟨#[105]⟩),
 (⟨#[115,117,98]⟩,⟨#[105,105]⟩,⟨#[105]⟩),
 (⟨#[109,117,108]⟩,⟨#[105,105]⟩,⟨#[105]⟩),
 (⟨#[100,105,118]⟩,⟨#[105,105]⟩,⟨#[105]⟩),
 (⟨#[114,101,109]⟩,⟨#[105,105]⟩,⟨#[105]⟩),
 (⟨#[101,113]⟩,⟨#[105,105]⟩,⟨#[98]⟩),
 (⟨#[108,116]⟩,⟨#[105,105]⟩,⟨#[98]⟩),
 (⟨#[108,101]⟩,⟨#[105,105]⟩,⟨#[98]⟩),
 (⟨#[110,111,116]⟩,⟨#[98]⟩,⟨#[98]⟩),
 (⟨#[97,110,100]⟩,⟨#[98,98]⟩,⟨#[98]⟩),
 (⟨#[108,101,110]⟩,⟨#[97]⟩,⟨#[105]⟩),
 (⟨#[108,111,97,100]⟩,⟨#[97,105]⟩,⟨#[105]⟩),
 (⟨#[115,116,111,114,101]⟩,⟨#[97,105,105]⟩,⟨#[]⟩),
 (⟨#[110,101,119]⟩,⟨#[105]⟩,⟨#[97]⟩),
 (⟨#[110,105,108]⟩,⟨#[]⟩,⟨#[97]⟩),
 (⟨#[111,117,116]⟩,⟨#[105]⟩,⟨#[]⟩),
 (⟨#[99,104,107,105,100,120]⟩,⟨#[97,105]⟩,⟨#[]⟩),
 (⟨#[99,104,107,110,105,108]⟩,⟨#[97]⟩,⟨#[]⟩),
 (⟨#[99,104,107,100,105,118]⟩,⟨#[105]⟩,⟨#[]⟩),
 (⟨#[99,104,107,97,100,100]⟩,⟨#[105,105]⟩,⟨#[]⟩),
 (⟨#[99,104,107,115,117,98]⟩,⟨#[105,105]⟩,⟨#[]⟩),
 (⟨#[99,104,107,109,117,108]⟩,⟨#[105,105]⟩,⟨#[]⟩),
 (⟨#[99,104,107,108,101,110]⟩,⟨#[105]⟩,⟨#[]⟩),
 (⟨#[112,105]⟩,⟨#[105,105]⟩,⟨#[105]⟩),
 (⟨#[112,105,108,101,110]⟩,⟨#[105,97]⟩,⟨#[105]⟩)]
def bf (op:Int):ByteArray × ByteArray × ByteArray:=if 0≤op then dn[op.toNat]?.getD (⟨#[]⟩,⟨#[]⟩,⟨#[]⟩) else (⟨#[]⟩,⟨#[]⟩,⟨#[]⟩)
def jX (op:Int):Bool:=decide (0≤op)&&decide (op<27)
def jY (r:ByteArray × ByteArray × ByteArray):List AV:=[.str r.1,.str r.2.1,.str r.2.2]
theorem ur (op:Int):aQ prog E 92 [.int .i64 op] (.bool (jX op)):=by
 refine bx.intro func92 rfl (by decide) rfl ?_
 refine za ?_
 refine zp rfl ?_
 refine z8 (zr (v:=.bool _) rfl) ?_
 refine z7 ?_
 refine za ?_
 refine zp rfl ?_
 refine z8 (zw (v:=.int _ _) rfl) ?_
 refine z8 (Gv.geq rfl rfl) ?_
 refine z8 (zw (v:=.bool _) rfl) ?_
 refine zi (s:=5) rfl (fun c1=>?_) (fun c1=>?_)
 ·refine z6 rfl rfl c1 ?_
  refine z8 (zw (v:=.int _ _) rfl) ?_
  refine z6 rfl rfl c1 ?_
  refine z8 (Gv.lss rfl rfl) ?_
  refine z8 (Gv.pickT (v:=.bool _) rfl c1 rfl) ?_
  refine z8 (zr (v:=.bool _) rfl) ?_
  refine z7 ?_
  refine zd ?_
  repeat (first|refine aS ?_|refine aM ?_)
  refine bC.t1 (x:=.bool _) rfl ?_
  simp_all[jX]<;>omega
 ·refine z2 rfl rfl c1 ?_
  refine z2 rfl rfl c1 ?_
  refine z8 (Gv.pickF (v:=.bool _) rfl c1 rfl) ?_
  refine z8 (zr (v:=.bool _) rfl) ?_
  refine z7 ?_
  refine zd ?_
  repeat (first|refine aS ?_|refine aM ?_)
  refine bC.t1 (x:=.bool _) rfl ?_
  simp_all[jX]<;>omega
set_option maxHeartbeats 4000000 in
theorem mA:aQ prog E 93 [] (.agg (dn.flatMap jY)):=by
 refine bx.intro func93 rfl (by decide) rfl ?_
 refine za ?_
 refine zp rfl ?_
 refine aq.alloc (cs:=[.str ⟨#[]⟩,.str ⟨#[]⟩,.str ⟨#[]⟩,.str ⟨#[]⟩,.str ⟨#[]⟩,.str ⟨#[]⟩,.str ⟨#[]⟩,.str ⟨#[]⟩,.str ⟨#[]⟩,.str ⟨#[]⟩,.str ⟨#[]⟩,.str ⟨#[]⟩,.str ⟨#[]⟩,.str ⟨#[]⟩,.str ⟨#[]⟩,.str ⟨#[]⟩,.str ⟨#[]⟩,.str ⟨#[]⟩,.str ⟨#[]⟩,.str ⟨#[]⟩,.str ⟨#[]⟩,.str ⟨#[]⟩,.str ⟨#[]⟩,.str ⟨#[]⟩,.str ⟨#[]⟩,.str ⟨#[]⟩,.str ⟨#[]⟩,.str ⟨#[]⟩,.str ⟨#[]⟩,.str ⟨#[]⟩,.str ⟨#[]⟩,.str ⟨#[]⟩,.str ⟨#[]⟩,.str ⟨#[]⟩,.str ⟨#[]⟩,.str ⟨#[]⟩,.str ⟨#[]⟩,.str ⟨#[]⟩,.str ⟨#[]⟩,.str ⟨#[]⟩,.str ⟨#[]⟩,.str ⟨#[]⟩,.str ⟨#[]⟩,.str ⟨#[]⟩,.str ⟨#[]⟩,.str ⟨#[]⟩,.str ⟨#[]⟩,.str ⟨#[]⟩,.str ⟨#[]⟩,.str ⟨#[]⟩,.str ⟨#[]⟩,.str ⟨#[]⟩,.str ⟨#[]⟩,.str ⟨#[]⟩,.str ⟨#[]⟩,.str ⟨#[]⟩,.str ⟨#[]⟩,.str ⟨#[]⟩,.str ⟨#[]⟩,.str ⟨#[]⟩,.str ⟨#[]⟩,.str ⟨#[]⟩,.str ⟨#[]⟩,.str ⟨#[]⟩,.str ⟨#[]⟩,.str ⟨#[]⟩,.str ⟨#[]⟩,.str ⟨#[]⟩,.str ⟨#[]⟩,.str ⟨#[]⟩,.str ⟨#[]⟩,.str ⟨#[]⟩,.str ⟨#[]⟩,.str ⟨#[]⟩,.str ⟨#[]⟩,.str ⟨#[]⟩,.str ⟨#[]⟩,.str ⟨#[]⟩,.str ⟨#[]⟩,.str ⟨#[]⟩,.str ⟨#[]⟩]) zeroValue165 rfl rfl ?_
 intro i0
 refine z7 ?_
 refine za ?_
 refine zp rfl ?_
 refine z8 (Gv.build (cps:=[(0,[_]),(1,[_]),(2,[_])]) (rs:=[_,_,_]) bN rfl rfl rfl) ?_
 refine z8 (Gv.build (cps:=[(0,[_]),(1,[_]),(2,[_])]) (rs:=[_,_,_]) bN rfl rfl rfl) ?_
 refine z8 (Gv.build (cps:=[(0,[_]),(1,[_]),(2,[_])]) (rs:=[_,_,_]) bN rfl rfl rfl) ?_
 refine z8 (Gv.build (cps:=[(0,[_]),(1,[_]),(2,[_])]) (rs:=[_,_,_]) bN rfl rfl rfl) ?_
 refine z8 (Gv.build (cps:=[(0,[_]),(1,[_]),(2,[_])]) (rs:=[_,_,_]) bN rfl rfl rfl) ?_
 refine z8 (Gv.build (cps:=[(0,[_]),(1,[_]),(2,[_])]) (rs:=[_,_,_]) bN rfl rfl rfl) ?_
 refine z8 (Gv.build (cps:=[(0,[_]),(1,[_]),(2,[_])]) (rs:=[_,_,_]) bN rfl rfl rfl) ?_
 refine z8 (Gv.build (cps:=[(0,[_]),(1,[_]),(2,[_])]) (rs:=[_,_,_]) bN rfl rfl rfl) ?_
 refine z8 (Gv.build (cps:=[(0,[_]),(1,[_]),(2,[_])]) (rs:=[_,_,_]) bN rfl rfl rfl) ?_
 refine z8 (Gv.build (cps:=[(0,[_]),(1,[_]),(2,[_])]) (rs:=[_,_,_]) bN rfl rfl rfl) ?_
 refine z8 (Gv.build (cps:=[(0,[_]),(1,[_]),(2,[_])]) (rs:=[_,_,_]) bN rfl rfl rfl) ?_
 refine z8 (Gv.build (cps:=[(0,[_]),(1,[_]),(2,[_])]) (rs:=[_,_,_]) bN rfl rfl rfl) ?_
 refine z8 (Gv.build (cps:=[(0,[_]),(1,[_]),(2,[_])]) (rs:=[_,_,_]) bN rfl rfl rfl) ?_
 refine z8 (Gv.build (cps:=[(0,[_]),(1,[_]),(2,[_])]) (rs:=[_,_,_]) bN rfl rfl rfl) ?_
 refine z8 (Gv.build (cps:=[(0,[_]),(1,[_]),(2,[_])]) (rs:=[_,_,_]) bN rfl rfl rfl) ?_
 refine z8 (Gv.build (cps:=[(0,[_]),(1,[_]),(2,[_])]) (rs:=[_,_,_]) bN rfl rfl rfl) ?_
 refine z8 (Gv.build (cps:=[(0,[_]),(1,[_]),(2,[_])]) (rs:=[_,_,_]) bN rfl rfl rfl) ?_
 refine z8 (Gv.build (cps:=[(0,[_]),(1,[_]),(2,[_])]) (rs:=[_,_,_]) bN rfl rfl rfl) ?_
 refine z8 (Gv.build (cps:=[(0,[_]),(1,[_]),(2,[_])]) (rs:=[_,_,_]) bN rfl rfl rfl) ?_
 refine z8 (Gv.build (cps:=[(0,[_]),(1,[_]),(2,[_])]) (rs:=[_,_,_]) bN rfl rfl rfl) ?_
 refine z8 (Gv.build (cps:=[(0,[_]),(1,[_]),(2,[_])]) (rs:=[_,_,_]) bN rfl rfl rfl) ?_
 refine z8 (Gv.build (cps:=[(0,[_]),(1,[_]),(2,[_])]) (rs:=[_,_,_]) bN rfl rfl rfl) ?_
 refine z8 (Gv.build (cps:=[(0,[_]),(1,[_]),(2,[_])]) (rs:=[_,_,_]) bN rfl rfl rfl) ?_
 refine z8 (Gv.build (cps:=[(0,[_]),(1,[_]),(2,[_])]) (rs:=[_,_,_]) bN rfl rfl rfl) ?_
 refine z8 (Gv.build (cps:=[(0,[_]),(1,[_]),(2,[_])]) (rs:=[_,_,_]) bN rfl rfl rfl) ?_
 refine z8 (Gv.build (cps:=[(0,[_]),(1,[_]),(2,[_])]) (rs:=[_,_,_]) bN rfl rfl rfl) ?_
 refine z8 (Gv.build (cps:=[(0,[_]),(1,[_]),(2,[_])]) (rs:=[_,_,_]) bN rfl rfl rfl) ?_
 refine z8 (Gv.buildAF (xs:=[[_,_,_],[_,_,_],[_,_,_],[_,_,_],[_,_,_],[_,_,_],[_,_,_],[_,_,_],[_,_,_],[_,_,_],[_,_,_],[_,_,_],[_,_,_],[_,_,_],[_,_,_],[_,_,_],[_,_,_],[_,_,_],[_,_,_],[_,_,_],[_,_,_],[_,_,_],[_,_,_],[_,_,_],[_,_,_],[_,_,_],[_,_,_]]) xJ rfl rfl rfl rfl) ?_
 refine aq.storeW sizeOf165 rfl rfl rfl rfl rfl rfl .head rfl ?_
 refine z7 ?_
 refine zd ?_
 repeat (first|refine aS ?_|refine aM ?_)
 refine bC.c1 rfl ⟨_,.head⟩ isAgg165 sizeOf165 rfl ?_
 rfl
theorem lK {op:Int} (h:jX op=false):bf op=(⟨#[]⟩,⟨#[]⟩,⟨#[]⟩):=by
 unfold jX at h
 unfold bf
 split
 ·rename_i h0
  have:¬op<27:=by simpa [h0] using h
  rw[List.getElem?_eq_none (by show 27≤_;omega)];rfl
 ·rfl
theorem ut {op:Int} (h:jX op=true):∃j:Nat,op=(j:Int)∧j<27∧((dn.flatMap jY).drop (j*3)).take 3=jY (bf op):=by
 unfold jX at h
 simp at h
 obtain ⟨j,rfl⟩:∃j:Nat,op=j:=⟨op.toNat,by omega⟩
 have hj:j<27:=by omega
 refine ⟨j,rfl,hj,nt (enc:=jY) (k:=3) (fun _=>rfl) _ _ ?_⟩
 unfold bf
 rw[if_pos h.1,Int.toNat_natCast,List.getElem?_eq_getElem (show j<dn.length from hj)];rfl
theorem gN (op:Int):aQ prog E 80 [.int .i64 op] (.agg (jY (bf op))):=by
 refine bx.intro func80 rfl (by decide) rfl ?_
 refine za ?_
 refine zp rfl ?_
 refine aq.alloc (cs:=[.str ⟨#[]⟩,.str ⟨#[]⟩,.str ⟨#[]⟩]) zeroValue155 rfl rfl ?_
 intro i2
 refine z7 ?_
 refine za ?_
 refine za ?_
 refine zp rfl ?_
 refine z8 (zw (v:=.int _ _) rfl) ?_
 refine aq.callP (ur _) rfl ?_
 refine z8 (Gv.not rfl) ?_
 refine z7 ?_
 refine zn rfl (fun c=>?_) (fun c=>?_)
 ·have c:jX op=false:=by simpa using c
  rw[lK c]
  refine za ?_
  refine zp rfl ?_
  refine z8 (Gv.build (cps:=[]) (rs:=[.str ⟨#[]⟩,.str ⟨#[]⟩,.str ⟨#[]⟩]) bN rfl rfl rfl) ?_
  refine aq.storeW sizeOf155 rfl rfl rfl rfl rfl rfl .head rfl ?_
  refine z7 ?_
  refine zd ?_
  repeat (first|refine aS ?_|refine aM ?_)
  refine bC.c1 rfl ⟨_,.head⟩ isAgg155 sizeOf155 rfl ?_
  rfl
 ·have c:jX op=true:=by simpa using c
  obtain ⟨j,hj1,hj2,hj3⟩:=ut c
  refine ze ?_
  refine za ?_
  refine zp rfl ?_
  refine aq.callP (mA) rfl ?_
  refine z8 (zw (v:=.int _ _) rfl) ?_
  refine z8 (Gv.indexA underlying165 isAgg155 sizeOf155 rfl rfl hj1 hj2 hj3) ?_
  refine aq.storeW sizeOf155 rfl rfl rfl rfl rfl rfl .head rfl ?_
  refine z7 ?_
  refine zd ?_
  repeat (first|refine aS ?_|refine aM ?_)
  refine bC.c1 rfl ⟨_,.head⟩ isAgg155 sizeOf155 rfl ?_
  rfl
theorem q4 (op:Int):aQ prog E 77 [.int .i64 op] (.str (bf op).1):=by
 refine bx.intro func77 rfl (by decide) rfl ?_
 refine za ?_
 refine zp rfl ?_
 refine z8 (zr (v:=.str _) rfl) ?_
 refine z7 ?_
 refine za ?_
 refine zp rfl ?_
 refine z8 (zw (v:=.int _ _) rfl) ?_
 refine aq.callP (gN _) rfl ?_
 refine z8 (Gv.field1 (v:=.str _) underlying155 rfl isAgg9 rfl rfl) ?_
 refine z8 (zr (v:=.str _) rfl) ?_
 refine z7 ?_
 refine zd ?_
 repeat (first|refine aS ?_|refine aM ?_)
 refine bC.t1 (x:=.str _) rfl ?_
 rfl
def ij (op:Int):Bool:=decide (op=0)||decide (op=25)
theorem dh (op:Int):aQ prog E 78 [.int .i64 op] (.bool (ij op)):=by
 refine bx.intro func78 rfl (by decide) rfl ?_
 refine za ?_
 refine zp rfl ?_
 refine z8 (zr (v:=.bool _) rfl) ?_
 refine z7 ?_
 refine za ?_
 refine zp rfl ?_
 refine z8 (zw (v:=.int _ _) rfl) ?_
 refine z8 (Gv.eqlI rfl rfl) ?_
 refine z8 (zw (v:=.bool _) rfl) ?_
 refine zi (s:=5) rfl (fun c2=>?_) (fun c2=>?_)
 ·refine z2 rfl rfl c2 ?_
  refine z2 rfl rfl c2 ?_
  refine z8 (Gv.pickT (v:=.bool _) rfl c2 rfl) ?_
  refine z8 (zr (v:=.bool _) rfl) ?_
  refine z7 ?_
  refine zd ?_
  repeat (first|refine aS ?_|refine aM ?_)
  refine bC.t1 (x:=.bool _) rfl ?_
  simp_all[ij]
 ·refine z6 rfl rfl c2 ?_
  refine z8 (zw (v:=.int _ _) rfl) ?_
  refine z6 rfl rfl c2 ?_
  refine z8 (Gv.eqlI rfl rfl) ?_
  refine z8 (Gv.pickF (v:=.bool _) rfl c2 rfl) ?_
  refine z8 (zr (v:=.bool _) rfl) ?_
  refine z7 ?_
  refine zd ?_
  repeat (first|refine aS ?_|refine aM ?_)
  refine bC.t1 (x:=.bool _) rfl ?_
  simp_all[ij]
def bW (c:Int):Int:=if c=98 then 1 else if c=97 then 2 else 0
theorem il (c:Int):aQ prog E 81 [.int .i32 c] (.int .i64 (bW c)):=by
 refine bx.intro func81 rfl (by decide) rfl ?_
 refine za ?_
 refine zp rfl ?_
 refine z8 (zr (v:=.int _ _) rfl) ?_
 refine z7 ?_
 refine za ?_
 refine za ?_
 refine zp rfl ?_
 refine z8 (zw (v:=.int _ _) rfl) ?_
 refine z7 ?_
 refine zh ?_
 refine za ?_
 refine zp rfl ?_
 refine z8 (Gv.eqlI rfl rfl) ?_
 refine z8 (zr (v:=.bool _) rfl) ?_
 refine z7 ?_
 refine zn rfl (fun c3=>?_) (fun c3=>?_)
 ·refine za ?_
  refine zp rfl ?_
  refine z8 (zr (v:=.int _ _) rfl) ?_
  refine z7 ?_
  refine zd ?_
  repeat (first|refine aS ?_|refine aM ?_)
  refine bC.t1 (x:=.int _ _) rfl ?_
  simp_all[bW]
 ·refine za ?_
  refine zp rfl ?_
  refine z8 (Gv.eqlI rfl rfl) ?_
  refine z8 (zr (v:=.bool _) rfl) ?_
  refine z7 ?_
  refine zn rfl (fun c4=>?_) (fun c4=>?_)
  ·refine za ?_
   refine zp rfl ?_
   refine z8 (zr (v:=.int _ _) rfl) ?_
   refine z7 ?_
   refine zd ?_
   repeat (first|refine aS ?_|refine aM ?_)
   refine bC.t1 (x:=.int _ _) rfl ?_
   simp_all[bW]
  ·refine ze ?_
   refine za ?_
   refine zp rfl ?_
   refine z8 (zr (v:=.int _ _) rfl) ?_
   refine z7 ?_
   refine zd ?_
   repeat (first|refine aS ?_|refine aM ?_)
   refine bC.t1 (x:=.int _ _) rfl ?_
   simp_all[bW]
theorem sb:∀r∈dn,(∀b∈r.2.1.data.toList,b<128)∧(∀b∈r.2.2.data.toList,b<128):=by decide
theorem im (op:Int):bf op=(⟨#[]⟩,⟨#[]⟩,⟨#[]⟩)∨bf op∈dn:=by
 unfold bf
 split
 ·cases h:dn[op.toNat]? with
  |none=>exact .inl rfl
  |some r=>exact .inr (List.mem_of_getElem? h)
 ·exact .inl rfl
theorem io (op:Int):(∀b∈(bf op).2.1.data.toList,b<128)∧(∀b∈(bf op).2.2.data.toList,b<128):=by
 rcases im op with h|h
 ·rw[h];simp
 ·exact sb _ h
def aV (op:Int):List Int:=(bf op).2.1.data.toList.map fun b=>bW b.toNat
def fm (op:Int):Int:=((bf op).2.2.data.toList.head?.map fun b=>bW b.toNat).getD 0
def cf (op:Int):Bool:=!(bf op).2.2.data.toList.isEmpty
end
section
open Go.Proofs.Tryz
open Go.Proofs
theorem uu:dg prog 119 71 1 1 [.int .i64 0]:=⟨_,underlying119,sizeOf71,zeroValue71,by decide,by decide,by kernel_rfl⟩
variable {E:World}
set_option maxRecDepth 20000
structure fY where
 name:ByteArray
 ty:Int
deriving DecidableEq
structure dv where
 dst:Int
 args:List Int
 from_:List Int
deriving DecidableEq
structure aN where
 op:Int
 dst:Int
 args:List Int
 num:Int
deriving DecidableEq
structure fE where
 kind:Int
 var:Int
 to0:Int
 to1:Int
deriving DecidableEq
structure aC where
 name:ByteArray
 phis:List dv
 insts:List aN
 term:fE
deriving DecidableEq
structure ap where
 vars:List fY
 params:List Int
 blocks:List aC
deriving DecidableEq
def bX (x:Int):List AV:=[.int .i64 x]
def bz (v:fY):List AV:=[.str v.name,.int .i64 v.ty]
def bm (p:dv):List AV:=[.int .i64 p.dst,.fro 1 (p.args.map bX),.fro 1 (p.from_.map bX)]
def aW (x:aN):List AV:=[.int .i64 x.op,.int .i64 x.dst,.fro 1 (x.args.map bX),.int .i64 x.num]
def kM (t:fE):List AV:=[.int .i64 t.kind,.int .i64 t.var,.int .i64 t.to0,.int .i64 t.to1]
def aO (b:aC):List AV:=[.str b.name,.fro 3 (b.phis.map bm),.fro 4 (b.insts.map aW),.int .i64 b.term.kind,.int .i64 b.term.var,.int .i64 b.term.to0,.int .i64 b.term.to1]
def bP (f:ap):List AV:=[.fro 2 (f.vars.map bz),.fro 1 (f.params.map bX),.fro 7 (f.blocks.map aO)]
theorem iq (op:Int):aQ prog E 63 [.int .i64 op] (.fro 1 ((aV op).map bX)):=by
 obtain ⟨hasc,_⟩:=io op
 have hl:(aV op).length=(bf op).2.1.size:=by unfold aV;rw[List.length_map];exact Array.length_toList
 have hlen:(aV op).length≤3:=by
  rcases im op with h|h
  ·unfold aV;rw[h];decide
  ·have:∀r∈dn,r.2.1.data.toList.length≤3:=by decide
   have:=this _ h
   unfold aV;simpa using this
 refine bx.intro func63 rfl (by decide) rfl ?_
 refine za ?_
 refine zp rfl ?_
 refine z8 (zr (v:=.raw _) rfl) ?_
 refine z7 ?_
 refine za ?_
 refine zp rfl ?_
 refine z8 (zr (v:=.raw _) rfl) ?_
 refine z7 ?_
 refine eM (t:=3) (k:=1) (T:=71) rfl ?_
 intro i3
 refine za ?_
 refine za ?_
 refine zp rfl ?_
 refine z8 (zw (v:=.int _ _) rfl) ?_
 refine aq.callP (gN _) rfl ?_
 refine z8 (Gv.field1 (v:=.str _) underlying155 rfl isAgg9 rfl rfl) ?_
 refine aq.rangeT underlying9 rfl ?_
 intro i9
 refine z7 ?_
 refine zh ?_
 refine zt (γ:=Nat × Nat) [9] (fun g=>[(3,.own g.2 g.1)]) (fun g=>[(i9,.iter (bf op).2.1 g.1),(g.2,.grow 1 71 (((aV op).take g.1).map bX).flatten)]) (fun g=>g.1≤(aV op).length) (fun g=>(aV op).length - g.1) (0,i3) ⟨rfl,trivial⟩ ⟨_,(.refl _),rfl⟩ (Nat.zero_le _) ?_
 rintro ⟨p,i⟩ hp
 try dsimp only at *
 try simp only at hp
 by_cases hlt:p<(aV op).length
 ·have hb:p<(bf op).2.1.data.toList.length:=by rw[hl] at hlt;exact hlt
  have hg:(bf op).2.1.data[p]?=some (bf op).2.1.data.toList[p]:=by rw[Array.getElem_toList];exact Array.getElem?_eq_getElem hb
  refine za ?_
  refine zp rfl ?_
  refine aq.nextA rfl hg (hasc _ (List.getElem_mem hb)) .head ?_
  refine z8 (yr (v:=.bool _) rfl rfl) ?_
  refine z7 ?_
  refine za ?_
  refine y9 rfl rfl ?_
  have ht:(aV op).take (p+1)=(aV op).take p++[bW ((bf op).2.1.data.toList[p]).toNat]:=by
   rw[List.take_succ_eq_append_getElem hlt]
   have:(aV op)[p]=bW ((bf op).2.1.data.toList[p]).toNat:=List.getElem_map _
   rw[this]
  refine ze ?_
  refine zh ?_
  refine za ?_
  refine zp rfl ?_
  refine z8 (yr (v:=.int _ _) rfl rfl) ?_
  refine z8 (zr (v:=.int _ _) rfl) ?_
  refine z7 ?_
  refine zp rfl ?_
  refine z8 (zw (v:=.own _ _) rfl) ?_
  refine z8 (zw (v:=.int _ _) rfl) ?_
  refine aq.callP (il _) rfl ?_
  refine aq.buildSliceFF (rows:=[[_]]) uu rfl rfl rfl rfl rfl ?_
  refine aq.appendS (k:=1) underlying119 type71 rfl rfl rfl rfl rfl (fun _=>(.tail .head)) (by rw[cT (k:=1) (fun _=>rfl),List.length_take,Nat.min_eq_left hp]) (by decide) rfl (by show (_+_)*8≤_;simp<;>omega) (by simp<;>omega) ?_
  intro i17
  refine z8 (zr (v:=.own _ _) rfl) ?_
  refine z7 ?_
  exact ⟨(p+1,i17),⟨rfl,trivial⟩,⟨rfl,trivial⟩,⟨_,(.refl _),by rw[←dz ht];rfl⟩,hlt,by simp only;omega⟩
 ·refine za ?_
  refine zp rfl ?_
  refine aq.nextTover rfl .head (by rw[←hl];exact hlt) ?_
  refine z8 (yr (v:=.bool _) rfl rfl) ?_
  refine z7 ?_
  refine za ?_
  refine y7 rfl rfl ?_
  have hkn:p=(aV op).length:=by omega
  subst hkn
  rw[List.take_length]
  refine zu ?_
  refine za ?_
  refine zp rfl ?_
  refine z8 (zw (v:=.own _ _) rfl) ?_
  refine z8 (zr (v:=.own _ _) rfl) ?_
  refine z7 ?_
  refine zd ?_
  repeat (first|refine aS ?_|refine aM ?_)
  refine bt.fin (bt.know (t:=2) (rows:=(aV op).map bX) rfl (.tail .head) (by first|(intro r hr;obtain ⟨x,_,rfl⟩:=List.mem_map.1 hr;rfl)|simp[bX,bz,bm,aW,aO]) (by decide) (by simp)) ?_
  refine bC.t1 (x:=.fro _ _) rfl ?_
  rfl
theorem ir (op:Int):aQ prog E 64 [.int .i64 op] (.tup [.int .i64 (fm op),.bool (cf op)]):=by
 obtain ⟨_,hasc⟩:=io op
 refine bx.intro func64 rfl (by decide) rfl ?_
 refine za ?_
 refine zp rfl ?_
 refine z8 (zr (v:=.int _ _) rfl) ?_
 refine z8 (zr (v:=.bool _) rfl) ?_
 refine z7 ?_
 refine za ?_
 refine za ?_
 refine zp rfl ?_
 refine z8 (zw (v:=.int _ _) rfl) ?_
 refine aq.callP (gN _) rfl ?_
 refine z8 (Gv.field1 (v:=.str _) underlying155 rfl isAgg9 rfl rfl) ?_
 refine aq.rangeT underlying9 rfl ?_
 intro i9
 refine z7 ?_
 refine zh ?_
 refine zt (γ:=Unit) [9] (fun g=>[]) (fun g=>[(i9,.iter (bf op).2.2 0)]) (fun g=>True) (fun g=>0) () trivial ⟨_,(.refl _),rfl⟩ (trivial) ?_
 rintro _ _
 by_cases hlt:∃c0 tl,(bf op).2.2.data.toList=c0::tl
 ·obtain ⟨c0,tl,hk⟩:=hlt
  have hg:(bf op).2.2.data[0]?=some c0:=by rw[←Array.getElem?_toList,hk];rfl
  refine za ?_
  refine zp rfl ?_
  refine aq.nextA rfl hg (hasc _ (by rw[hk];exact .head _)) .head ?_
  refine z8 (yr (v:=.bool _) rfl rfl) ?_
  refine z7 ?_
  refine za ?_
  refine y9 rfl rfl ?_
  refine ze ?_
  refine zh ?_
  refine za ?_
  refine zp rfl ?_
  refine z8 (yr (v:=.int _ _) rfl rfl) ?_
  refine z8 (zr (v:=.int _ _) rfl) ?_
  refine z7 ?_
  refine za ?_
  refine zp rfl ?_
  refine z8 (zw (v:=.int _ _) rfl) ?_
  refine aq.callP (il _) rfl ?_
  refine z8 (zr (v:=.int _ _) rfl) ?_
  refine z8 (zr (v:=.bool _) rfl) ?_
  refine z7 ?_
  refine zd ?_
  repeat (first|refine aS ?_|refine aM ?_)
  refine bC.t2 (x:=.int _ _) (y:=.bool _) rfl rfl ?_
  unfold fm cf;rw[hk];rfl
 ·have hk:(bf op).2.2.data.toList=[]:=by
   cases h:(bf op).2.2.data.toList with
   |nil=>rfl
   |cons x l=>exact absurd ⟨x,l,h⟩ hlt
  refine za ?_
  refine zp rfl ?_
  refine aq.nextTover rfl .head (by show ¬0<(bf op).2.2.data.size;rw[←Array.length_toList,hk];decide) ?_
  refine z8 (yr (v:=.bool _) rfl rfl) ?_
  refine z7 ?_
  refine za ?_
  refine y7 rfl rfl ?_
  refine zu ?_
  refine za ?_
  refine zp rfl ?_
  refine z8 (zr (v:=.int _ _) rfl) ?_
  refine z8 (zr (v:=.bool _) rfl) ?_
  refine z7 ?_
  refine zd ?_
  repeat (first|refine aS ?_|refine aM ?_)
  refine bC.t2 (x:=.int _ _) (y:=.bool _) rfl rfl ?_
  unfold fm cf;rw[hk];rfl
def bb (f:ap) (v:Int):Bool:=decide (0≤v)&&decide (v<f.vars.length)
def da (f:ap) (b:Int):Bool:=decide (0≤b)&&decide (b<f.blocks.length)
theorem eN (f:ap) (v:Int):aQ prog E 72 [.agg (bP f),.int .i64 v] (.bool (bb f v)):=by
 refine bx.intro func72 rfl (by decide) rfl ?_
 refine za ?_
 refine zp rfl ?_
 refine aq.boxF (cs:=_) rfl rfl rfl ?_
 refine z8 (zr (v:=.bool _) rfl) ?_
 refine z7 ?_
 refine za ?_
 refine zp rfl ?_
 refine z8 (zw (v:=.int _ _) rfl) ?_
 refine z8 (Gv.geq rfl rfl) ?_
 refine z8 (zw (v:=.bool _) rfl) ?_
 refine zi (s:=7) rfl (fun c1=>?_) (fun c1=>?_)
 ·refine z6 rfl rfl c1 ?_
  refine z8 (zw (v:=.int _ _) rfl) ?_
  refine z6 rfl rfl c1 ?_
  refine z8 (Gv.fieldF underlying26 rfl sizeOf22 (by decide) rfl rfl) ?_
  refine z6 rfl rfl c1 ?_
  refine z8 (Gv.load1F (c:=.fro _ _) isAgg22 rfl) ?_
  refine z6 rfl rfl c1 ?_
  refine z8 (Gv.lenM underlying22 rfl) ?_
  refine z6 rfl rfl c1 ?_
  refine z8 (Gv.lss rfl rfl) ?_
  refine z8 (Gv.pickT (v:=.bool _) rfl c1 rfl) ?_
  refine z8 (zr (v:=.bool _) rfl) ?_
  refine z7 ?_
  refine zd ?_
  repeat (first|refine aS ?_|refine aM ?_)
  refine bC.t1 (x:=.bool _) rfl ?_
  simp_all[bb]<;>omega
 ·refine z2 rfl rfl c1 ?_
  refine z2 rfl rfl c1 ?_
  refine z2 rfl rfl c1 ?_
  refine z2 rfl rfl c1 ?_
  refine z2 rfl rfl c1 ?_
  refine z8 (Gv.pickF (v:=.bool _) rfl c1 rfl) ?_
  refine z8 (zr (v:=.bool _) rfl) ?_
  refine z7 ?_
  refine zd ?_
  repeat (first|refine aS ?_|refine aM ?_)
  refine bC.t1 (x:=.bool _) rfl ?_
  simp_all[bb]<;>omega
theorem gO (f:ap) (v:Int):aQ prog E 75 [.agg (bP f),.int .i64 v] (.bool (da f v)):=by
 refine bx.intro func75 rfl (by decide) rfl ?_
 refine za ?_
 refine zp rfl ?_
 refine aq.boxF (cs:=_) rfl rfl rfl ?_
 refine z8 (zr (v:=.bool _) rfl) ?_
 refine z7 ?_
 refine za ?_
 refine zp rfl ?_
 refine z8 (zw (v:=.int _ _) rfl) ?_
 refine z8 (Gv.geq rfl rfl) ?_
 refine z8 (zw (v:=.bool _) rfl) ?_
 refine zi (s:=7) rfl (fun c2=>?_) (fun c2=>?_)
 ·refine z6 rfl rfl c2 ?_
  refine z8 (zw (v:=.int _ _) rfl) ?_
  refine z6 rfl rfl c2 ?_
  refine z8 (Gv.fieldF underlying26 rfl sizeOf24 (by decide) rfl rfl) ?_
  refine z6 rfl rfl c2 ?_
  refine z8 (Gv.load1F (c:=.fro _ _) isAgg24 rfl) ?_
  refine z6 rfl rfl c2 ?_
  refine z8 (Gv.lenM underlying24 rfl) ?_
  refine z6 rfl rfl c2 ?_
  refine z8 (Gv.lss rfl rfl) ?_
  refine z8 (Gv.pickT (v:=.bool _) rfl c2 rfl) ?_
  refine z8 (zr (v:=.bool _) rfl) ?_
  refine z7 ?_
  refine zd ?_
  repeat (first|refine aS ?_|refine aM ?_)
  refine bC.t1 (x:=.bool _) rfl ?_
  simp_all[da]<;>omega
 ·refine z2 rfl rfl c2 ?_
  refine z2 rfl rfl c2 ?_
  refine z2 rfl rfl c2 ?_
  refine z2 rfl rfl c2 ?_
  refine z2 rfl rfl c2 ?_
  refine z8 (Gv.pickF (v:=.bool _) rfl c2 rfl) ?_
  refine z8 (zr (v:=.bool _) rfl) ?_
  refine z7 ?_
  refine zd ?_
  repeat (first|refine aS ?_|refine aM ?_)
  refine bC.t1 (x:=.bool _) rfl ?_
  simp_all[da]<;>omega
def b7 {α:Type} (p:α→Bool):List α→Nat→Int
 |[],_=>-1
 |x::xs,k=>if p x then k else b7 p xs (k+1)
theorem dZ {α:Type} (p:α→Bool):∀(xs:List α) (k:Nat),decide (0≤b7 p xs k)=xs.any p
 |[],k=>rfl
 |x::xs,k=>by
  unfold b7
  rw[List.any_cons]
  split
  ·rename_i h;rw[h];simp
  ·rename_i h;simp[h,dZ p xs (k+1)]
theorem bH {α:Type} (p:α→Bool):∀(xs:List α) (k:Nat),k≤xs.length→(xs.take k).all (fun x=>!p x)=true→b7 p xs 0=b7 p (xs.drop k) k
 |_,0,_,_=>rfl
 |xs,k+1,h,hall=>by
  rw[List.take_succ_eq_append_getElem (by omega),List.all_append] at hall
  simp only[Bool.and_eq_true,List.all_cons,List.all_nil,Bool.and_true] at hall
  rw[bH p xs k (by omega) hall.1,List.drop_eq_getElem_cons (by omega)]
  rw[b7]
  rw[if_neg (by simpa using hall.2)]
theorem gD {p:Int→Bool} {fn:FuncId} {c:List AV} (xs:List Int) (hl:xs.length≤281474976710656) (hp:∀x,aQ prog E fn ([.int .i64 x]++c) (.bool (p x))) :
  aQ prog E 79 [.fro 1 (xs.map bX),.fn fn [] c] (.int .i64 (b7 p xs 0)):=by
 refine bx.intro func79 rfl (by decide) rfl ?_
 refine za ?_
 refine zp rfl ?_
 refine z8 (zr (v:=.int _ _) rfl) ?_
 refine z7 ?_
 refine za ?_
 refine za ?_
 refine zp rfl ?_
 refine z8 (zw (v:=.fro _ _) rfl) ?_
 refine z8 (Gv.lenM underlying23 rfl) ?_
 refine z8 (zw (v:=.int _ _) rfl) ?_
 refine z7 ?_
 refine zh ?_
 refine zt (γ:=Nat) [0,1,7] (fun k=>[(8,.int .i64 k)]) (fun k=>[]) (fun k=>k≤xs.length∧(xs.take k).all (fun x=>!p x)) (fun k=>xs.length - k) 0 ⟨rfl,trivial⟩ ⟨_,(.refl _),rfl⟩ (⟨Nat.zero_le _,rfl⟩) ?_
 rintro k ⟨hk,hall⟩
 refine za ?_
 refine zp rfl ?_
 refine z8 (Gv.lss rfl rfl) ?_
 refine z7 ?_
 refine za ?_
 refine zq rfl (fun ck=>?_) (fun ck=>?_)
 ·have hk2:k<xs.length:=by omega
  refine ze ?_
  refine za ?_
  refine zh ?_
  refine za ?_
  refine zp rfl ?_
  refine z8 (zw (v:=.int _ _) rfl) ?_
  refine z8 (zr (v:=.int _ _) rfl) ?_
  refine z7 ?_
  refine za ?_
  refine zp rfl ?_
  refine z8 (zw (v:=.fn _ _ _) rfl) ?_
  refine z8 (zw (v:=.fro _ _) rfl) ?_
  refine z8 (zw (v:=.int _ _) rfl) ?_
  refine z8 (yc underlying23 sizeOf3 rfl rfl rfl (List.getElem?_eq_getElem (by omega))) ?_
  refine z8 (Gv.load1F (c:=.int _ _) isAgg3 rfl) ?_
  refine aq.callVP rfl (hp _) rfl ?_
  refine z7 ?_
  refine zn rfl (fun cp=>?_) (fun cp=>?_)
  ·refine za ?_
   refine zp rfl ?_
   refine z8 (zw (v:=.int _ _) rfl) ?_
   refine z8 (zr (v:=.int _ _) rfl) ?_
   refine z7 ?_
   refine zd ?_
   repeat (first|refine aS ?_|refine aM ?_)
   refine bC.t1 (x:=.int _ _) rfl ?_
   rw[bH p xs k hk hall,List.drop_eq_getElem_cons hk2,b7,if_pos cp]
  ·refine ze ?_
   refine zp rfl ?_
   refine z8 (Gv.add rfl rfl (by unfold lC;omega)) ?_
   refine z8 (zw (v:=.int _ _) rfl) ?_
   refine z7 ?_
   exact ⟨k+1,⟨rfl,rfl,rfl,trivial⟩,⟨rfl,trivial⟩,⟨_,(.refl _),rfl⟩,⟨hk2,by rw[List.take_succ_eq_append_getElem hk2,List.all_append,hall];simp[cp]⟩,by omega⟩
 ·have hkn:k=xs.length:=by omega
  refine zu ?_
  refine za ?_
  refine zp rfl ?_
  refine z8 (zr (v:=.int _ _) rfl) ?_
  refine z7 ?_
  refine zd ?_
  repeat (first|refine aS ?_|refine aM ?_)
  refine bC.t1 (x:=.int _ _) rfl ?_
  rw[bH p xs k hk hall,hkn,List.drop_length,b7]
theorem dF {p:Int→Bool} {fn:FuncId} {c:List AV} (xs:List Int) (hl:xs.length≤281474976710656) (hp:∀x,aQ prog E fn ([.int .i64 x]++c) (.bool (p x))) :
  aQ prog E 59 [.fro 1 (xs.map bX),.fn fn [] c] (.bool (xs.any p)):=by
 refine bx.intro func59 rfl (by decide) rfl ?_
 refine za ?_
 refine zp rfl ?_
 refine z8 (zr (v:=.bool _) rfl) ?_
 refine z7 ?_
 refine za ?_
 refine zp rfl ?_
 refine z8 (zw (v:=.fro _ _) rfl) ?_
 refine z8 (zw (v:=.fn _ _ _) rfl) ?_
 refine aq.callP (gD xs hl hp) rfl ?_
 refine z8 (Gv.geq rfl rfl) ?_
 refine z8 (zr (v:=.bool _) rfl) ?_
 refine z7 ?_
 refine zd ?_
 repeat (first|refine aS ?_|refine aM ?_)
 refine bC.t1 (x:=.bool _) rfl ?_
 rw[dZ]
theorem mB (f:ap) (v:Int):aQ prog E 91 ([.int .i64 v]++[.pf (bP f)]) (.bool (!bb f v)):=by
 refine bx.intro func91 rfl (by decide) rfl ?_
 refine za ?_
 refine zp rfl ?_
 refine z8 (zr (v:=.bool _) rfl) ?_
 refine z7 ?_
 refine za ?_
 refine zp rfl ?_
 refine z8 (ya isAgg26 sizeOf26 rfl rfl) ?_
 refine z8 (zw (v:=.int _ _) rfl) ?_
 refine aq.callP (eN _ _) rfl ?_
 refine z8 (Gv.not rfl) ?_
 refine z8 (zr (v:=.bool _) rfl) ?_
 refine z7 ?_
 refine zd ?_
 repeat (first|refine aS ?_|refine aM ?_)
 refine bC.t1 (x:=.bool _) rfl ?_
 rfl
theorem kq (f:ap) (l:List Int) (hl:l.length≤281474976710656):aQ prog E 73 [.agg (bP f),.fro 1 (l.map bX)] (.bool (l.all (bb f))):=by
 refine bx.intro func73 rfl (by decide) rfl ?_
 refine za ?_
 refine zp rfl ?_
 refine aq.boxF (cs:=_) rfl rfl rfl ?_
 refine z8 (zr (v:=.bool _) rfl) ?_
 refine z7 ?_
 refine za ?_
 refine zp rfl ?_
 refine z8 (zw (v:=.fro _ _) rfl) ?_
 refine z8 (Gv.func rfl rfl) ?_
 refine aq.callP (dF l hl (mB f)) rfl ?_
 refine z8 (Gv.not rfl) ?_
 refine z8 (zr (v:=.bool _) rfl) ?_
 refine z7 ?_
 refine zd ?_
 repeat (first|refine aS ?_|refine aM ?_)
 refine bC.t1 (x:=.bool _) rfl ?_
 rw[List.any_eq_not_all_not];simp
section
variable {P:Program} {E:World} {l:List Oper} {W:Nat→Bool} {fuel:Nat} {listed:Array Bool} {d ty:Nat} {op:Op} {pos:String} {af:Array Edge} {Q:aE→OL→Prop} {env:aE} {Os Om:OL}
def kN (l:List Oper) (W:Nat→Bool) (listed:Array Bool) (i:Nat):Bool:=Region.noSelect l.toArray&&(Region.free .any l.toArray listed i&&((Region.ready .any l.toArray listed).contains i&&(dD l i W&&(!W i&&cZ W listed))))
theorem kN.of {i:Nat} (h:kN l W listed i=true):Region.noSelect l.toArray=true∧Region.free .any l.toArray listed i=true∧(Region.ready .any l.toArray listed).contains i=true∧dD l i W=true∧W i=false∧cZ W listed=true:=by
 simpa only[kN,Bool.and_eq_true,Bool.not_eq_true'] using h
theorem aR (i:Nat) {x:AV} (hi:l[i]?=some (Oper.mk (some d) op ty pos af none)) (hg:Gv P env Os (Oper.mk (some d) op ty pos af none) x)
  (h:bl P E l W Q fuel (listed.setIfInBounds i true) (bp env d x) Os Om) (hb:kN l W listed i=true:=by kernel_rfl):bl P E l W Q (fuel+1) listed env Os Om:=
 have ⟨a,b,c,e,g,k⟩:=kN.of hb
 bl.take hi a b c e g k hg h
theorem gP (i:Nat) {j s:Nat} {b t:Bool} {x:AV} (hi:l[i]?=some (Oper.mk (some d) op ty pos af (some (j,b)))) (hg0:(l[j]?).bind (fun o:Oper=>o.dst)=some s) (hv0:env s=.bool t) (ht:t=b) (hg:Gv P env Os (Oper.mk (some d) op ty pos af none) x)
  (h:bl P E l W Q fuel (listed.setIfInBounds i true) (bp env d x) Os Om) (hb:kN l W listed i=true:=by kernel_rfl):bl P E l W Q (fuel+1) listed env Os Om:=
 have ⟨a,b,c,e,g,k⟩:=kN.of hb
 bl.takeT hi hg0 hv0 ht a b c e g k hg h
theorem eg (i:Nat) {j s:Nat} {b t:Bool} (hi:l[i]?=some (Oper.mk (some d) op ty pos af (some (j,b)))) (hg0:(l[j]?).bind (fun o:Oper=>o.dst)=some s) (hv0:env s=.bool t) (ht:t=!b)
  (h:bl P E l W Q fuel (listed.setIfInBounds i true) (bp env d (.raw undef)) Os Om) (hb:kN l W listed i=true:=by kernel_rfl):bl P E l W Q (fuel+1) listed env Os Om:=
 have ⟨a,b,c,e,g,k⟩:=kN.of hb
 bl.takeF hi hg0 hv0 ht a b c e g k h
theorem eZ (i:Nat) {o:Oper} (hi:l[i]?=some o) (h:aq P E l.toArray (fun env' Om'=>bl P E l W Q fuel (listed.setIfInBounds i true) env' Os Om') [o] env Om) (hr:Region.ready .any l.toArray listed=[i]:=by kernel_rfl):bl P E l W Q (fuel+1) listed env Os Om:=bl.one hi hr h
theorem jQ (h:Q env (Os++Om)) (hr:Region.ready .any l.toArray listed=[]:=by kernel_rfl):bl P E l W Q fuel listed env Os Om:=bl.done hr h
variable {x y z:Operand} {t:TypeId} {O:OL}
theorem jR {k:IntKind} {a:Int} (hx:aT env x=.int k a):Gv P env O (Oper.mk (some d) (.move x) ty pos af none) (.int k a):=zw hx
theorem ww {a:Bool} (hx:aT env x=.bool a):Gv P env O (Oper.mk (some d) (.move x) ty pos af none) (.bool a):=zw hx
theorem uj {k:Nat} {a:List (List AV)} (hx:aT env x=.fro k a):Gv P env O (Oper.mk (some d) (.move x) ty pos af none) (.fro k a):=zw hx
theorem Al {k:IntKind} {a:Int} (hx:aT env x=.int k a):Gv P env O (Oper.mk (some d) (.assign x) ty pos af none) (.int k a):=zr hx
theorem wW {a:Bool} (hx:aT env x=.bool a):Gv P env O (Oper.mk (some d) (.assign x) ty pos af none) (.bool a):=zr hx
theorem uv {k:Nat} {a:List (List AV)} (hx:aT env x=.fro k a):Gv P env O (Oper.mk (some d) (.assign x) ty pos af none) (.fro k a):=zr hx
theorem mu {k:IntKind} {a:Int} {cs:List AV} (ha:∀w,(isAgg t).run P w=.ok false w) (hx:aT env x=.pf (.int k a::cs)):Gv P env O (Oper.mk (some d) (.load t x) ty pos af none) (.int k a):=Gv.load1F ha hx
theorem q5 {k:Nat} {a:List (List AV)} {cs:List AV} (ha:∀w,(isAgg t).run P w=.ok false w) (hx:aT env x=.pf (.fro k a::cs)):Gv P env O (Oper.mk (some d) (.load t x) ty pos af none) (.fro k a):=Gv.load1F ha hx
theorem uw {b v:Bool} (hc:aT env x=.bool b) (hb:b=true) (hy:aT env y=.bool v):Gv P env O (Oper.mk (some d) (.pick x y z) ty pos af none) (.bool v):=Gv.pickT hc hb hy
theorem ux {b v:Bool} (hc:aT env x=.bool b) (hb:b=false) (hy:aT env z=.bool v):Gv P env O (Oper.mk (some d) (.pick x y z) ty pos af none) (.bool v):=Gv.pickF hc hb hy
theorem zQ {i m:Nat} (hx:aT env x=.own i m):Gv P env O (Oper.mk (some d) (.move x) ty pos af none) (.own i m):=zw hx
theorem xD {i m:Nat} (hx:aT env x=.po i m):Gv P env O (Oper.mk (some d) (.move x) ty pos af none) (.po i m):=zw hx
theorem AF {cs:List AV} (hx:aT env x=.pf cs):Gv P env O (Oper.mk (some d) (.move x) ty pos af none) (.pf cs):=zw hx
theorem xK {cs:List AV} (hx:aT env x=.tup cs):Gv P env O (Oper.mk (some d) (.move x) ty pos af none) (.tup cs):=zw hx
theorem xE {i m:Nat} (hx:aT env x=.own i m):Gv P env O (Oper.mk (some d) (.assign x) ty pos af none) (.own i m):=zr hx
theorem Am {i m:Nat} (hx:aT env x=.po i m):Gv P env O (Oper.mk (some d) (.assign x) ty pos af none) (.po i m):=zr hx
theorem q6 {a:Value} (hx:aT env x=.raw a):Gv P env O (Oper.mk (some d) (.assign x) ty pos af none) (.raw a):=zr hx
theorem wx {vs:List AV} {i:Nat} {k:IntKind} {a:Int} (hx:aT env x=.tup vs) (hv:vs[i]?=some (.int k a)):Gv P env O (Oper.mk (some d) (.extract x i) ty pos af none) (.int k a):=yr hx hv
theorem wA {vs:List AV} {i:Nat} {a:Bool} (hx:aT env x=.tup vs) (hv:vs[i]?=some (.bool a)):Gv P env O (Oper.mk (some d) (.extract x i) ty pos af none) (.bool a):=yr hx hv
theorem jS {fs:Array Field} {f:Field} {i sz:Nat} {cs cs':List AV} (ht:P.underlying t=some (.struct fs)) (hf:fs[i]?=some f) (hs:∀w,(sizeOf f.type).run P w=.ok sz w)
  (hx:aT env x=.pf cs) (hr:cs.drop f.offset=cs') (hz:sz≠0:=by decide):Gv P env O (Oper.mk (some d) (.fieldAddr t x i) ty pos af none) (.pf cs'):=Gv.fieldF ht hf hs hz hx hr
theorem An {u:TypeId} {a b:Int} (hx:aT env x=.int .i64 a) (hy:aT env y=.int .i64 b) (hr:lC (a+b):=by unfold lC;omega):Gv P env O (Oper.mk (some d) (.binOp .add t x y u) ty pos af none) (.int .i64 (a+b)):=Gv.add hx hy hr
theorem aj {n id:Nat} {y:Code} {R:Exit→aE→OL→Prop} (h:aq P E l.toArray (ig (bQ P E n y R) R .normal) l env O) (hd:dk n l=true:=by exact rfl):bQ P E n (.seq (.region id l.toArray false) y) R env O:=za (zp hd h)
theorem bA {n id:Nat} {R:Exit→aE→OL→Prop} (h:aq P E l.toArray (R .normal) l env O) (hd:dk n l=true:=by exact rfl):bQ P E n (.region id l.toArray false) R env O:=zp hd h
theorem eO {α:Type} {enc:α→List AV} {xs:List α} {k:Nat} {e:TypeId} (j:Nat) {i:Int} {v:α} (ht:P.underlying t=some (.slice e)) (hs:∀w,(sizeOf e).run P w=.ok k w) (hx:aT env x=.fro k (xs.map enc)) (hy:aT env y=.int .i64 i) (hi:i=(j:Int)) (hj:xs[j]?=some v) :
  Gv P env O (Oper.mk (some d) (.indexAddr t x y) ty pos af none) (.pf (enc v)):=yc ht hs hx hy hi hj
theorem aX {O:OL}:Left O O:=⟨_,.refl _,rfl⟩
theorem cF.t1 {x0:Nat × bi} {O:OL} {i:Nat} {o:bi}:cF (x0::(i,o)::O) i o (x0::O):=.tail .head
theorem ed.t1 {x0:Nat × bi} {O:OL} {i:Nat} {o o':bi}:ed (x0::(i,o)::O) i o o' (x0::(i,o')::O):=.tail .head
theorem jP.t1 {x0:Nat × bi} {O:OL} {i j:Nat} {o o':bi}:jP (x0::(i,o)::O) i o j o' (x0::(j,o')::O):=.tail .head
theorem cF.t2 {x0 x1:Nat × bi} {O:OL} {i:Nat} {o:bi}:cF (x0::x1::(i,o)::O) i o (x0::x1::O):=.tail .t1
theorem ed.t2 {x0 x1:Nat × bi} {O:OL} {i:Nat} {o o':bi}:ed (x0::x1::(i,o)::O) i o o' (x0::x1::(i,o')::O):=.tail .t1
theorem jP.t2 {x0 x1:Nat × bi} {O:OL} {i j:Nat} {o o':bi}:jP (x0::x1::(i,o)::O) i o j o' (x0::x1::(j,o')::O):=.tail .t1
theorem cF.t3 {x0 x1 x2:Nat × bi} {O:OL} {i:Nat} {o:bi}:cF (x0::x1::x2::(i,o)::O) i o (x0::x1::x2::O):=.tail .t2
theorem ed.t3 {x0 x1 x2:Nat × bi} {O:OL} {i:Nat} {o o':bi}:ed (x0::x1::x2::(i,o)::O) i o o' (x0::x1::x2::(i,o')::O):=.tail .t2
theorem jP.t3 {x0 x1 x2:Nat × bi} {O:OL} {i j:Nat} {o o':bi}:jP (x0::x1::x2::(i,o)::O) i o j o' (x0::x1::x2::(j,o')::O):=.tail .t2
theorem cF.t4 {x0 x1 x2 x3:Nat × bi} {O:OL} {i:Nat} {o:bi}:cF (x0::x1::x2::x3::(i,o)::O) i o (x0::x1::x2::x3::O):=.tail .t3
theorem ed.t4 {x0 x1 x2 x3:Nat × bi} {O:OL} {i:Nat} {o o':bi}:ed (x0::x1::x2::x3::(i,o)::O) i o o' (x0::x1::x2::x3::(i,o')::O):=.tail .t3
theorem jP.t4 {x0 x1 x2 x3:Nat × bi} {O:OL} {i j:Nat} {o o':bi}:jP (x0::x1::x2::x3::(i,o)::O) i o j o' (x0::x1::x2::x3::(j,o')::O):=.tail .t3
theorem cF.t5 {x0 x1 x2 x3 x4:Nat × bi} {O:OL} {i:Nat} {o:bi}:cF (x0::x1::x2::x3::x4::(i,o)::O) i o (x0::x1::x2::x3::x4::O):=.tail .t4
theorem ed.t5 {x0 x1 x2 x3 x4:Nat × bi} {O:OL} {i:Nat} {o o':bi}:ed (x0::x1::x2::x3::x4::(i,o)::O) i o o' (x0::x1::x2::x3::x4::(i,o')::O):=.tail .t4
theorem jP.t5 {x0 x1 x2 x3 x4:Nat × bi} {O:OL} {i j:Nat} {o o':bi}:jP (x0::x1::x2::x3::x4::(i,o)::O) i o j o' (x0::x1::x2::x3::x4::(j,o')::O):=.tail .t4
theorem cF.t6 {x0 x1 x2 x3 x4 x5:Nat × bi} {O:OL} {i:Nat} {o:bi}:cF (x0::x1::x2::x3::x4::x5::(i,o)::O) i o (x0::x1::x2::x3::x4::x5::O):=.tail .t5
theorem ed.t6 {x0 x1 x2 x3 x4 x5:Nat × bi} {O:OL} {i:Nat} {o o':bi}:ed (x0::x1::x2::x3::x4::x5::(i,o)::O) i o o' (x0::x1::x2::x3::x4::x5::(i,o')::O):=.tail .t5
theorem jP.t6 {x0 x1 x2 x3 x4 x5:Nat × bi} {O:OL} {i j:Nat} {o o':bi}:jP (x0::x1::x2::x3::x4::x5::(i,o)::O) i o j o' (x0::x1::x2::x3::x4::x5::(j,o')::O):=.tail .t5
theorem cF.t7 {x0 x1 x2 x3 x4 x5 x6:Nat × bi} {O:OL} {i:Nat} {o:bi}:cF (x0::x1::x2::x3::x4::x5::x6::(i,o)::O) i o (x0::x1::x2::x3::x4::x5::x6::O):=.tail .t6
theorem ed.t7 {x0 x1 x2 x3 x4 x5 x6:Nat × bi} {O:OL} {i:Nat} {o o':bi}:ed (x0::x1::x2::x3::x4::x5::x6::(i,o)::O) i o o' (x0::x1::x2::x3::x4::x5::x6::(i,o')::O):=.tail .t6
theorem jP.t7 {x0 x1 x2 x3 x4 x5 x6:Nat × bi} {O:OL} {i j:Nat} {o o':bi}:jP (x0::x1::x2::x3::x4::x5::x6::(i,o)::O) i o j o' (x0::x1::x2::x3::x4::x5::x6::(j,o')::O):=.tail .t6
theorem cF.t8 {x0 x1 x2 x3 x4 x5 x6 x7:Nat × bi} {O:OL} {i:Nat} {o:bi}:cF (x0::x1::x2::x3::x4::x5::x6::x7::(i,o)::O) i o (x0::x1::x2::x3::x4::x5::x6::x7::O):=.tail .t7
theorem ed.t8 {x0 x1 x2 x3 x4 x5 x6 x7:Nat × bi} {O:OL} {i:Nat} {o o':bi}:ed (x0::x1::x2::x3::x4::x5::x6::x7::(i,o)::O) i o o' (x0::x1::x2::x3::x4::x5::x6::x7::(i,o')::O):=.tail .t7
theorem jP.t8 {x0 x1 x2 x3 x4 x5 x6 x7:Nat × bi} {O:OL} {i j:Nat} {o o':bi}:jP (x0::x1::x2::x3::x4::x5::x6::x7::(i,o)::O) i o j o' (x0::x1::x2::x3::x4::x5::x6::x7::(j,o')::O):=.tail .t7
theorem bg {α0:Sort _} {a0:α0}:a0=a0∧True:=⟨rfl,trivial⟩
theorem fT {α0:Sort _} {a0:α0} {α1:Sort _} {a1:α1}:a0=a0∧a1=a1∧True:=⟨rfl,rfl,trivial⟩
theorem r3 {α0:Sort _} {a0:α0} {α1:Sort _} {a1:α1} {α2:Sort _} {a2:α2}:a0=a0∧a1=a1∧a2=a2∧True:=⟨rfl,rfl,rfl,trivial⟩
theorem iv {α0:Sort _} {a0:α0} {α1:Sort _} {a1:α1} {α2:Sort _} {a2:α2} {α3:Sort _} {a3:α3}:a0=a0∧a1=a1∧a2=a2∧a3=a3∧True:=⟨rfl,rfl,rfl,rfl,trivial⟩
theorem uk {α0:Sort _} {a0:α0} {α1:Sort _} {a1:α1} {α2:Sort _} {a2:α2} {α3:Sort _} {a3:α3} {α4:Sort _} {a4:α4} {α5:Sort _} {a5:α5}:a0=a0∧a1=a1∧a2=a2∧a3=a3∧a4=a4∧a5=a5∧True:=⟨rfl,rfl,rfl,rfl,rfl,rfl,trivial⟩
theorem jT {α0:Sort _} {a0:α0} {α1:Sort _} {a1:α1} {α2:Sort _} {a2:α2} {α3:Sort _} {a3:α3} {α4:Sort _} {a4:α4} {α5:Sort _} {a5:α5} {α6:Sort _} {a6:α6}:a0=a0∧a1=a1∧a2=a2∧a3=a3∧a4=a4∧a5=a5∧a6=a6∧True:=⟨rfl,rfl,rfl,rfl,rfl,rfl,rfl,trivial⟩
theorem sd {α0:Sort _} {a0:α0} {α1:Sort _} {a1:α1} {α2:Sort _} {a2:α2} {α3:Sort _} {a3:α3} {α4:Sort _} {a4:α4} {α5:Sort _} {a5:α5} {α6:Sort _} {a6:α6} {α7:Sort _} {a7:α7}:a0=a0∧a1=a1∧a2=a2∧a3=a3∧a4=a4∧a5=a5∧a6=a6∧a7=a7∧True:=⟨rfl,rfl,rfl,rfl,rfl,rfl,rfl,rfl,trivial⟩
theorem ul {α0:Sort _} {a0:α0} {α1:Sort _} {a1:α1} {α2:Sort _} {a2:α2} {α3:Sort _} {a3:α3} {α4:Sort _} {a4:α4} {α5:Sort _} {a5:α5} {α6:Sort _} {a6:α6} {α7:Sort _} {a7:α7} {α8:Sort _} {a8:α8}:a0=a0∧a1=a1∧a2=a2∧a3=a3∧a4=a4∧a5=a5∧a6=a6∧a7=a7∧a8=a8∧True:=⟨rfl,rfl,rfl,rfl,rfl,rfl,rfl,rfl,rfl,trivial⟩
theorem fg {α0:Sort _} {a0:α0} {α1:Sort _} {a1:α1} {α2:Sort _} {a2:α2} {α3:Sort _} {a3:α3} {α4:Sort _} {a4:α4} {α5:Sort _} {a5:α5} {α6:Sort _} {a6:α6} {α7:Sort _} {a7:α7} {α8:Sort _} {a8:α8} {α9:Sort _} {a9:α9} {α10:Sort _} {a10:α10} {α11:Sort _} {a11:α11}:a0=a0∧a1=a1∧a2=a2∧a3=a3∧a4=a4∧a5=a5∧a6=a6∧a7=a7∧a8=a8∧a9=a9∧a10=a10∧a11=a11∧True:=⟨rfl,rfl,rfl,rfl,rfl,rfl,rfl,rfl,rfl,rfl,rfl,rfl,trivial⟩
variable {ops:Array Oper} {K:aE→OL→Prop} {rest:List Oper} {u e:TypeId}
theorem ab {k:IntKind} {a:Int} (hx:aT env x=.int k a) (kk:aq P E ops K rest (bp env d (.int k a)) O):aq P E ops K (Oper.mk (some d) (.move x) ty pos af none::rest) env O:=z8 (jR hx) kk
theorem ae {a:Bool} (hx:aT env x=.bool a) (kk:aq P E ops K rest (bp env d (.bool a)) O):aq P E ops K (Oper.mk (some d) (.assign x) ty pos af none::rest) env O:=z8 (wW hx) kk
theorem ah {a:Bool} (hx:aT env x=.bool a) (kk:aq P E ops K rest (bp env d (.bool a)) O):aq P E ops K (Oper.mk (some d) (.move x) ty pos af none::rest) env O:=z8 (ww hx) kk
theorem ai {b v:Bool} (hc:aT env x=.bool b) (hb:b=true) (hy:aT env y=.bool v) (kk:aq P E ops K rest (bp env d (.bool v)) O):aq P E ops K (Oper.mk (some d) (.pick x y z) ty pos af none::rest) env O:=z8 (uw hc hb hy) kk
theorem ak {b v:Bool} (hc:aT env x=.bool b) (hb:b=false) (hy:aT env z=.bool v) (kk:aq P E ops K rest (bp env d (.bool v)) O):aq P E ops K (Oper.mk (some d) (.pick x y z) ty pos af none::rest) env O:=z8 (ux hc hb hy) kk
theorem aw {k:IntKind} {a:Int} (hx:aT env x=.int k a) (kk:aq P E ops K rest (bp env d (.int k a)) O):aq P E ops K (Oper.mk (some d) (.assign x) ty pos af none::rest) env O:=z8 (Al hx) kk
theorem ax {fs:Array Field} {f:Field} {i sz:Nat} {cs cs':List AV} (ht:P.underlying t=some (.struct fs)) (hf:fs[i]?=some f) (hs:∀w,(sizeOf f.type).run P w=.ok sz w) (hx:aT env x=.pf cs) (hr:cs.drop f.offset=cs') (kk:aq P E ops K rest (bp env d (.pf cs')) O) (hz:sz≠0:=by decide):aq P E ops K (Oper.mk (some d) (.fieldAddr t x i) ty pos af none::rest) env O:=z8 (jS ht hf hs hx hr hz) kk
theorem ad {α:Type} {enc:α→List AV} {xs:List α} {k:Nat} (ht:P.underlying t=some (.slice e)) (hx:aT env x=.fro k (xs.map enc)) (kk:aq P E ops K rest (bp env d (.int .i64 xs.length)) O):aq P E ops K (Oper.mk (some d) (.call { callee:=.builtin .len,args:=#[x],argTypes:=#[t] }) ty pos af none::rest) env O:=z8 (Gv.lenM ht hx) kk
theorem aa {n:Nat} {cs:List AV} (ha:∀w,(isAgg t).run P w=.ok true w) (hs:∀w,(sizeOf t).run P w=.ok n w) (hx:aT env x=.pf cs) (hn:cs.length=n) (kk:aq P E ops K rest (bp env d (.agg cs)) O):aq P E ops K (Oper.mk (some d) (.load t x) ty pos af none::rest) env O:=z8 (ya ha hs hx hn) kk
theorem aI {u:TypeId} {a b:Int} (hx:aT env x=.int .i64 a) (hy:aT env y=.int .i64 b) (kk:aq P E ops K rest (bp env d (.int .i64 (a+b))) O) (hr:lC (a+b):=by unfold lC;omega):aq P E ops K (Oper.mk (some d) (.binOp .add t x y u) ty pos af none::rest) env O:=z8 (An hx hy hr) kk
theorem aP {k:IntKind} {a:Int} {cs:List AV} (ha:∀w,(isAgg t).run P w=.ok false w) (hx:aT env x=.pf (.int k a::cs)) (kk:aq P E ops K rest (bp env d (.int k a)) O):aq P E ops K (Oper.mk (some d) (.load t x) ty pos af none::rest) env O:=z8 (mu ha hx) kk
theorem aB {k:IntKind} {a b:Int} (hx:aT env x=.int k a) (hy:aT env y=.int k b) (kk:aq P E ops K rest (bp env d (.bool (decide (a<b)))) O):aq P E ops K (Oper.mk (some d) (.binOp .lss t x y u) ty pos af none::rest) env O:=z8 (Gv.lss hx hy) kk
theorem aU {k:Nat} {a:List (List AV)} {cs:List AV} (ha:∀w,(isAgg t).run P w=.ok false w) (hx:aT env x=.pf (.fro k a::cs)) (kk:aq P E ops K rest (bp env d (.fro k a)) O):aq P E ops K (Oper.mk (some d) (.load t x) ty pos af none::rest) env O:=z8 (q5 ha hx) kk
theorem aA {k:IntKind} {a b:Int} (hx:aT env x=.int k a) (hy:aT env y=.int k b) (kk:aq P E ops K rest (bp env d (.bool (decide (a=b)))) O):aq P E ops K (Oper.mk (some d) (.binOp .eql t x y u) ty pos af none::rest) env O:=z8 (Gv.eqlI hx hy) kk
theorem aY {k:Nat} {a:List (List AV)} (hx:aT env x=.fro k a) (kk:aq P E ops K rest (bp env d (.fro k a)) O):aq P E ops K (Oper.mk (some d) (.move x) ty pos af none::rest) env O:=z8 (uj hx) kk
theorem aJ {b:Bool} (hx:aT env x=.bool b) (kk:aq P E ops K rest (bp env d (.bool (!b))) O):aq P E ops K (Oper.mk (some d) (.unOp .not t x) ty pos af none::rest) env O:=z8 (Gv.not hx) kk
theorem aD {k:IntKind} {a b:Int} (hx:aT env x=.int k a) (hy:aT env y=.int k b) (kk:aq P E ops K rest (bp env d (.bool (!decide (a=b)))) O):aq P E ops K (Oper.mk (some d) (.binOp .neq t x y u) ty pos af none::rest) env O:=z8 (Gv.neqI hx hy) kk
end
set_option linter.defProp false
def wy:=@Tryz.underlying62
def wz:=@Tryz.underlying67
def j4:=@Tryz.underlying26
def j5:=@Tryz.sizeOf26
def j6:=@Tryz.underlying23
def j7:=@Tryz.underlying60
def j8:=@Tryz.underlying24
def j9:=@Tryz.isAgg26
def ja:=@Tryz.underlying57
def jc:=@Tryz.sizeOf3
def jd:=@Tryz.underlying77
def je:=@Tryz.sizeOf23
def jf:=@Tryz.isAgg3
def jg:=@Tryz.sizeOf62
def jh:=@Tryz.sizeOf67
def ji:=@Tryz.underlying56
def jj:=@Tryz.isAgg23
def jk:=@Tryz.sizeOf35
def jl:=@Tryz.sizeOf57
def jm:=@Tryz.underlying35
def jn:=@Tryz.underlying22
def jo:=@Tryz.underlying33
def jp:=@Tryz.sizeOf24
def jq:=@Tryz.sizeOf77
def jr:=@Tryz.underlying9
def js:=@Tryz.sizeOf9
def jt:=@Tryz.zeroValue62
def ju:=@Tryz.underlying73
def jv:=@Tryz.zeroValue26
def jw:=@Tryz.isAgg24
def jx:=@Tryz.sizeOf65
def jy:=@Tryz.underlying97
def jz:=@Tryz.isAgg9
def Z0:=@Tryz.isAgg57
def Z1:=@Tryz.zeroValue67
def Z2:=@Tryz.sizeOf56
def Z3:=@Tryz.isAgg65
def Z4:=@Tryz.underlying145
def Z5:=@Tryz.sizeOf73
def Z6:=@Tryz.sizeOf60
def Z7:=@Tryz.isAgg67
def Z8:=@Tryz.sizeOf22
def Z9:=@Tryz.zeroValue77
def Za:=@Tryz.underlying27
def Zb:=@Tryz.sizeOf97
def Zc:=@Tryz.isAgg62
def Zd:=@Tryz.isAgg56
def Ze:=@Tryz.isAgg22
def Zf:=@Tryz.sizeOf58
def Zg:=@Tryz.isAgg58
set_option linter.defProp false
def zc:=@aq.callP
def zg:=@bC.t1
def zk:=@bx.intro
def zm:=@aq.storeW
def zo:=@aq.alloc
def zx:=@bQ.regionDraw
def zy:=@aq.boxF
def zz:=@bt.wp
def y8:=@Gv.build
def yb:=@aq.buildSliceFF
def yd:=@lJ.perm
def yf:=@bt.perm
def yi:=@aq.appendS
def yp:=@Gv.idxAF
def yq:=@bt.ops
def yt:=@List.getElem?_eq_getElem
def yu:=@List.take_succ_eq_append_getElem
def yv:=@List.append_assoc
def yw:=@Nat.zero_le
def yx:=@List.getElem_mem
def yy:=@List.take_length
def yz:=@List.length_append
def q0:=@decide_eq_false
def q1:=@Bool.and_eq_true
theorem Z {α:Sort _} {a:α}:a=a:=rfl
end
end Go.Proofs.YtbconpmnckokoaaGreatDoor
