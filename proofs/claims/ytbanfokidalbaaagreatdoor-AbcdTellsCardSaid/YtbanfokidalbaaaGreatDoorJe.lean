/- The document's numbers in halves. Plain law. No conditions but int64s. -/
import Derived.Test.YtbanfokidalbaaaGreatDoorJd
import Derived.Test.YtbanfokidalbaaaGreatDoorJc
set_option linter.unusedVariables false
set_option linter.unusedSimpArgs false
set_option linter.unusedSectionVars false
namespace Go.Proofs.YtbanfokidalbaaaGreatDoor
section
open Go.Proofs.Tryz
variable {α:Type}
def mg (k:Int):List (Int × List α)→List α
 |[]=>[]
 |(k',r)::es=>if k=k' then r else mg k es
def ms (k:Int) (r:List α):List (Int × List α)→List (Int × List α)
 |[]=>[(k,r)]
 |(k',r')::es=>if k=k' then (k,r)::es else (k',r')::ms k r es
def kv (k:Int):Value:=.int .i64 k
theorem uD (k:Int):MapKept.IsKey (.int .i64) (kv k):=rfl
theorem Fw (k k':Int):Instr.sameNow (.int .i64) (kv k) (kv k')=some (decide (k=k')):=by
 simp[Instr.sameNow,kv];by_cases h:k=k'<;>simp[h]
def Ib (arr:Array MapEntry):List (Value × Value):=arr.toList.map fun e=>(e.key,e.val)
section
variable {E:World} {P:Program} {ops:Array Oper} {K:aS→OL→Prop} {env:aS} {O O' O'':OL} {rest:List Oper} {n:Nat}
variable {d ty:Nat} {pos:String} {af:Array Edge} {x y z:Operand} {t u e T kt:TypeId} {b:Nat}
end
end
section
open Go.Proofs.Tryz
def ag (k:Int):List (Int × AV)→Option AV
 |[]=>none
 |(k',x)::es=>if k=k' then some x else ag k es
def am (k:Int) (x:AV):List (Int × AV)→List (Int × AV)
 |[]=>[(k,x)]
 |(k',x')::es=>if k=k' then (k,x)::es else (k',x')::am k x es
theorem JI (k k':Int) (x:AV):∀es:List (Int × AV),ag k (am k' x es)=if k=k' then some x else ag k es
 |[]=>by simp only[am,ag]
 |(q,y)::es=>by
  simp only[am]
  by_cases h:k'=q
  ·subst h
   rw[if_pos rfl]
   simp only[ag]
   by_cases h2:k=k'
   ·rw[if_pos h2,if_pos h2]
   ·rw[if_neg h2,if_neg h2,if_neg h2]
  ·rw[if_neg h]
   simp only[ag]
   by_cases h2:k=q
   ·rw[if_pos h2,if_pos h2,if_neg (fun e=>h (by rw[←e,h2]))]
   ·rw[if_neg h2,if_neg h2];exact JI k k' x es
def mz (I:G):List (Int × AV)→List (Value × Value)→Prop
 |[],hs=>hs=[]
 |(k,x)::es,hs=>∃v hs',hs=(kv k,v)::hs'∧bI I x v∧mz I es hs'
theorem mz.mono {I J:G} (h:I.le J):∀{es:List (Int × AV)} {hs:List (Value × Value)},mz I es hs→mz J es hs
 |[],_,e=>e
 |(_,_)::_,_,⟨v,hs',e,h1,h2⟩=>⟨v,hs',e,bI.mono h _ _ h1,mz.mono h h2⟩
theorem mz.get {I:G} {k:Int}:∀{l:List MapEntry} {es:List (Int × AV)} (i:Nat),mz I es (l.map fun e=>(e.key,e.val)) →
  (Instr.findNow (.int .i64) (kv k) l i=some none∧ag k es=none∧∀y u,bI I y u→mz I (am k y es) ((l.map fun e=>(e.key,e.val))++[(kv k,u)])) ∨
  (∃j e0 v x,Instr.findNow (.int .i64) (kv k) l i=some (some (i+j,v))∧l[j]?=some e0∧e0.key=kv k∧ag k es=some x∧bI I x v∧∀y u,bI I y u→mz I (am k y es) ((l.map fun e=>(e.key,e.val)).set j (kv k,u)))
 |[],[],i,_=>.inl ⟨rfl,rfl,fun y u h=>⟨u,[],rfl,h,rfl⟩⟩
 |_::_,[],_,h=>by cases h
 |[],(_,_)::_,_,⟨_,_,e,_⟩=>by cases e
 |x::l,(k1,r)::es,i,⟨v,hs',e,h1,h2⟩=>by
  simp only[List.map_cons,List.cons.injEq,Prod.mk.injEq] at e
  obtain ⟨⟨hk,hv⟩,rfl⟩:=e
  by_cases e1:k=k1
  ·subst e1
   right
   refine ⟨0,x,v,r,?_,Z,hk,by simp[ag],h1,fun y u h=>?_⟩
   ·unfold Instr.findNow;rw[hk,Fw,w7 rfl];simp[hv]
   ·simp only[am,if_pos,List.map_cons,List.set_cons_zero]
    exact ⟨u,_,rfl,h,h2⟩
  ·have hf:Instr.findNow (.int .i64) (kv k) (x::l) i=Instr.findNow (.int .i64) (kv k) l (i+1):=by
    rw[Instr.findNow,hk,Fw,w8 e1]
   have hg:ag k ((k1,r)::es)=ag k es:=by simp[ag,e1]
   have hms:∀y,am k y ((k1,r)::es)=(k1,r)::am k y es:=fun y=>by simp[am,e1]
   rw[hf,hg]
   rcases mz.get (k:=k) (i+1) h2 with ⟨g1,g2,g3⟩|⟨j,e0,v1,x1,g1,g2,g3,g4,g5,g6⟩
   ·left
    refine ⟨g1,g2,fun y u h=>?_⟩
    rw[hms]
    exact ⟨v,_,by rw[List.map_cons,hk,hv];rfl,h1,g3 y u h⟩
   ·right
    refine ⟨j+1,e0,v1,x1,by rw[g1];congr 3;omega,by simpa using g2,g3,g4,g5,fun y u h=>?_⟩
    rw[hms]
    exact ⟨v,_,by rw[List.map_cons,hk,hv,List.set_cons_succ],h1,g6 y u h⟩
def bj (b:Nat) (es:List (Int × AV)):bQ:=.heapG (fun I L=>∃arr clock,L=[(b,.map arr clock)]∧mz I es (Ib arr)) fun I J L h hp=>by
 obtain ⟨arr,clock,h1,h2⟩:=hp;exact ⟨arr,clock,h1,h2.mono h⟩
section
variable {E:World} {P:Program} {ops:Array Oper} {K:aS→OL→Prop} {env:aS} {O O' O'':OL} {rest:List Oper} {n:Nat}
variable {d ty:Nat} {pos:String} {af:Array Edge} {x y z:Operand} {t u e T kt:TypeId} {b:Nat}
theorem az.makeMapA (k:∀b,az P E ops K rest (bC env d (nc b)) ((0,bj b [])::O)):az P E ops K (Oper.mk (some d) (.makeMap t none) ty pos af none::rest) env O:=fun I F ρ w h1 ⟨ht,L,hL,hS⟩=>by
 refine bP.step Z ?_
 unfold eY
 have:(execOp (Go.Proofs.YtbanfokidalbaaaGreatDoor.ev ρ) (Oper.mk (some d) (.makeMap t none) ty pos af none)).run P w=.ok (.value (.map (some w.heap.size))) (w.alloc (.map #[] 0)):=by
  simp only[execOp,Option.map_none]
  rw[Sem.run_bind,run_makeMap_plain];rfl
 rw[this]
 exact k w.heap.size I F _ _ (h1.upd d rfl) ⟨ht,(w.heap.size,.map #[] 0)::L,⟨[_],L,rfl,⟨#[],0,rfl,rfl⟩,hL⟩,hS.alloc _⟩
theorem Gv.lookupA {k:Int} {m:Nat} {es:List (Int × AV)} {zx:AV} {zv:Value} {r:Option AV} (hg:ag k es=r) (ht:P.underlying t=some (.map kt u)) (hk:P.underlying kt=some (.int .i64)) (hz:∀w,(zeroValue u).run P w=.ok zv w) (hzr:∀I,bI I zx zv) (hx:bb env x=nc b) (hy:bb env y=.int .i64 k)
  (hO:pm O m (bj b es)):Gv P env O (Oper.mk (some d) (.lookup t x y true) ty pos af none) (.tup [r.getD zx,.bool r.isSome]):=fun I L E ρ h1 hL=>by
 subst hg
 obtain ⟨O',hO⟩:=hO
 obtain ⟨A,B,hp,⟨arr,clock,rfl,hM⟩,_⟩:=hO.rep hL
 have hin0:(b,Obj.map arr clock)∈L:=hp.mem_iff.2 (by simp)
 have hx:=gy h1 hx
 have hy:=fY h1 hy
 have hb:∀w J L',I.k.le J→SL J L' E w→(∀y∈L,y∈L')→w.heap[b]?=some (Obj.map arr clock):=fun w J L' hl hS hin=>by
  have:=hS.own _ (hin _ hin0);simpa using this
 have hc:∀w,(Instr.checkKey arr.isEmpty 10000 kt (kv k)).run P w=.ok () w:=fun w=>MapKept.run_checkKey (k:=kv k) hk (uD k) _ 9999
 rcases mz.get (k:=k) 0 hM with ⟨g1,g2,_⟩|⟨j,e0,v,x1,g1,_,_,g4,g5,_⟩
 ·rw[g2]
  refine ⟨.tuple #[zv,.bool false],⟨[_,_],Z,_,_,Z,hzr I,_,_,Z,Z,Z⟩,fun w J L' hl hS hin=>?_⟩
  have hb:=hb w J L' hl hS hin
  have hc:=hc w
  simp only[kv] at hc g1
  simp[execOp,Instr.lookup,run_underlying ht,hx,hy,MapKept.run_getObj_map hb,hc,MapKept.run_findKey hk g1,hz,Result.andThen]
 ·rw[g4]
  refine ⟨.tuple #[v,.bool true],⟨[_,_],Z,_,_,Z,g5,_,_,Z,Z,Z⟩,fun w J L' hl hS hin=>?_⟩
  have hb:=hb w J L' hl hS hin
  have hc:=hc w
  simp only[kv] at hc g1
  simp[execOp,Instr.lookup,run_underlying ht,hx,hy,MapKept.run_getObj_map hb,hc,MapKept.run_findKey hk g1,Result.andThen]
theorem Gv.lookup1A {k:Int} {m:Nat} {es:List (Int × AV)} {zx:AV} {zv:Value} {r:AV} (hg:(ag k es).getD zx=r) (ht:P.underlying t=some (.map kt u)) (hk:P.underlying kt=some (.int .i64)) (hz:∀w,(zeroValue u).run P w=.ok zv w) (hzr:∀I,bI I zx zv) (hx:bb env x=nc b) (hy:bb env y=.int .i64 k)
  (hO:pm O m (bj b es)):Gv P env O (Oper.mk (some d) (.lookup t x y false) ty pos af none) r:=fun I L E ρ h1 hL=>by
 subst hg
 obtain ⟨O',hO⟩:=hO
 obtain ⟨A,B,hp,⟨arr,clock,rfl,hM⟩,_⟩:=hO.rep hL
 have hin0:(b,Obj.map arr clock)∈L:=hp.mem_iff.2 (by simp)
 have hx:=gy h1 hx
 have hy:=fY h1 hy
 have hb:∀w J L',I.k.le J→SL J L' E w→(∀y∈L,y∈L')→w.heap[b]?=some (Obj.map arr clock):=fun w J L' hl hS hin=>by
  have:=hS.own _ (hin _ hin0);simpa using this
 have hc:∀w,(Instr.checkKey arr.isEmpty 10000 kt (kv k)).run P w=.ok () w:=fun w=>MapKept.run_checkKey (k:=kv k) hk (uD k) _ 9999
 rcases mz.get (k:=k) 0 hM with ⟨g1,g2,_⟩|⟨j,e0,v,x1,g1,_,_,g4,g5,_⟩
 ·rw[g2]
  refine ⟨zv,hzr I,fun w J L' hl hS hin=>?_⟩
  have hb:=hb w J L' hl hS hin
  have hc:=hc w
  simp only[kv] at hc g1
  simp[execOp,Instr.lookup,run_underlying ht,hx,hy,MapKept.run_getObj_map hb,hc,MapKept.run_findKey hk g1,hz,Result.andThen]
 ·rw[g4]
  refine ⟨v,g5,fun w J L' hl hS hin=>?_⟩
  have hb:=hb w J L' hl hS hin
  have hc:=hc w
  simp only[kv] at hc g1
  simp[execOp,Instr.lookup,run_underlying ht,hx,hy,MapKept.run_getObj_map hb,hc,MapKept.run_findKey hk g1,Result.andThen]
theorem az.mapSetA {k:Int} {m:Nat} {v:AV} {es:List (Int × AV)} (ht:P.underlying t=some (.map kt u)) (hk:P.underlying kt=some (.int .i64)) (hx:bb env x=nc b) (hy:bb env y=.int .i64 k) (hz:bb env z=v) (hO:gr O m (bj b es) (bj b (am k v es)) O')
  (kk:az P E ops K rest env O'):az P E ops K (Oper.mk none (.mapUpdate t x y z) ty pos af none::rest) env O:=fun I F ρ w h1 ⟨htop,L,hL,hS⟩=>by
 have hx:=gy h1 hx
 have hy:=fY h1 hy
 have hz2:=h1.ev z
 rw[hz] at hz2
 obtain ⟨uu,hu⟩:∃uu,Go.Proofs.YtbanfokidalbaaaGreatDoor.ev ρ z=uu:=⟨_,rfl⟩
 rw[hu] at hz2
 obtain ⟨A,B,hp,⟨arr,clock,rfl,he⟩,hback⟩:=hO.rep hL
 have hS2:SL I.k ((b,.map arr clock)::(B++F)) E w:=hS.perm ((hp.append_right F).symm)
 have hb:=hS2.own _ (.head _)
 simp only at hb
 have hc:(Instr.checkKey false 10000 kt (kv k)).run P w=.ok () w:=MapKept.run_checkKey (k:=kv k) hk (uD k) false 9999
 have fin:∀(arr':Array MapEntry) (clock':Nat),mz I (am k v es) (Ib arr') →
   (execOp (Go.Proofs.YtbanfokidalbaaaGreatDoor.ev ρ) (Oper.mk none (.mapUpdate t x y z) ty pos af none)).run P w=.ok .skip { w with heap:=w.heap.setIfInBounds b (.map arr' clock') }→bP P ops (fX I F E K) (Oper.mk none (.mapUpdate t x y z) ty pos af none::rest) ρ w:=fun arr' clock' he' hrun=>by
  refine bP.step Z ?_
  unfold eY
  rw[hrun]
  obtain ⟨L',h7,h8⟩:=hback (G.le.refl I) (A':=[(b,.map arr' clock')]) ⟨arr',clock',rfl,he'⟩
  have hh:=MapKept.heap_set (o':=.map arr' clock') hb
  have hS3:SL I.k ((b,.map arr' clock')::(B++F)) E { w with heap:=w.heap.setIfInBounds b (.map arr' clock') }:=hS2.turn rfl rfl rfl hh.1 hh.2
  exact kk I F ρ _ h1 ⟨htop,L',h7,hS3.perm (h8.append_right F)⟩
 rcases mz.get (k:=k) 0 he with ⟨g1,_,g3⟩|⟨j,e0,v1,x1,g1,g2,g3,_,_,g6⟩
 ·refine fin (arr.push { key:=kv k,val:=uu,born:=clock }) (clock+1) ?_ ?_
  ·have:=g3 v uu hz2
   unfold Ib;simpa using this
  ·simp only[kv] at hc g1
   simp[execOp,hx,hy,hu,Instr.mapUpdate,run_underlying ht,MapKept.run_getObj_map hb,hc,MapKept.run_findKey hk g1,MapKept.run_setObj_map _ hb,Result.andThen,kv]
 ·rw[Nat.zero_add] at g1
  have hj':arr[j]?=some e0:=by rw[←Array.getElem?_toList];exact g2
  refine fin (arr.modify j fun e=>{ e with key:=kv k,val:=uu }) clock ?_ ?_
  ·have hjl:j<arr.toList.length:=(List.getElem?_eq_some_iff.1 g2).1
   have:(arr.modify j fun e=>{ e with key:=kv k,val:=uu }).toList=arr.toList.set j { e0 with key:=kv k,val:=uu }:=by
    apply List.ext_getElem?
    intro q
    rw[Array.getElem?_toList,Array.getElem?_modify]
    by_cases hq:j=q
    ·subst hq
     rw[if_pos rfl,hj',List.getElem?_set_self hjl];rfl
    ·rw[if_neg hq,List.getElem?_set_ne hq,Array.getElem?_toList]
   unfold Ib
   rw[this,List.map_set];exact g6 v uu hz2
  ·have hkeep:(Instr.keyThatStays (kv k) (kv k)).run P w=.ok (kv k) w:=MapKept.run_keyThatStays (uD k)
   simp only[kv] at hc g1 g3 hkeep
   simp[execOp,hx,hy,hu,Instr.mapUpdate,run_underlying ht,MapKept.run_getObj_map hb,hc,MapKept.run_findKey hk g1,MapKept.run_setObj_map _ hb,Result.andThen,hj',g3,hkeep,kv]
end
end
section
open Go.Proofs.Tryz
abbrev EH:=Bool × Int
def ng (b:EH):List AV:=[.bool b.1,.int .i64 b.2]
def fD (es:List dI) (v:Int):List dI:=es.filter fun e=>decide (e.2.1=v)
def fL (f:ad) (v:Int):Option cS:=if 0≤(aB f v).1∧(aB f v).2<0 then (f.blocks[(aB f v).1.toNat]?).bind fun b=>b.phis.find? fun p=>decide (p.dst=v) else none
def qS (f:ad) (s v:Int):Bool:=decide (0≤(aB f s).1)&&(decide ((aB f s).1=(aB f v).1)||!iR (ao f) f.blocks.length (aB f s).1 (aB f v).1)
def jU (l:List be) (s:Int):EH:=if (fA (lv l s) (de 2)).2<(fA (lv l s) (de 2)).1 then (false,0) else (true,-(fA (lv l s) (de 2)).1)
def dS (f:ad) (k:Nat):List (Int × cS):=(f.blocks.take k).zipIdx.flatMap fun b=>b.1.phis.map fun p=>((b.2:Int),p)
theorem mA {f:ad} {k:Nat} (h:k<f.blocks.length):dS f (k+1)=dS f k++f.blocks[k].phis.map fun p=>((k:Int),p):=by
 unfold dS;rw[lH h,List.flatMap_append];simp
theorem lM {f:ad} {q:Int × cS}:q∈dS f f.blocks.length↔∃(i:Nat) (b:bc),f.blocks[i]?=some b∧q.2∈b.phis∧q.1=(i:Int):=by
 unfold dS
 rw[qv,List.mem_flatMap]
 constructor
 ·rintro ⟨⟨b,i⟩,hb,h⟩
  obtain ⟨p,hp,rfl⟩:=List.mem_map.1 h
  have:=List.mem_zipIdx_iff_getElem?.1 hb
  exact ⟨i,b,by simpa using this,hp,rfl⟩
 ·rintro ⟨i,b,hb,hp,e⟩
  exact ⟨(b,i),List.mem_zipIdx_iff_getElem?.2 (by simpa using hb),List.mem_map.2 ⟨q.2,hp,by rw[←e]⟩⟩
def oD {α:Type} (key:α→Int) (val:α→AV) (xs:List α):List (Int × AV):=xs.foldl (fun es x=>am (key x) (val x) es) []
theorem mB {α:Type} (key:α→Int) (val:α→AV) (xs:List α) (x:α):oD key val (xs++[x])=am (key x) (val x) (oD key val xs):=by unfold oD;rw[List.foldl_append];rfl
theorem qT {α:Type} (key:α→Int) (val:α→AV) (v:Int):∀(n:Nat) (xs:List α),xs.length=n→(∃x∈xs,key x=v∧ag v (oD key val xs)=some (val x))∨((∀x∈xs,key x≠v)∧ag v (oD key val xs)=none)
 |0,xs,h=>by
  obtain rfl:xs=[]:=List.eq_nil_of_length_eq_zero h
  exact .inr ⟨fun _ h=>(by cases h),rfl⟩
 |n+1,xs,h=>by
  obtain ⟨ys,x,rfl⟩:∃ys x,xs=ys++[x]:=⟨xs.dropLast,xs.getLast (by intro e;rw[e] at h;simp at h),(List.dropLast_concat_getLast _).symm⟩
  have hl:ys.length=n:=by simp at h;omega
  rw[mB,JI]
  by_cases c:v=key x
  ·rw[if_pos c];exact .inl ⟨x,by simp,c.symm,rfl⟩
  ·rw[if_neg c]
   rcases qT key val v n ys hl with ⟨y,hy,h1,h2⟩|⟨h1,h2⟩
   ·exact .inl ⟨y,List.mem_append_left _ hy,h1,h2⟩
   ·refine .inr ⟨fun y hy=>?_,h2⟩
    rcases List.mem_append.1 hy with hy|hy
    ·exact h1 y hy
    ·rw[List.mem_singleton.1 hy];exact fun e=>c e.symm
theorem qU {f:ad} {v:Int} (hl:(bm f v).length≤1) {i:Nat} {b:bc} (h:f.blocks[i]?=some b) {p:cS} (hp:p∈b.phis) (hd:p.dst=v):aB f v=((i:Int),-1)∧fL f v=some p:=by
 have hm:aB f v=((i:Int),-1):=na hl (fB.2 ⟨i,b,h,ib.2 (.inl ⟨p,hp,hd,rfl⟩)⟩)
 refine ⟨hm,?_⟩
 unfold fL
 rw[hm,if_pos ⟨by dsimp only;omega,by dsimp only;omega⟩]
 show (f.blocks[((i:Int)).toNat]?).bind _=_
 rw[show ((i:Int)).toNat=i from rfl,h]
 exact Fs hl h hp hd
theorem jB {f:ad} {v:Int} {p:cS} (h:fL f v=some p):∃(i:Nat) (b:bc),f.blocks[i]?=some b∧p∈b.phis∧p.dst=v∧(aB f v).1=(i:Int)∧(aB f v).2<0:=by
 unfold fL at h
 split at h
 ·rename_i c
  obtain ⟨b,hb,h2⟩:=Option.bind_eq_some_iff.1 h
  have h3:=List.find?_some h2
  exact ⟨(aB f v).1.toNat,b,hb,List.mem_of_find?_eq_some h2,by simpa using h3,by omega,c.2⟩
 ·cases h
def JJ (f:ad) (k:Nat):List (Int × AV):=oD (fun q:Int × cS=>q.2.dst) (fun q=>.agg (dg q.2)) (dS f k)
theorem Fx {f:ad} {v:Int} (hl:(bm f v).length≤1):ag v (JJ f f.blocks.length)=(fL f v).map fun p=>.agg (dg p):=by
 unfold JJ
 rcases qT (fun q:Int × cS=>q.2.dst) (fun q=>AV.agg (dg q.2)) v _ (dS f f.blocks.length) rfl with ⟨q,hq,h1,h2⟩|⟨h1,h2⟩
 ·rw[h2]
  obtain ⟨i,b,hb,hp,_⟩:=lM.1 hq
  rw[(qU hl hb hp h1).2];rfl
 ·rw[h2]
  cases h:fL f v with
  |none=>rfl
  |some p=>
   obtain ⟨i,b,hb,hp,hd,_,_⟩:=jB h
   exact absurd hd (h1 ((i:Int),p) (lM.2 ⟨i,b,hb,hp,rfl⟩))
def kO (f:ad) (a:Int) (q:Int × cS):Bool:=decide (a=q.1)||!iR (ao f) f.blocks.length a q.1
def gE (f:ad) (a:Int) (xs:List (Int × cS)):List (Int × AV):=oD (fun q:Int × cS=>q.2.dst) (fun _=>.int .i64 1) (xs.filter (kO f a))
theorem zT (f:ad) (a:Int) (xs:List (Int × cS)) (q:Int × cS):gE f a (xs++[q])=if kO f a q=true then am q.2.dst (.int .i64 1) (gE f a xs) else gE f a xs:=by
 unfold gE
 rw[List.filter_append]
 by_cases c:kO f a q=true
 ·rw[if_pos c,List.filter_cons_of_pos c,List.filter_nil,mB]
 ·rw[if_neg c,List.filter_cons_of_neg c,List.filter_nil,w5]
theorem Fy {f:ad} {v a:Int} (hl:(bm f v).length≤1) {p:cS} (hp:fL f v=some p):((ag v (gE f a (dS f f.blocks.length))).getD (.int .i64 0))=.int .i64 (if kO f a ((aB f v).1,p)=true then 1 else 0):=by
 obtain ⟨i,b,hb,hpm,hd,hmi,_⟩:=jB hp
 unfold gE
 rcases qT (fun q:Int × cS=>q.2.dst) (fun _=>AV.int .i64 1) v _ ((dS f f.blocks.length).filter (kO f a)) rfl with ⟨q,hq,h1,h2⟩|⟨h1,h2⟩
 ·rw[h2]
  obtain ⟨hq1,hq2⟩:=List.mem_filter.1 hq
  obtain ⟨j,c,hc,hqp,hqi⟩:=lM.1 hq1
  have h3:=qU hl hc hqp h1
  have:q.1=(aB f v).1:=by rw[h3.1,hqi]
  rw[if_pos (by unfold kO at hq2 ⊢;dsimp only;rw[←this];exact hq2)];rfl
 ·rw[h2]
  have hno:¬kO f a ((aB f v).1,p)=true:=fun h=>h1 ((aB f v).1,p) (List.mem_filter.2 ⟨lM.2 ⟨i,b,hb,hpm,hmi⟩,h⟩) hd
  rw[if_neg hno];rfl
theorem Ic {f:ad} {s v:Int} {p:cS}:qS f s v=(decide (0≤(aB f s).1)&&kO f (aB f s).1 ((aB f v).1,p)):=rfl
def kX (up:Bool) (a b:Int):Bool:=if up=true then decide (b<a) else decide (a<b)
theorem LO (x y:Int):kM 0 x y=if x<0 then mO else lc:=by unfold kM;simp
def fM (es:List dI) (m:Nat):List (List dI):=(List.range m).map fun (v:Nat)=>fD es v
theorem eT (es:List dI) (m:Nat):(fM es m).length=m:=by simp[fM]
theorem gj {es:List dI} {m v:Nat} (h:v<m):(fM es m)[v]?=some (fD es v):=by unfold fM;rw[qy,List.getElem?_range h];rfl
theorem Dq (m:Nat):List.replicate m []=fM [] m:=by
 refine List.ext_getElem? fun k=>?_
 by_cases h:k<m
 ·rw[gj h,List.getElem?_replicate,if_pos h];rfl
 ·rw[List.getElem?_eq_none (by simp;omega),List.getElem?_eq_none (by rw[eT];omega)]
theorem zU {es:List dI} {m:Nat} {e:dI} {v:Nat} (hv:e.2.1=(v:Int)):(fM es m).set v (fD es v++[e])=fM (es++[e]) m:=by
 refine List.ext_getElem? fun k=>?_
 by_cases h:k<m
 ·rw[gj h]
  by_cases c:k=v
  ·subst c
   rw[List.getElem?_set_self (by rw[eT];exact h)]
   unfold fD
   rw[List.filter_append,List.filter_cons_of_pos (by rw[hv];simp),List.filter_nil]
  ·rw[List.getElem?_set_ne (fun e=>c e.symm),gj h]
   unfold fD
   rw[List.filter_append,List.filter_cons_of_neg (by rw[hv];simp;omega),List.filter_nil,w5]
 ·rw[List.getElem?_eq_none (by rw[List.length_set,eT];omega),List.getElem?_eq_none (by rw[eT];omega)]
theorem tA (es:List dI) (v:Int):(fD es v).length≤es.length:=List.length_filter_le _ _
def l7 (i:Nat) (ps:List cS):List (Int × cS):=ps.map fun p=>((i:Int),p)
theorem qV {i:Nat} {ps:List cS} {j:Nat} (h:j<ps.length):l7 i (ps.take (j+1))=l7 i (ps.take j)++[((i:Int),ps[j])]:=by
 unfold l7;rw[qr h,List.map_append];rfl
def iA (xs:List (Int × cS)):List (Int × AV):=oD (fun q:Int × cS=>q.2.dst) (fun q=>.agg (dg q.2)) xs
theorem vW (xs:List (Int × cS)) (q:Int × cS):iA (xs++[q])=am q.2.dst (.agg (dg q.2)) (iA xs):=mB _ _ _ _
end
section
open Go.Proofs.Tryz
def Fz (f:ad):List Int:=(Bq f).map (·.1)
def FA (f:ad):Prop:=∀q∈Bq f,0≤q.1∧q.1<f.vars.length∧0≤(aB f q.1).1∧(q.2=true↔(aB f q.1).2=-1)
theorem vX {p:Nat→Prop}:∀(n:Nat),p n→∃k,k≤n∧p k∧∀i,i<k→¬p i
 |n,h=>by
  by_cases c:∃m,m<n∧p m
  ·obtain ⟨m,hm,hp⟩:=c
   obtain ⟨k,h1,h2,h3⟩:=vX m hp
   exact ⟨k,by omega,h2,h3⟩
  ·exact ⟨n,Nat.le_refl _,h,fun i hi hp=>c ⟨i,hi,hp⟩⟩
end
section
open Go.Proofs.Tryz
section
variable {n:Nat} {rule:List be→Int→be} {vs:List Int} {phi:Int→Prop} {rank:Int→Nat}
end
section
variable {n:Nat} {rule:List be→Int→be} {vs:List Int} {phi:Int→Prop} {t:Int→be}
end
def iB (g:Nat→Nat):Nat→Nat
 |0=>0
 |n+1=>iB g n+g n
theorem nZ {g g':Nat→Nat}:∀{n:Nat},(∀k,k<n→g k≤g' k)→iB g n≤iB g' n
 |0,_=>Nat.le_refl _
 |n+1,h=>by
  have:=nZ (n:=n) fun k hk=>h k (by omega)
  have:=h n (by omega)
  unfold iB;omega
theorem tB {g g':Nat→Nat} {j:Nat}:∀{n:Nat},(∀k,k<n→g k≤g' k)→j<n→g j<g' j→iB g n<iB g' n
 |0,_,h,_=>by omega
 |n+1,h,hj,hlt=>by
  have h1:=h n (by omega)
  rcases (by omega:j<n∨j=n) with c|c
  ·have:=tB (n:=n) (fun k hk=>h k (by omega)) c hlt
   unfold iB;omega
  ·have:=nZ (n:=n) fun k hk=>h k (by omega)
   subst c
   unfold iB;omega
theorem vY {g:Nat→Nat} (h:∀k,g k≤3):∀n,iB g n≤3*n
 |0=>Nat.le_refl _
 |n+1=>by have:=vY h n;have:=h n;unfold iB;omega
def FC (f:ad) (v:Int):Prop:=(aB f v).2=-1
def tC (f:ad) (M:Nat) (v:Int):Nat:=(gi (b5 (ao f) f.blocks.length) (aB f v).1).toNat*M+(aB f v).2.toNat
theorem FD {f:ad} (hE:bF f) {a b:Int} (hne:a≠b) (h:sx (ao f) a b):gi (b5 (ao f) f.blocks.length) a<gi (b5 (ao f) f.blocks.length) b∧0≤gi (b5 (ao f) f.blocks.length) a:=by
 have hG:=hE.grph
 have hb:=(fx hG.toEOk b).2 h.1
 have h1:=hG.lev_anc hb ((hG.dom_iff hb).1 h)
 exact ⟨by
  rcases (by omega:gi (b5 (ao f) f.blocks.length) b≤gi (b5 (ao f) f.blocks.length) a∨gi (b5 (ao f) f.blocks.length) a<gi (b5 (ao f) f.blocks.length) b) with c|c
  ·exact absurd (h1.2.2 c) hne
  ·exact c,hG.lev_nn h1.1⟩
theorem FE {f:ad} (hm:FA f) {v:Int} (h:v∈Fz f) (hp:¬FC f v):∃(i k:Nat) (b:bc) (x:aN),f.blocks[i]?=some b∧b.insts[k]?=some x∧x.dst=v∧aB f v=((i:Int),(k:Int)):=by
 obtain ⟨q,hq,rfl⟩:=List.mem_map.1 h
 obtain ⟨_,_,h2,_⟩:=hm q hq
 obtain ⟨i,b,h3,⟨p,h4,h5,h6⟩|⟨k,x,h4,h5,h6⟩⟩:=fC h2
 ·exact absurd (show FC f q.1 by unfold FC;rw[h6]) hp
 ·exact ⟨i,k,b,x,h3,h4,h5,h6⟩
theorem Id {f:ad} (hE:bF f) (hm:FA f) {M:Nat} (hM:∀b∈f.blocks,b.insts.length≤M) (hA:∀i:Nat,i<f.blocks.length→sZ (ao f) i) {v:Int} (hv:v∈Fz f):tC f M v≤f.blocks.length*M+M:=by
 have hG:=hE.grph
 unfold tC
 have hlev:∀i:Nat,i<f.blocks.length→(gi (b5 (ao f) f.blocks.length) (i:Int)).toNat≤f.blocks.length:=fun i hi=>by
  have ho:=(fx hG.toEOk (i:Int)).2 (hA i hi)
  have h1:=zF hG ho
  have h2:=hG.at_lt ho
  have h3:=fy hG
  omega
 by_cases hp:FC f v
 ·unfold FC at hp
  obtain ⟨q,hq,rfl⟩:=List.mem_map.1 hv
  obtain ⟨_,_,h2,_⟩:=hm q hq
  obtain ⟨i,b,h3,⟨p,h4,h5,h6⟩|⟨k,x,h4,h5,h6⟩⟩:=fC h2
  ·rw[h6]
   have:=Nat.mul_le_mul_right M (hlev i (List.getElem?_eq_some_iff.1 h3).1)
   dsimp only
   have e:((-1:Int)).toNat=0:=rfl
   omega
  ·rw[h6] at hp;dsimp only at hp;omega
 ·obtain ⟨i,k,b,x,h1,h2,h3,h4⟩:=FE hm hv hp
  rw[h4]
  have hk:=hM b (w3 h1)
  have hk2:=(List.getElem?_eq_some_iff.1 h2).1
  have:=Nat.mul_le_mul_right M (hlev i (List.getElem?_eq_some_iff.1 h1).1)
  dsimp only
  have e:((k:Int)).toNat=k:=rfl
  omega
end
section
open Go.Proofs.Tryz
abbrev b7:=Int × Int
def dF (A:List b7) (v:Int):b7:=(A[v.toNat]?).getD (0,0)
theorem jC {A:List b7} {v:Int} (h0:0≤v) (h:v<A.length):A[v.toNat]?=some (dF A v):=by
 unfold dF;rw[qq (by omega)];rfl
theorem gT {A:List b7} {v u:Int} (hv:0≤v) (hl:v<A.length) (x:b7) (hu:0≤u):dF (A.set v.toNat x) u=if u=v then x else dF A u:=by
 unfold dF
 by_cases e:u=v
 ·subst e;rw[if_pos rfl,List.getElem?_set_self (by omega)];rfl
 ·rw[if_neg e,List.getElem?_set_ne (by omega)]
def bU (up:Bool) (a b:b7):Bool:=if a.1=b.1 then decide (a.1=1)&&kX up a.2 b.2 else decide (b.1<a.1)
theorem Dr {a b:b7}:bU true a b=true↔b.1<a.1∨(a.1=b.1∧a.1=1∧b.2<a.2):=by
 unfold bU kX
 by_cases c:a.1=b.1
 ·rw[if_pos c];simp;omega
 ·rw[if_neg c];simp;omega
theorem Ds {a b:b7}:bU false a b=true↔b.1<a.1∨(a.1=b.1∧a.1=1∧a.2<b.2):=by
 unfold bU kX
 by_cases c:a.1=b.1
 ·rw[if_pos c];simp;omega
 ·rw[if_neg c];simp;omega
theorem tD {up:Bool} {a b c:b7} (h1:bU up a b=false) (h2:bU up b c=false):bU up a c=false:=by
 rw[Bool.eq_false_iff] at h1 h2 ⊢
 cases up
 ·rw[Ne,Ds] at h1 h2 ⊢;omega
 ·rw[Ne,Dr] at h1 h2 ⊢;omega
theorem pw {up:Bool} {a:b7}:bU up a a=false:=by
 rw[Bool.eq_false_iff]
 cases up
 ·rw[Ne,Ds];omega
 ·rw[Ne,Dr];omega
theorem FF {up:Bool} {a b:b7} (h:bU up a b=true):bU up b a=false:=by
 rw[Bool.eq_false_iff]
 cases up
 ·rw[Ds] at h;rw[Ne,Ds];omega
 ·rw[Dr] at h;rw[Ne,Dr];omega
theorem vZ {up:Bool} {a b:b7} (h:bU up a b=true):b.1<a.1∨(a.1=1∧b.1=1):=by
 cases up
 ·rw[Ds] at h;omega
 ·rw[Dr] at h;omega
theorem FG {up:Bool} {a b:b7} (h:b.1<a.1):bU up a b=true:=by
 cases up
 ·rw[Ds];exact .inl h
 ·rw[Dr];exact .inl h
def gF (up:Bool) (a:b7) (k:Int):b7:=if a.1=1 then (if dk 0 a.2 k then (1,a.2+k) else if decide (0<k)=up then (2,0) else (1,if 0<k then lc else mO)) else a
def nh (up:Bool) (A:List b7) (b:b7) (args:List Int):b7:=args.foldl (fun b a=>if bU up (dF A a) b=true then dF A a else b) b
def jJ (up:Bool) (A:List b7) (b:b7) (es:List dI):b7:=es.foldl (fun b e=>if bU up b (gF up (dF A e.1) e.2.2)=true then gF up (dF A e.1) e.2.2 else b) b
structure Sd where
 up:Bool
 s:Int
 n:Nat
 inE:Int→List dI
 ph:Int→Option cS
 shut:Int→Bool
def bW (S:Sd) (A:List b7) (v:Int):b7:=match S.ph v with
 |some p=>nh S.up A (if S.shut v=true then (2,0) else (0,0)) p.args
 |none=>jJ S.up A (2,0) (S.inE v)
def sL (a:b7):Prop:=0≤a.1∧a.1≤2∧aP a.2
structure iU (S:Sd) (A:List b7):Prop where
 len:A.length=S.n+1
 ok:∀u:Int,0≤u→sL (dF A u)
 src:dF A S.s=(1,0)
theorem LP:sL (0,0):=by unfold sL aP;decide
theorem Ie:sL (2,0):=by unfold sL aP;decide
theorem Nc:sL (1,0):=by unfold sL aP;decide
theorem Ig {up:Bool} {a:b7} (h:sL a) (k:Int):sL (gF up a k):=by
 unfold gF
 split
 ·split
  ·rename_i c;exact ⟨show (0:Int)≤1 by decide,show (1:Int)≤2 by decide,c⟩
  ·split
   ·exact Ie
   ·refine ⟨show (0:Int)≤1 by decide,show (1:Int)≤2 by decide,?_⟩
    show aP (if 0<k then lc else mO)
    unfold aP lc mO
    split<;>decide
 ·exact h
theorem Dt {S:Sd} {A:List b7} (h:iU S A) (v:Int):sL (dF A v):=by
 by_cases c:0≤v
 ·exact h.ok v c
 ·have:=h.ok 0 (Int.le_refl 0)
  unfold dF at this ⊢
  rwa [show v.toNat=(0:Int).toNat by omega]
theorem Bu {S:Sd} {A:List b7} (h:iU S A) (up:Bool):∀(args:List Int) (b:b7),sL b→sL (nh up A b args)
 |[],_,hb=>hb
 |a::args,b,hb=>by
  show sL (nh up A (if bU up (dF A a) b=true then dF A a else b) args)
  refine Bu h up args _ ?_
  split
  ·exact Dt h a
  ·exact hb
theorem Bv {S:Sd} {A:List b7} (h:iU S A) (up:Bool):∀(es:List dI) (b:b7),sL b→sL (jJ up A b es)
 |[],_,hb=>hb
 |e::es,b,hb=>by
  show sL (jJ up A (if bU up b (gF up (dF A e.1) e.2.2)=true then gF up (dF A e.1) e.2.2 else b) es)
  refine Bv h up es _ ?_
  split
  ·exact Ig (Dt h _) _
  ·exact hb
theorem qW {S:Sd} {A:List b7} (h:iU S A) (v:Int):sL (bW S A v):=by
 unfold bW
 split
 ·refine Bu h _ _ _ ?_
  split
  ·exact Ie
  ·exact LP
 ·exact Bv h _ _ _ Ie
theorem v6 {S:Sd} {A:List b7} (h:iU S A) (up:Bool):∀(args:List Int),nh up A (2,0) args=(2,0)
 |[]=>rfl
 |a::args=>by
  show nh up A (if bU up (dF A a) (2,0)=true then dF A a else (2,0)) args=_
  rw[if_neg (fun c=>by
   have h1:=vZ c
   have h2:=(Dt h a).2.1
   dsimp only at h1
   omega)]
  exact v6 h up args
def o5 (w:Bool) (S:Sd) (A:List b7) (v:Int):b7:=if w=true∧(S.ph v).isSome=true∧(dF A v).1=1 then (2,0) else bW S A v
def fZ (S:Sd) (A:List b7) (v:Int):Prop:=v≠S.s∧bU S.up (bW S A v) (dF A v)=true
instance (S:Sd) (A:List b7) (v:Int):Decidable (fZ S A v):=by unfold fZ;infer_instance
def d9 (w:Bool) (S:Sd) (x:List b7 × Bool) (v:Int):List b7 × Bool:=if fZ S x.1 v then (x.1.set v.toNat (o5 w S x.1 v),true) else x
def ef (w:Bool) (S:Sd) (us:List Nat) (x:List b7 × Bool):List b7 × Bool:=us.foldl (fun x (v:Nat)=>d9 w S x v) x
def n5 (w:Bool) (S:Sd) (x:List b7 × Bool):List b7 × Bool:=ef w S (List.range (S.n+1)) x
theorem zV (w:Bool) (S:Sd) (us:List Nat) (v:Nat) (x:List b7 × Bool):ef w S (us++[v]) x=d9 w S (ef w S us x) v:=by unfold ef;rw[List.foldl_append];rfl
theorem Kq {w:Bool} {S:Sd} {A:List b7} (h:iU S A) (v:Int):sL (o5 w S A v):=by
 unfold o5
 split
 ·exact Ie
 ·exact qW h v
theorem Ih {w:Bool} {S:Sd} {A:List b7} {v:Int} (hf:fZ S A v):bU S.up (o5 w S A v) (dF A v)=true:=by
 unfold o5
 split
 ·rename_i c;exact FG (by rw[c.2.2];decide)
 ·exact hf.2
theorem FH {S:Sd} {A:List b7} (h:iU S A) {v:Int} (h0:0≤v) (h1:v≤S.n) (hs:v≠S.s) (hs0:0≤S.s) {x:b7} (hx:sL x):iU S (A.set v.toNat x):=by
 have hl:=h.len
 refine ⟨by rw[List.length_set];exact hl,fun u hu=>?_,?_⟩
 ·rw[gT h0 (by omega) _ hu]
  split
  ·exact hx
  ·exact h.ok u hu
 ·rw[gT h0 (by omega) _ hs0,if_neg (fun e=>hs e.symm)];exact h.src
theorem lj {w:Bool} {S:Sd} (hs0:0≤S.s) {A:List b7} {c:Bool} (h:iU S A) {v:Int} (h0:0≤v) (h1:v≤S.n):iU S (d9 w S (A,c) v).1:=by
 unfold d9
 split
 ·rename_i hf;exact FH h h0 h1 hf.1 hs0 (Kq h v)
 ·exact h
theorem Ii {w:Bool} {S:Sd} {A:List b7} {c:Bool} (h:iU S A) {v:Int} (h0:0≤v) (h1:v≤S.n) {u:Int} (hu:0≤u):bU S.up (dF A u) (dF (d9 w S (A,c) v).1 u)=false:=by
 have hl:=h.len
 unfold d9
 split
 ·rename_i hf
  show bU S.up (dF A u) (dF (A.set v.toNat _) u)=false
  rw[gT h0 (by omega) _ hu]
  split
  ·rename_i e;rw[e];exact FF (Ih hf)
  ·exact pw
 ·exact pw
theorem uE {w:Bool} {S:Sd} (hs0:0≤S.s):∀(us:List Nat) (A:List b7) (c:Bool),(∀u∈us,u≤S.n)→iU S A→iU S (ef w S us (A,c)).1
 |[],_,_,_,h=>h
 |x::us,A,c,hu,h=>by
  have h1:=lj (w:=w) (c:=c) hs0 h (v:=(x:Int)) (by omega) (by have:=hu x (.head _);omega)
  exact uE hs0 us _ (d9 w S (A,c) x).2 (fun u h=>hu u (.tail _ h)) h1
theorem Bw {w:Bool} {S:Sd} (hs0:0≤S.s):∀(us:List Nat) (A:List b7) (c:Bool),(∀u∈us,u≤S.n)→iU S A→∀u:Int,0≤u→bU S.up (dF A u) (dF (ef w S us (A,c)).1 u)=false
 |[],_,_,_,_,_,_=>pw
 |x::us,A,c,hu,h,u,h0=>by
  have hx:=hu x (.head _)
  have h1:=lj (w:=w) (c:=c) hs0 h (v:=(x:Int)) (by omega) (by omega)
  have h2:=Ii (w:=w) (c:=c) h (v:=(x:Int)) (by omega) (by omega) h0
  exact tD h2 (Bw hs0 us _ (d9 w S (A,c) x).2 (fun u h=>hu u (.tail _ h)) h1 u h0)
def zW (S:Sd) (A:List b7) (k:Nat):Nat:=if (S.ph k).isSome=true then (2 - (dF A k).1).toNat else 0
def gM (S:Sd) (A:List b7):Nat:=iB (zW S A) (S.n+1)
theorem Bx {S:Sd} {A:List b7} (h:iU S A) {v:Int} (hf:fZ S A v) (hp:(S.ph v).isSome=true):(2 - (o5 true S A v).1).toNat<(2 - (dF A v).1).toNat:=by
 have h1:=qW h v
 have h2:=Dt h v
 have h3:=vZ hf.2
 unfold sL at h1 h2
 unfold o5
 by_cases c:(dF A v).1=1
 ·rw[if_pos ⟨rfl,hp,c⟩,c];decide
 ·rw[if_neg (fun e=>c e.2.2)];omega
theorem tE {S:Sd} {A:List b7} {c:Bool} (h:iU S A) {v:Int} (h0:0≤v) (h1:v≤S.n) (k:Nat):zW S (d9 true S (A,c) v).1 k≤zW S A k:=by
 have hl:=h.len
 unfold d9
 split
 ·rename_i hf
  show zW S (A.set v.toNat _) k≤_
  unfold zW
  split
  ·rename_i hp
   rw[gT h0 (by omega) _ (by omega)]
   split
   ·rename_i e;rw[e] at hp ⊢;exact Nat.le_of_lt (Bx h hf hp)
   ·exact Nat.le_refl _
  ·exact Nat.le_refl _
 ·exact Nat.le_refl _
theorem v7 {S:Sd} {A:List b7} {c:Bool} (h:iU S A) {v:Int} (h0:0≤v) (h1:v≤S.n):gM S (d9 true S (A,c) v).1≤gM S A:=nZ fun k _=>tE h h0 h1 k
theorem v8 {S:Sd} {A:List b7} {c:Bool} (h:iU S A) {v:Int} (h0:0≤v) (h1:v≤S.n) (hf:fZ S A v) (hp:(S.ph v).isSome=true):gM S (d9 true S (A,c) v).1<gM S A:=by
 have hl:=h.len
 have hv:((v.toNat:Nat):Int)=v:=wa h0
 refine tB (j:=v.toNat) (fun k _=>tE h h0 h1 k) (by omega) ?_
 unfold zW d9
 rw[if_pos hf,hv,if_pos hp,if_pos hp]
 show (2 - (dF (A.set v.toNat _) v).1).toNat<_
 rw[gT h0 (by omega) _ h0,if_pos rfl]
 exact Bx h hf hp
theorem nj {S:Sd} (hs0:0≤S.s):∀(us:List Nat) (A:List b7) (c:Bool),(∀u∈us,u≤S.n)→iU S A→gM S (ef true S us (A,c)).1≤gM S A
 |[],_,_,_,_=>Nat.le_refl _
 |x::us,A,c,hu,h=>by
  have hx:=hu x (.head _)
  have h1:=lj (w:=true) (c:=c) hs0 h (v:=(x:Int)) (by omega) (by omega)
  exact Nat.le_trans (nj hs0 us _ (d9 true S (A,c) x).2 (fun u h=>hu u (.tail _ h)) h1) (v7 h (by omega) (by omega))
section
variable {S:Sd} {rank:Int→Nat}
def qX (S:Sd) (rank:Int→Nat) (m:Nat) (B A:List b7):Prop:=∀u:Int,0≤u→u≤S.n→(u=S.s∨(S.ph u).isSome=true∨rank u<m)→dF B u=dF A u
def FI (S:Sd) (rank:Int→Nat):Prop:=∀v:Int,0≤v→v≤S.n→v≠S.s→S.ph v=none→∀e∈S.inE v,0≤e.1∧e.1≤S.n∧(e.1=S.s∨(S.ph e.1).isSome=true∨rank e.1<rank v)
def FJ (S:Sd) (rank:Int→Nat) (m:Nat) (A:List b7):Prop:=∀v:Nat,v≤S.n→(v:Int)≠S.s→S.ph v=none→rank v<m→bU S.up (bW S A v) (dF A v)=false
theorem qY {up:Bool} {A B:List b7}:∀(es:List dI) (b:b7),(∀e∈es,dF A e.1=dF B e.1)→jJ up A b es=jJ up B b es
 |[],_,_=>rfl
 |e::es,b,h=>by
  show jJ up A (if bU up b (gF up (dF A e.1) e.2.2)=true then gF up (dF A e.1) e.2.2 else b) es=jJ up B (if bU up b (gF up (dF B e.1) e.2.2)=true then gF up (dF B e.1) e.2.2 else b) es
  rw[h e (.head _)]
  exact qY es _ fun x hx=>h x (.tail _ hx)
theorem lN (hD:FI S rank) {A B:List b7} {v:Int} (h0:0≤v) (h1:v≤S.n) (hs:v≠S.s) (hp:S.ph v=none) (h:qX S rank (rank v) B A):bW S B v=bW S A v:=by
 unfold bW
 rw[hp]
 refine qY _ _ fun e he=>?_
 obtain ⟨a,b,c⟩:=hD v h0 h1 hs hp e he
 exact h _ a b c
theorem qX.le {m k:Nat} {A B:List b7} (h:qX S rank m B A) (hk:k≤m):qX S rank k B A:=fun u h0 h1 hc=>h u h0 h1 (by
 rcases hc with hc|hc|hc
 ·exact .inl hc
 ·exact .inr (.inl hc)
 ·exact .inr (.inr (by omega)))
theorem quiet (hs0:0≤S.s) (hD:FI S rank) {A:List b7} {m:Nat} (hA:FJ S rank m A):∀(us:List Nat) (B:List b7) (c:Bool),(∀u∈us,u≤S.n)→iU S B→qX S rank m B A→gM S (ef true S us (B,c)).1=gM S B →
  qX S rank m (ef true S us (B,c)).1 A∧∀v∈us,(v:Int)≠S.s→S.ph v=none→rank v=m→bU S.up (bW S A v) (dF (ef true S us (B,c)).1 v)=false
 |[],_,_,_,_,hsm,_=>⟨hsm,fun v hv=>by cases hv⟩
 |x::us,B,c,hu,hB,hsm,hpot=>by
  have hx:=hu x (.head _)
  have hu':∀u∈us,u≤S.n:=fun u h=>hu u (.tail _ h)
  have hl:=hB.len
  have h1:=lj (w:=true) (c:=c) hs0 hB (v:=(x:Int)) (by omega) (by omega)
  have p1:=v7 (c:=c) hB (v:=(x:Int)) (by omega) (by omega)
  have p2:=nj hs0 us _ (d9 true S (B,c) x).2 hu' h1
  have hpot:gM S (ef true S us (d9 true S (B,c) x)).1=gM S B:=hpot
  have p2:gM S (ef true S us (d9 true S (B,c) x)).1≤gM S (d9 true S (B,c) x).1:=p2
  have hle:=Bw (w:=true) hs0 us _ (d9 true S (B,c) x).2 hu' h1 x (by omega)
  have hle:bU S.up (dF (d9 true S (B,c) x).1 x) (dF (ef true S us (d9 true S (B,c) x)).1 x)=false:=hle
  have hsm1:qX S rank m (d9 true S (B,c) x).1 A∧((x:Int)≠S.s→S.ph x=none→rank x=m→bU S.up (bW S A x) (dF (d9 true S (B,c) x).1 x)=false):=by
   by_cases hf:fZ S B x
   ·have hnp:¬(S.ph x).isSome=true:=fun hp=>by
     have:=v8 (c:=c) hB (v:=(x:Int)) (by omega) (by omega) hf hp
     omega
    have hno:S.ph x=none:=by cases h:S.ph x;rfl;exact absurd (by rw[h];rfl) hnp
    have hrk:m≤rank x:=by
     rcases (by omega:m≤rank x∨rank x<m) with h|h
     ·exact h
     ·have a:=hA x hx hf.1 hno h
      rw[←lN hD (by omega) (by omega) hf.1 hno (hsm.le (by omega)),←hsm x (by omega) (by omega) (.inr (.inr h)),hf.2] at a
      cases a
    have e:(d9 true S (B,c) x).1=B.set x (bW S B x):=by
     unfold d9
     rw[if_pos hf]
     show B.set _ (o5 true S B x)=_
     unfold o5
     rw[if_neg (fun h=>hnp h.2.1)];rfl
    have ex:dF (B.set x (bW S B x)) x=bW S B x:=by
     have:=gT (A:=B) (v:=(x:Int)) (u:=(x:Int)) (by omega) (by omega) (bW S B x) (by omega)
     rwa [if_pos rfl] at this
    rw[e]
    refine ⟨fun u h0 h2 hc=>?_,fun _ _ hr=>?_⟩
    ·have:=gT (A:=B) (v:=(x:Int)) (u:=u) (by omega) (by omega) (bW S B x) h0
     have hne:u≠x:=fun e=>by
      subst e
      rcases hc with hc|hc|hc
      ·exact hf.1 hc
      ·exact hnp hc
      ·omega
     rw[if_neg hne] at this
     rw[←hsm u h0 h2 hc];exact this
    ·rw[ex,lN hD (by omega) (by omega) hf.1 hno (hsm.le (by omega))];exact pw
   ·have e:(d9 true S (B,c) x).1=B:=by unfold d9;rw[if_neg hf]
    rw[e]
    refine ⟨hsm,fun hs hno hr=>?_⟩
    rw[←lN hD (by omega) (by omega) hs hno (hsm.le (by omega))]
    exact Bool.eq_false_iff.2 fun h=>hf ⟨hs,h⟩
  obtain ⟨g1,g2⟩:=quiet hs0 hD hA us _ (d9 true S (B,c) x).2 hu' h1 hsm1.1 (by
   show gM S (ef true S us (d9 true S (B,c) x)).1=_
   omega)
  refine ⟨g1,fun v hv hs hno hr=>?_⟩
  rcases List.mem_cons.1 hv with rfl|hv
  ·exact tD (hsm1.2 hs hno hr) hle
  ·exact g2 v hv hs hno hr
theorem FK (hs0:0≤S.s) (hD:FI S rank) {A:List b7} {m:Nat} (hok:iU S A) (hA:FJ S rank m A) (hpot:gM S (n5 true S (A,false)).1=gM S A):FJ S rank (m+1) (n5 true S (A,false)).1:=fun v hv hs hno hr=>by
 have hu:∀u∈List.range (S.n+1),u≤S.n:=fun u h=>by rw[List.mem_range] at h;omega
 obtain ⟨h1,h2⟩:=quiet hs0 hD hA (List.range (S.n+1)) A false hu hok (fun _ _ _ _=>rfl) hpot
 have e:bW S (n5 true S (A,false)).1 v=bW S A v:=lN hD (by omega) (by omega) hs hno (h1.le (show rank v≤m by omega))
 rw[e]
 rcases (by omega:rank v<m∨rank v=m) with hr|hr
 ·show bU S.up _ (dF (ef true S (List.range (S.n+1)) (A,false)).1 v)=false
  rw[h1 v (by omega) (by omega) (.inr (.inr hr))];exact hA v hv hs hno hr
 ·exact h2 v (List.mem_range.2 (by omega)) hs hno hr
theorem Bz (hs0:0≤S.s) {A:List b7} {m:Nat} (hok:iU S A) (hA:FJ S rank m A) (hm:∀v:Nat,v≤S.n→rank v<m):∀(us:List Nat) (c:Bool),(∀u∈us,u≤S.n)→gM S (ef true S us (A,c)).1=gM S A→ef true S us (A,c)=(A,c)
 |[],_,_,_=>rfl
 |x::us,c,hu,hpot=>by
  have hx:=hu x (.head _)
  have hu':∀u∈us,u≤S.n:=fun u h=>hu u (.tail _ h)
  have hpot:gM S (ef true S us (d9 true S (A,c) x)).1=gM S A:=hpot
  have hnf:¬fZ S A x:=fun hf=>by
   cases hp:S.ph x with
   |none=>
    have:=hA x hx hf.1 hp (hm x hx)
    rw[hf.2] at this;cases this
   |some p=>
    have h1:=lj (w:=true) (c:=c) hs0 hok (v:=(x:Int)) (by omega) (by omega)
    have p1:=v8 (c:=c) hok (v:=(x:Int)) (by omega) (by omega) hf (by rw[hp];rfl)
    have p2:=nj hs0 us _ (d9 true S (A,c) x).2 hu' h1
    have p2:gM S (ef true S us (d9 true S (A,c) x)).1≤gM S (d9 true S (A,c) x).1:=p2
    omega
  have e:d9 true S (A,c) x=(A,c):=by unfold d9;rw[if_neg hnf]
  show ef true S us (d9 true S (A,c) x)=_
  rw[e] at hpot ⊢
  exact Bz hs0 hok hA hm us c hu' hpot
end
def wd (S:Sd):List b7:=(List.replicate (S.n+1) (0,0)).set S.s.toNat (1,0)
def fw (S:Sd):Nat→List b7
 |0=>wd S
 |i+1=>(n5 (decide (4≤i+1)) S (fw S i,false)).1
def l3 (S:Sd) (i:Nat):Bool:=(n5 (decide (4≤i+1)) S (fw S i,false)).2
structure oE (S:Sd) (K:Nat):Prop where
 still:l3 S K=false
 moves:∀i,i<K→l3 S i=true
def Du (S:Sd) (A:List b7) (v:Int):List b7:=if v≠S.s∧bU S.up (dF A v) (bW S A v)=true then A.set v.toNat (bW S A v) else A
def sM (S:Sd) (k:Nat) (A:List b7):List b7:=(List.range k).foldl (fun A (v:Nat)=>Du S A v) A
def LQ (S:Sd) (A:List b7):List b7:=sM S (S.n+1) A
def uF (S:Sd) (A:List b7):Nat→List b7
 |0=>A
 |q+1=>LQ S (uF S A q)
def n6 (S:Sd) (K:Nat):List b7:=uF S (fw S (K+1)) 2
theorem n7 (S:Sd) (k:Nat) (A:List b7):sM S (k+1) A=Du S (sM S k A) k:=by unfold sM;rw[List.range_succ,List.foldl_append];rfl
theorem Ij {S:Sd} (hs0:0≤S.s) (hs1:S.s≤S.n):iU S (wd S):=by
 have hl:(List.replicate (S.n+1) ((0,0):b7)).length=S.n+1:=List.length_replicate
 have h0:∀u:Int,dF (List.replicate (S.n+1) ((0,0):b7)) u=(0,0):=fun u=>by
  unfold dF
  rw[List.getElem?_replicate]
  split<;>rfl
 refine ⟨by unfold wd;rw[List.length_set];exact hl,fun u hu=>?_,?_⟩
 ·unfold wd
  rw[gT hs0 (by omega) _ hu]
  split
  ·exact Nc
  ·rw[h0];exact LP
 ·unfold wd
  rw[gT hs0 (by omega) _ hs0,if_pos rfl]
theorem Ik {w:Bool} {S:Sd} (hs0:0≤S.s) {A:List b7} {c:Bool} (h:iU S A):iU S (n5 w S (A,c)).1:=uE hs0 _ _ _ (fun u h=>by rw[List.mem_range] at h;omega) h
theorem ll {S:Sd} (hs0:0≤S.s) (hs1:S.s≤S.n):∀i,iU S (fw S i)
 |0=>Ij hs0 hs1
 |i+1=>Ik hs0 (ll hs0 hs1 i)
theorem Il {S:Sd} (hs0:0≤S.s) {A:List b7} (h:iU S A) {v:Int} (h0:0≤v) (h1:v≤S.n):iU S (Du S A v):=by
 unfold Du
 split
 ·rename_i c;exact FH h h0 h1 c.1 hs0 (qW h v)
 ·exact h
theorem px {S:Sd} (hs0:0≤S.s) {A:List b7} (h:iU S A):∀k,k≤S.n+1→iU S (sM S k A)
 |0,_=>h
 |k+1,hk=>by rw[n7];exact Il hs0 (px hs0 h k (by omega)) (by omega) (by omega)
theorem ky {S:Sd} (hs0:0≤S.s) {A:List b7} (h:iU S A):∀q,iU S (uF S A q)
 |0=>h
 |q+1=>px hs0 (ky hs0 h q) _ (Nat.le_refl _)
theorem Im {S:Sd} {A:List b7} (h:iU S A):gM S A≤3*(S.n+1):=vY (fun k=>by
 unfold zW
 have:=h.ok (k:Int) (by omega)
 unfold sL at this
 split<;>omega) _
theorem Io {S:Sd} (hs0:0≤S.s) (hs1:S.s≤S.n) {rank:Int→Nat} {R:Nat} (hrk:∀v:Nat,v≤S.n→rank v≤R) (hD:FI S rank):∃K,oE S K∧K≤3+3*(S.n+1)*(R+2)+(R+1):=by
 have hu:∀u∈List.range (S.n+1),u≤S.n:=fun u h=>by rw[List.mem_range] at h;omega
 have key:∀i,3≤i→(∀j,j<i→l3 S j=true)→∃t,t≤R+1∧FJ S rank t (fw S i)∧i+gM S (fw S i)*(R+2)≤3+3*(S.n+1)*(R+2)+t:=fun i hi=>by
  induction i with
  |zero=>omega
  |succ i ih=>
   intro hall
   rcases (by omega:i=2∨3≤i) with rfl|hi3
   ·refine ⟨0,by omega,fun _ _ _ _ h=>by omega,?_⟩
    have:=Nat.mul_le_mul_right (R+2) (Im (ll hs0 hs1 (2+1)))
    omega
   ·obtain ⟨t,ht,hst,hle⟩:=ih hi3 (fun j hj=>hall j (by omega))
    have hok:=ll hs0 hs1 i
    have ew:decide (4≤i+1)=true:=w7 (by omega)
    have e:fw S (i+1)=(n5 true S (fw S i,false)).1:=by show (n5 (decide (4≤i+1)) S (fw S i,false)).1=_;rw[ew]
    have hp:gM S (fw S (i+1))≤gM S (fw S i):=by rw[e];exact nj hs0 _ _ _ hu hok
    rcases Nat.lt_or_eq_of_le hp with hlt|heq
    ·have h3:=Nat.mul_le_mul_right (R+2) (Nat.succ_le_of_lt hlt)
     rw[Nat.succ_mul] at h3
     exact ⟨0,by omega,fun _ _ _ _ h=>by omega,by omega⟩
    ·rw[heq]
     rw[e] at heq ⊢
     rcases (by omega:t=R+1∨t<R+1) with htr|htr
     ·have h1:=Bz hs0 hok hst (fun v hv=>by have:=hrk v hv;omega) (List.range (S.n+1)) false hu heq
      have h2:=hall i (by omega)
      unfold l3 at h2
      rw[ew] at h2
      have h1:n5 true S (fw S i,false)=(fw S i,false):=h1
      rw[h1] at h2;cases h2
     ·exact ⟨t+1,by omega,FK hs0 hD hok hst heq,by omega⟩
 obtain ⟨B,hB⟩:∃B,3+3*(S.n+1)*(R+2)+(R+1)=B:=⟨_,rfl⟩
 have hex:∃i,i≤B∧l3 S i=false:=Classical.byContradiction fun hn=>by
  have hall:∀j,j<B+1→l3 S j=true:=fun j hj=>by
   cases h:l3 S j with
   |true=>rfl
   |false=>exact absurd ⟨j,by omega,h⟩ hn
  obtain ⟨t,ht,_,hle⟩:=key (B+1) (by omega) hall
  omega
 obtain ⟨i,hi,hf⟩:=hex
 obtain ⟨k,h1,h2,h3⟩:=vX (p:=fun i=>l3 S i=false) i hf
 refine ⟨k,⟨h2,fun j hj=>?_⟩,by omega⟩
 cases h:l3 S j with
 |true=>rfl
 |false=>exact absurd h (h3 j hj)
end
section
open Go.Proofs.Tryz
open Go.Proofs
variable {E:World}
set_option maxRecDepth 20000
def sv {α:Type} (l:List α):Prop:=l.length≤140737488355328
def BA (p:cS):Prop:=sv p.args∧sv p.from_
def LR (b:bc):Prop:=sv b.phis∧sv b.insts∧(∀p∈b.phis,BA p)∧(∀x∈b.insts,sv x.args)
def uG (f:ad):Prop:=sv f.vars∧sv f.params∧sv f.blocks∧∀b∈f.blocks,LR b
theorem sv.lt {α:Type} {l:List α} (h:sv l):l.length≤140737488355328:=h
theorem jb {x y:Bool} (h:x=y):AV.bool x=AV.bool y:=congrArg AV.bool h
theorem Kr (k:Nat):∀I v,bI I (.raw (.slice none 0 0)) v→bI I (.fro k []) v:=fun _ _ h=>⟨none,0,0,h,rfl,Nat.le_refl _,fun _=>rfl,trivial⟩
theorem Ks (a b c d:Int) (w:World) (m:Nat):(Op.equalIn (m+2) 47 (.agg [.int .i64 a,.int .i64 b].toArray) (.agg [.int .i64 c,.int .i64 d].toArray)).run prog w=.ok (decide (a=c∧b=d)) w:=by
 rw[Op.equalIn]
 simp only[Sem.run_bind,run_underlying Z4,Result.andThen_ok]
 simp only[Std.Legacy.Range.forIn_eq_forIn_range',Std.Legacy.Range.size,Nat.sub_zero,Nat.add_sub_cancel,Nat.div_one,List.range'_succ,List.range'_zero,List.forIn_cons,List.forIn_nil]
 simp[part,jc,ja,run_equalIn_int,Y0]
 by_cases h1:a=c<;>by_cases h2:b=d<;>simp[h1,h2]
theorem we (xs ys:List Int) (hl:sv xs):aJ prog E 95 [.fro 1 (xs.map fa),.fro 1 (ys.map fa)] (.bool (decide (xs=ys))):=by
 have hl:=hl.lt
 refine zo func95 Z (by decide) Z<|ah<|ac Z<|z6<|zc<|ah<|aU Z<|ak j9 Z<|aU Z<|ak j9 Z<|aH Z Z<|z6<|zt Z (fun c0=>?_) (fun c0=>?_)
 ·have h:¬xs=ys:=fun e=>by subst e;simp at c0
  refine ah<|ac Z<|z6<|zg<|zk (x:=.bool _) Z ?_
  rw[w8 h]
 ·have hl2:xs.length=ys.length:=by simp at c0;omega
  refine zd<|zc<|ah<|aU Z<|ak j9 Z<|aa Z<|z6<|zh<|ya (γ:=Nat) [0,1,12] (fun k=>[(13,.int .i64 k)]) (fun k=>[]) (fun k=>k≤xs.length∧xs.take k=ys.take k) (fun k=>xs.length - k) 0 aG aC (⟨qt _,Z⟩) ?_
  rintro k ⟨hk,he⟩
  refine ah<|aw Z Z<|z6<|zc<|zp Z (fun ck=>?_) (fun ck=>?_)
  ·have hk2:k<xs.length:=by omega
   have hk3:k<ys.length:=by omega
   refine zd<|zc<|zh<|ah<|aa Z<|ay Z<|z6<|zc<|y7 (fun j=>false) (by kernel_rfl) Z (zn (.rest _))<|au 0 Z (kl Z)<|au 1 Z (cG Z)<|au 2 Z (q9 j9 ja Z Z Z (qq (by omega)))<|au 3 Z (du jc Z)<|au 4 Z (kl Z)<|au 5 Z (cG Z)<|au 6 Z (q9 j9 ja Z Z Z (qq (by omega)))<|au 7 Z (du jc Z)<|au 8 Z (qn Z Z)<|bY<|zt Z (fun cd=>?_) (fun cd=>?_)
   ·refine ah<|ac Z<|z6<|zg<|zk (x:=.bool _) Z ?_
    rw[w8 (LH hk2 hk3 (by simpa using cd))]
   ·refine zd<|aM<|aA Z Z<|aa Z<|z6 ?_
    exact ⟨k+1,dC,aG,aC,⟨hk2,C9 hk2 hk3 he (by simpa using cd)⟩,by omega⟩
  ·refine y9<|ah<|ac Z<|z6<|zg<|zk (x:=.bool _) Z ?_
   rw[w7 (Da hl2 (by omega) he)]
end
section
open Go.Proofs.Tryz
open Go.Proofs
variable {E:World}
set_option maxRecDepth 20000
theorem o6 {p:Int→Bool} {fn:FuncId} {c:List AV} (xs:List Int) (hl:xs.length≤281474976710656) (hp:∀x∈xs,aJ prog E fn ([.int .i64 x]++c) (.bool (p x))) :
  aJ prog E 146 [.fro 1 (xs.map fa),.fn fn [] c] (.int .i64 (cU p xs 0)):=by
 refine zo func146 Z (by decide) Z<|ah<|ay Z<|z6<|zc<|ah<|aU Z<|ak j9 Z<|aa Z<|z6<|zh<|ya (γ:=Nat) [0,1,7] (fun k=>[(8,.int .i64 k)]) (fun k=>[]) (fun k=>k≤xs.length∧(xs.take k).all (fun x=>!p x)) (fun k=>xs.length - k) 0 aG aC (⟨qt _,Z⟩) ?_
 rintro k ⟨hk,hall⟩
 refine ah<|aw Z Z<|z6<|zc<|zp Z (fun ck=>?_) (fun ck=>?_)
 ·have hk2:k<xs.length:=by omega
  refine zd<|zc<|zh<|ah<|aa Z<|ay Z<|z6<|ah<|za (yl (v:=.fn _ _ _) Z)<|aU Z<|aa Z<|za (q9 j9 ja Z Z Z (qq (by omega)))<|ax jc Z<|az.callVP Z (hp _ (qu hk2)) Z<|z6<|zt Z (fun cp=>?_) (fun cp=>?_)
  ·refine ah<|aa Z<|ay Z<|z6<|zg<|zk (x:=.int _ _) Z ?_
   rw[bR p xs k hk hall,List.drop_eq_getElem_cons hk2,cU,if_pos cp]
  ·refine zd<|aM<|aA Z Z<|aa Z<|z6 ?_
   exact ⟨k+1,dC,aG,aC,⟨hk2,by rw[qr hk2,List.all_append,hall];simp[cp]⟩,by omega⟩
 ·have hkn:k=xs.length:=by omega
  refine y9<|ah<|ay Z<|z6<|zg<|zk (x:=.int _ _) Z ?_
  rw[bR p xs k hk hall,hkn,List.drop_length,cU]
theorem mC {p:Int→Bool} {fn:FuncId} {c:List AV} (xs:List Int) (hl:xs.length≤281474976710656) (hp:∀x∈xs,aJ prog E fn ([.int .i64 x]++c) (.bool (p x))) :
  aJ prog E 107 [.fro 1 (xs.map fa),.fn fn [] c] (.bool (xs.any p)):=by
 refine zo func107 Z (by decide) Z<|ah<|ac Z<|z6<|ah<|aU Z<|za (yl (v:=.fn _ _ _) Z)<|ze (o6 xs hl hp) Z<|za (qa Z Z)<|ac Z<|z6<|zg<|zk (x:=.bool _) Z ?_
 rw[fz]
def bJ (f:ad) (v:Int):Int:=((f.vars[v.toNat]?).map (·.ty)).getD 0
theorem wg {f:ad} {v:Int} (h:bz f v=true):∃x,f.vars[v.toNat]?=some x∧v=(v.toNat:Int)∧bJ f v=x.ty:=by
 unfold bz at h
 simp only[w9,wc] at h
 have hl:v.toNat<f.vars.length:=by omega
 refine ⟨f.vars[v.toNat],qq hl,by omega,?_⟩
 unfold bJ;rw[qq hl];rfl
theorem fE (f:ad) (v:Int) (hv:bz f v=true):aJ prog E 167 [.agg (bL f),.int .i64 v] (.int .i64 (bJ f v)):=by
 obtain ⟨x,hx,hv2,hk⟩:=wg hv
 rw[hk]
 refine zo func167 Z (by decide) Z<|ah<|yb (cs:=_) Z Z Z<|ay Z<|z6<|ah<|ae je Z Zg Z Z<|aI Zp Z<|aa Z<|za (bD v.toNat js Zx Z Z hv2 hx)<|ae Zd Z Yj Z Z<|ax Yv Z<|ay Z<|z6<|zg<|zk (x:=.int _ _) Z ?_
 rfl
theorem FL (op:Int):aJ prog E 168 [.int .i64 op] (.bool (decide (op=1))):=by
 refine zo func168 Z (by decide) Z<|ah<|ac Z<|z6<|ah<|aa Z<|aj Z Z<|ac Z<|z6<|zg<|zk (x:=.bool _) Z ?_
 simp_all
theorem FM:∀{l:List Int} (h:0<l.length),l.headD 0=l[0]
 |[],h=>absurd h (Nat.lt_irrefl 0)
 |_::_,_=>rfl
def iC (f:ad) (x:aN):Bool:=if x.op=1 then decide (bJ f x.dst=bJ f (x.args.headD 0)) else decide (x.args.map (bJ f)=bq x.op)&&(!eK x.op||decide (bJ f x.dst=mm x.op))
theorem jK {f:ad} {xs ts:List Int} {k:Nat} (h1:k<xs.length) (h2:k<ts.length) (h:(xs.take k).map (bJ f)=ts.take k) (hk:bJ f xs[k]=ts[k]):(xs.take (k+1)).map (bJ f)=ts.take (k+1):=by
 rw[qr h1,qr h2,List.map_append,h,List.map_cons,List.map_nil,hk]
theorem FN {f:ad} {xs ts:List Int} {k:Nat} (h1:k<xs.length) (h2:k<ts.length) (hk:¬bJ f xs[k]=ts[k]):¬xs.map (bJ f)=ts:=by
 intro e
 apply hk
 subst e
 rw[List.getElem_map]
theorem zX (f:ad) (x:aN) (ha:x.args.all (bz f)=true) (hl:x.args.length=(bq x.op).length) (hd:eK x.op=true→bz f x.dst=true) :
  aJ prog E 122 [.agg (bL f),.agg (cK x)] (.bool (iC f x)):=by
 have hlen:(bq x.op).length≤3:=by
  rcases m1 x.op with h|h
  ·unfold bq;rw[h];decide
  ·have:∀r∈gz,r.2.1.data.toList.length≤3:=by decide
   have:=this _ h
   unfold bq;simpa using this
 refine zo func122 Z (by decide) Z<|ah<|yb (cs:=_) Z Z Z<|yb (cs:=_) Z Z Z<|ac Z<|z6<|zc<|ah<|ae j8 Z Zq Z Z<|ax Zz Z<|ze (FL _) Z<|z6<|zp Z (fun c1=>?_) (fun c1=>?_)
 ·have e1:x.op=1:=by simpa using c1
  have hlz:0<x.args.length:=by rw[hl,e1];decide
  have hv0:bz f x.args[0]=true:=List.all_eq_true.1 ha _ (qu hlz)
  have hvd:bz f x.dst=true:=hd (by rw[e1];decide)
  refine zc<|y7 (fun j=>false) (by kernel_rfl) Z (zn (.rest _))<|au 0 Z (yk jm jh Z Z)<|au 1 Z (cA j8 Z ja Z Z)<|au 2 Z (du jc Z)<|au 4 Z (yk jm jh Z Z)<|au 5 Z (cA j8 Z jg Z Z)<|au 6 Z (iS jn Z)<|au 7 Z (bD 0 j9 ja Z Z Z (qq hlz))<|au 8 Z (du jc Z)<|aV 3 Z<|ze (fE _ _ (by assumption)) Z<|z6<|aV 9 Z<|ze (fE _ _ (by assumption)) Z<|z6<|au 10 Z (Gv.eqlI Z Z)<|au 11 Z (HM Z)<|bY<|zg<|zk (x:=.bool _) Z ?_
  exact jb (by unfold iC;rw[if_pos e1,FM hlz])
 ·have e1:¬x.op=1:=by simpa using c1
  refine zd<|zc<|ah<|ae j8 Z Zq Z Z<|ax Zz Z<|ze (pW _) Z<|ak underlying136 Z<|aa Z<|z6<|zh<|ya (γ:=Nat) [2,3,25,26] (fun k=>[(27,.int .i64 k)]) (fun k=>[]) (fun k=>k≤(bq x.op).length∧(x.args.take k).map (bJ f)=(bq x.op).take k) (fun k=>(bq x.op).length - k) 0 aG aC (⟨qt _,Z⟩) ?_
  rintro k ⟨hk,hall⟩
  refine ah<|aw Z Z<|z6<|zc<|zp Z (fun ck=>?_) (fun ck=>?_)
  ·have hk2:k<(bq x.op).length:=by simp at ck;omega
   have hk3:k<x.args.length:=by omega
   have hvk:bz f x.args[k]=true:=List.all_eq_true.1 ha _ (qu hk3)
   refine zd<|zc<|zh<|ah<|aa Z<|za (bD k underlying136 Yj Z Z Z (qq hk2))<|ax Yv Z<|ay Z<|ay Z<|z6<|zc<|y7 (fun j=>false) (by kernel_rfl) Z (zn (.rest _))<|au 0 Z (yk jm jh Z Z)<|au 1 Z (cA j8 Z jg Z Z)<|au 2 Z (iS jn Z)<|au 3 Z (cG Z)<|au 4 Z (bD k j9 ja Z Z Z (qq hk3))<|au 5 Z (du jc Z)<|au 7 Z (cG Z)<|aV 6 Z<|ze (fE _ _ (by assumption)) Z<|z6<|au 8 Z (qn Z Z)<|bY<|zt Z (fun cn=>?_) (fun cn=>?_)
   ·refine ah<|ac Z<|z6<|zg<|zk (x:=.bool _) Z ?_
    exact jb (by unfold iC;rw[if_neg e1,w8 (FN hk3 hk2 (by simpa using cn))];rfl)
   ·refine zd<|aM<|aA Z Z<|aa Z<|z6 ?_
    exact ⟨k+1,e7,aG,aC,⟨hk2,jK hk3 hk2 hall (by simpa using cn)⟩,by omega⟩
  ·have hkn:k=(bq x.op).length:=by simp at ck;omega
   subst hkn
   rw[qv,←hl,qv] at hall
   refine y9<|ah<|ae j8 Z Zq Z Z<|ax Zz Z<|ze (pX _) Z<|za (m6 Z)<|za (mq Z Z)<|za (sH Z Z)<|ay Z<|ac Z<|z6<|ah<|ai Z<|aF Z<|ai Z<|zm (s:=50) Z (fun c1=>?_) (fun c1=>?_)
   ·refine z7 Z Z c1<|z7 Z Z c1<|z7 Z Z c1<|z7 Z Z c1<|z7 Z Z c1<|z7 Z Z c1<|ap Z c1 Z<|ac Z<|z6<|zg<|zk (x:=.bool _) Z ?_
    exact jb (by unfold iC;rw[if_neg e1,w7 hall];simp_all)
   ·refine z8 Z Z c1<|ab jm jh Z Z<|z8 Z Z c1<|ae j8 Z ja Z Z<|z8 Z Z c1<|ax jc Z<|z8 Z Z c1<|ze (fE f x.dst (hd (by simp_all))) Z<|z8 Z Z c1<|aa Z<|z8 Z Z c1<|aj Z Z<|aq Z c1 Z<|ac Z<|z6<|zg<|zk (x:=.bool _) Z ?_
    exact jb (by unfold iC;rw[if_neg e1,w7 hall];simp_all)
def uH (f:ad) (p:cS):Bool:=!(p.args.any fun v=>!decide (bJ f v=bJ f p.dst))
theorem zY (f:ad) (p:cS) (v:Int) (hv:bz f v=true) (hd:bz f p.dst=true):aJ prog E 166 ([.int .i64 v]++[.pf (bL f),.pf (dg p)]) (.bool (!decide (bJ f v=bJ f p.dst))):=by
 refine zo func166 Z (by decide) Z<|ah<|ac Z<|z6<|zc<|y7 (fun j=>false) (by kernel_rfl) Z (zn (.rest _))<|au 0 Z (yk jm jh Z Z)<|au 1 Z (cG Z)<|au 3 Z (yk jm jh Z Z)<|au 4 Z (cA jt Z ja Z Z)<|au 5 Z (du jc Z)<|aV 2 Z<|ze (fE _ _ (by assumption)) Z<|z6<|aV 6 Z<|ze (fE _ _ (by assumption)) Z<|z6<|au 7 Z (qn Z Z)<|au 8 Z (HM Z)<|bY<|zg<|zk (x:=.bool _) Z ?_
 simp_all
theorem Dv (f:ad) (p:cS) (hp:BA p) (ha:p.args.all (bz f)=true) (hd:bz f p.dst=true):aJ prog E 121 [.agg (bL f),.agg (dg p)] (.bool (uH f p)):=by
 have hl1:=hp.1.lt
 refine zo func121 Z (by decide) Z<|ah<|yb (cs:=_) Z Z Z<|yb (cs:=_) Z Z Z<|ac Z<|z6<|ah<|ae jt Z jg Z Z<|aI jn Z<|za (Gv.func Z Z)<|ze (mC p.args (by omega) (fun v hv=>zY f p v (List.all_eq_true.1 ha v hv) hd)) Z<|aF Z<|ac Z<|z6<|zg<|zk (x:=.bool _) Z ?_
 rfl
def eg (f:ad) (t:gA):Bool:=if t.kind=0 then !decide (t.to0=0) else if t.kind=1 then decide (bJ f t.var=1)&&!decide (t.to0=0)&&!decide (t.to1=0) else decide (bJ f t.var=0)
theorem zZ (f:ad) (t:gA) (h:¬t.kind=0→bz f t.var=true):aJ prog E 123 [.agg (bL f),.agg (pp t)] (.bool (eg f t)):=by
 refine zo func123 Z (by decide) Z<|ah<|yb (cs:=_) Z Z Z<|yb (cs:=_) Z Z Z<|ac Z<|z6<|zc<|ah<|ae jj Z Yg Z Z<|ax Ys Z<|z6<|zh<|ah<|aj Z Z<|ac Z<|z6<|zt Z (fun c2=>?_) (fun c2=>?_)
 ·refine ah<|ae jj Z Zk Z Z<|za (yp (j:=0) Z4 ja Z Z Z (by decide) Z)<|ax jc Z<|aH Z Z<|ac Z<|z6<|zg<|zk (x:=.bool _) Z ?_
  exact jb (by unfold eg;simp_all)
 ·refine ah<|aj Z Z<|ac Z<|z6<|zt Z (fun c3=>?_) (fun c3=>?_)
  ·refine ah<|ab jm jh Z Z<|ae jj Z ja Z Z<|ax jc Z<|ze (fE f t.var (h (by simp_all))) Z<|aj Z Z<|ai Z<|zm (s:=20) Z (fun c4=>?_) (fun c4=>?_)
   ·refine z8 Z Z c4<|ae jj Z Zk Z Z<|z8 Z Z c4<|za (yp (j:=0) Z4 ja Z Z Z (by decide) Z)<|z8 Z Z c4<|ax jc Z<|z8 Z Z c4<|aH Z Z<|ap Z c4 Z<|ai Z<|zm (s:=26) Z (fun c5=>?_) (fun c5=>?_)
    ·refine z8 Z Z c5<|ae jj Z Zk Z Z<|z8 Z Z c5<|za (yp (j:=1) Z4 ja Z Z Z (by decide) Z)<|z8 Z Z c5<|ax jc Z<|z8 Z Z c5<|aH Z Z<|ap Z c5 Z<|ac Z<|z6<|zg<|zk (x:=.bool _) Z ?_
     exact jb (by unfold eg;simp_all)
    ·refine z7 Z Z c5<|z7 Z Z c5<|z7 Z Z c5<|z7 Z Z c5<|aq Z c5 Z<|ac Z<|z6<|zg<|zk (x:=.bool _) Z ?_
     exact jb (by unfold eg;simp_all)
   ·refine z7 Z Z c4<|z7 Z Z c4<|z7 Z Z c4<|z7 Z Z c4<|aq Z c4 Z<|ai Z<|z7 Z Z Z<|z7 Z Z Z<|z7 Z Z Z<|z7 Z Z Z<|aq Z Z Z<|ac Z<|z6<|zg<|zk (x:=.bool _) Z ?_
    exact jb (by unfold eg;simp_all)
  ·refine zd<|ah<|ab jm jh Z Z<|ae jj Z ja Z Z<|ax jc Z<|ze (fE f t.var (h (by simp_all))) Z<|aj Z Z<|ac Z<|z6<|zg<|zk (x:=.bool _) Z ?_
   exact jb (by unfold eg;simp_all)
end
section
open Go.Proofs.Tryz
def o7 (h:be × Bool) (n:Int) (fits:Bool) (e:Int):be × Bool:=(fc h.1 (Bo (if fits then n else e)),h.2||!fits)
def h4 (h:be × Bool) (a b:be) (n:Int→Int→Int) (fit:Int→Int→Bool) (e:Int→Int→Int):be × Bool:=
 o7 (o7 (o7 (o7 h (n a.1 b.1) (fit a.1 b.1) (e a.1 b.1)) (n a.1 b.2) (fit a.1 b.2) (e a.1 b.2)) (n a.2 b.1) (fit a.2 b.1) (e a.2 b.1)) (n a.2 b.2) (fit a.2 b.2) (e a.2 b.2)
instance (k:Nat) (x y:Int):Decidable (dk k x y):=by unfold dk aP;infer_instance
instance (k:Nat) (a b:be):Decidable (jA k a b):=by unfold jA;infer_instance
def BB (k:Nat) (a b:be):be × Bool:=h4 (Bn,false) a b (tv k) (fun x y=>decide (dk k x y)) (kM k)
theorem FO (k:Nat) (a b:be):BB k a b=(JE k a b,!decide (jA k a b)):=by
 rw[←H4]
 unfold BB h4 o7 JD jA ux
 simp only[Bool.false_or,wc]
 refine Prod.ext Z ?_
 dsimp only
 by_cases h1:dk k a.1 b.1<;>by_cases h2:dk k a.1 b.2<;>by_cases h3:dk k a.2 b.1<;>by_cases h4:dk k a.2 b.2<;>simp[h1,h2,h3,h4]
end
section
open Go.Proofs.Tryz
open Go.Proofs
theorem aQ {z:Int} (h:aP z):IntKind.i64.wrap z=z:=by
 unfold aP at h
 unfold IntKind.wrap;simp[IntKind.bits,IntKind.signed];omega
def gG (a:be) (i:Nat):Int:=if i=0 then a.1 else a.2
theorem FP {a:be} (h:cY a) (i:Nat):aP (gG a i):=by unfold gG;split;exact h.1;exact h.2
theorem BC {a:be} {i:Nat} (h:i<2):([AV.int .i64 a.1,AV.int .i64 a.2]:List AV)[i]?=some (.int .i64 (gG a i)):=by
 rcases (by omega:i=0∨i=1) with rfl|rfl<;>rfl
def LS (n:Int→Int→Int) (fit:Int→Int→Bool) (e:Int→Int→Int) (h0:be × Bool) (a b:be):Nat→be × Bool
 |0=>h0
 |m+1=>o7 (LS n fit e h0 a b m) (n (gG a (m / 2)) (gG b (m % 2))) (fit (gG a (m / 2)) (gG b (m % 2))) (e (gG a (m / 2)) (gG b (m % 2)))
theorem FQ {n:Int→Int→Int} {fit:Int→Int→Bool} {e:Int→Int→Int} {h0:be × Bool} {a b:be} (i:Nat) {j:Nat} (hj:j<2) :
  LS n fit e h0 a b (2*i+(j+1))=o7 (LS n fit e h0 a b (2*i+j)) (n (gG a i) (gG b j)) (fit (gG a i) (gG b j)) (e (gG a i) (gG b j)):=by
 rw[←Nat.add_assoc,LS,show (2*i+j) / 2=i by omega,show (2*i+j) % 2=j by omega]
theorem qZ {h:be × Bool} {n n':Int} {fits:Bool} {e e':Int} (h1:fits=true→n=n') (h2:e=e'):o7 h n fits e=o7 h n' fits e':=by
 cases fits
 ·unfold o7;simp[h2]
 ·rw[h1 rfl,h2]
theorem Ip {x y:Int}:decide (dk 0 x y)=true→IntKind.i64.wrap (x+y)=tv 0 x y:=fun h=>aQ (wb h)
theorem Iq {x y:Int}:decide (dk 1 x y)=true→IntKind.i64.wrap (x - y)=tv 1 x y:=fun h=>aQ (wb h)
theorem FR {x y:Int}:decide (dk 2 x y)=true→IntKind.i64.wrap (x*y)=tv 2 x y:=fun h=>aQ (wb h)
theorem Nd {x y:Int} (hx:aP x) (hy:aP y):(!(decide (x<0) == decide (y<0))||(decide (IntKind.i64.wrap (x+y)<0) == decide (x<0)))=decide (dk 0 x y):=by
 have hw:IntKind.i64.wrap (x+y)=(if x+y < -9223372036854775808 then x+y+18446744073709551616 else if 9223372036854775807<x+y then x+y - 18446744073709551616 else x+y):=by
  unfold aP at hx hy
  unfold IntKind.wrap;simp[IntKind.bits,IntKind.signed];(repeat' split)<;>omega
 rw[hw,qz,wc]
 show _↔aP (x+y)
 unfold aP at *
 simp only[Bool.or_eq_true,Bool.not_eq_true',beq_eq_false_iff_ne,beq_iff_eq,decide_eq_decide,ne_eq]
 (repeat' split)<;>omega
theorem Nf {x y:Int} (hx:aP x) (hy:aP y):((decide (x<0) == decide (y<0))||(decide (IntKind.i64.wrap (x - y)<0) == decide (x<0)))=decide (dk 1 x y):=by
 have hw:IntKind.i64.wrap (x - y)=(if x - y < -9223372036854775808 then x - y+18446744073709551616 else if 9223372036854775807<x - y then x - y - 18446744073709551616 else x - y):=by
  unfold aP at hx hy
  unfold IntKind.wrap;simp[IntKind.bits,IntKind.signed];(repeat' split)<;>omega
 rw[hw,qz,wc]
 show _↔aP (x - y)
 unfold aP at *
 simp only[Bool.or_eq_true,beq_iff_eq,decide_eq_decide]
 (repeat' split)<;>omega
theorem lm {x:Int} (h:aP x):(if x<0 then IntKind.u64.wrap (0 - IntKind.u64.wrap x) else IntKind.u64.wrap x)=((x.natAbs:Nat):Int):=by
 unfold aP at h
 unfold IntKind.wrap;simp[IntKind.bits,IntKind.signed];split<;>omega
theorem FS {x:Int} (h:aP x):x.natAbs<18446744073709551616:=by unfold aP at h;omega
theorem Ng {x y:Int}:(decide (((x.natAbs*y.natAbs / 18446744073709551616:Nat):Int)=0)&&decide (((x.natAbs*y.natAbs % 18446744073709551616:Nat):Int)≤(if (!(decide (x<0) == decide (y<0)))=true then 9223372036854775808 else 9223372036854775807)))=decide (dk 2 x y):=by
 have hm:=Int.natAbs_mul x y
 rw[qz,wc (p:=dk 2 x y)]
 show _↔aP (x*y)
 unfold aP
 rw[←hm]
 have hs:(x<0↔y<0)→0≤x*y:=fun h=>by
  by_cases hx:x<0
  ·exact Int.le_of_lt (Int.mul_pos_of_neg_of_neg hx (h.1 hx))
  ·exact Int.mul_nonneg (by omega) (by have:=mt h.2 hx;omega)
 have hd:¬(x<0↔y<0)→x*y≤0:=fun h=>by
  by_cases hx:x<0
  ·have hy:¬y<0:=fun hy=>h ⟨fun _=>hy,fun _=>hx⟩
   exact Int.mul_nonpos_of_nonpos_of_nonneg (by omega) (by omega)
  ·have hy:y<0:=Classical.byContradiction fun hy=>h ⟨fun h=>absurd h hx,fun h=>absurd h hy⟩
   exact Int.mul_nonpos_of_nonneg_of_nonpos (by omega) (by omega)
 generalize x*y=z at *
 simp only[w9,wc,Bool.not_eq_true',beq_eq_false_iff_ne,decide_eq_decide,ne_eq]
 by_cases c:(x<0↔y<0)
 ·have:=hs c
  rw[if_neg (by simp[c])];omega
 ·have:=hd c
  rw[if_pos c];omega
theorem Kt (x y:Int):(if decide (x<0)=true then mO else lc)=kM 0 x y:=rfl
theorem Ku (x y:Int):(if decide (x<0)=true then mO else lc)=kM 1 x y:=rfl
theorem Kv (x y:Int):(if (!(decide (x<0) == decide (y<0)))=true then mO else lc)=kM 2 x y:=rfl
def bg (r:be):List AV:=[.int .i64 r.1,.int .i64 r.2]
def Dw (h:be × Bool):List AV:=[.int .i64 h.1.1,.int .i64 h.1.2,.bool h.2]
theorem Ir {r:be} {x y:Int} (h1:x=r.1) (h2:y=r.2):AV.agg [.int .i64 x,.int .i64 y]=AV.agg (bg r):=by subst h1 h2;rfl
end
section
open Go.Proofs.Tryz
open Go.Proofs
theorem Aa:el prog 54 #[(0,1),(1,1)] [.int .i64 0,.int .i64 0]:=⟨_,_,Zf,Y4,fun w=>by kernel_rfl,rfl⟩
variable {E:World}
set_option maxRecDepth 20000
theorem FT:aJ prog E 41 [] (.agg (bg Bn)):=by
 refine zo func41 Z (by decide) Z<|ah<|zy (cs:=[.int .i64 0,.int .i64 0]) Y4 Z Z<|fun i0=>z6<|ah<|za (zz (cps:=[(0,[_]),(1,[_])]) (rs:=[_,_]) Aa Z Z Z)<|zq Z3 Z Z Z Z Z Z .head Z<|z6<|zg<|yw Z ⟨_,.head⟩ Zt Z3 Z ?_
 rfl
theorem NC (n:Int):aJ prog E 97 [.int .i64 n] (.agg (bg (Bo n))):=by
 refine zo func97 Z (by decide) Z<|ah<|zy (cs:=[.int .i64 0,.int .i64 0]) Y4 Z Z<|fun i2=>z6<|ah<|aa Z<|aa Z<|za (zz (cps:=[(0,[_]),(1,[_])]) (rs:=[_,_]) Aa Z Z Z)<|zq Z3 Z Z Z Z Z Z .head Z<|z6<|zg<|yw Z ⟨_,.head⟩ Zt Z3 Z ?_
 rfl
theorem Nh:aJ prog E 40 [] (.agg (bg uz)):=by
 refine zo func40 Z (by decide) Z<|ah<|zy (cs:=[.int .i64 0,.int .i64 0]) Y4 Z Z<|fun i0=>z6<|ah<|za (zz (cps:=[(0,[_]),(1,[_])]) (rs:=[_,_]) Aa Z Z Z)<|zq Z3 Z Z Z Z Z Z .head Z<|z6<|zg<|yw Z ⟨_,.head⟩ Zt Z3 Z ?_
 rfl
theorem FU (t:Int):aJ prog E 18 [.int .i64 t] (.agg (bg (de t))):=by
 refine zo func18 Z (by decide) Z<|ah<|zy (cs:=[.int .i64 0,.int .i64 0]) Y4 Z Z<|fun i2=>z6<|zc<|ah<|aa Z<|z6<|zh<|ah<|aj Z Z<|ac Z<|z6<|zt Z (fun c1=>?_) (fun c1=>?_)
 ·refine ah<|ze (Nh) Z<|zq Z3 Z Z Z Z Z Z .head Z<|z6<|zg<|yw Z ⟨_,.head⟩ Zt Z3 Z ?_
  exact Ir (by simp_all[de,uz]) (by simp_all[de,uz])
 ·refine ah<|aj Z Z<|ac Z<|z6<|zt Z (fun c2=>?_) (fun c2=>?_)
  ·refine ah<|za (zz (cps:=[(0,[_]),(1,[_])]) (rs:=[_,_]) Aa Z Z Z)<|zq Z3 Z Z Z Z Z Z .head Z<|z6<|zg<|yw Z ⟨_,.head⟩ Zt Z3 Z ?_
   exact Ir (by simp_all[de,uz]) (by simp_all[de,uz])
  ·refine ah<|aj Z Z<|ac Z<|z6<|zt Z (fun c3=>?_) (fun c3=>?_)
   ·refine ah<|za (zz (cps:=[(0,[_]),(1,[_])]) (rs:=[_,_]) Aa Z Z Z)<|zq Z3 Z Z Z Z Z Z .head Z<|z6<|zg<|yw Z ⟨_,.head⟩ Zt Z3 Z ?_
    exact Ir (by simp_all[de,uz]) (by simp_all[de,uz])
   ·refine zd<|ah<|ze (FT) Z<|zq Z3 Z Z Z Z Z Z .head Z<|z6<|zg<|yw Z ⟨_,.head⟩ Zt Z3 Z ?_
    exact Ir (by simp_all[de,uz]) (by simp_all[de,uz])
theorem JK (lo hi:Int):aJ prog E 39 [.int .i64 lo,.int .i64 hi] (.agg (bg (ld lo hi))):=by
 refine zo func39 Z (by decide) Z<|ah<|zy (cs:=[.int .i64 0,.int .i64 0]) Y4 Z Z<|fun i4=>z6<|zc<|ah<|aa Z<|aa Z<|aO Z Z<|z6<|zp Z (fun c=>?_) (fun c=>?_)
 ·refine ah<|ze (FT) Z<|zq Z3 Z Z Z Z Z Z .head Z<|z6<|zg<|yw Z ⟨_,.head⟩ Zt Z3 Z ?_
  rw[ld,if_pos c];try rfl
 ·refine zd<|ah<|aa Z<|aa Z<|za (zz (cps:=[(0,[_]),(1,[_])]) (rs:=[_,_]) Aa Z Z Z)<|zq Z3 Z Z Z Z Z Z .head Z<|z6<|zg<|yw Z ⟨_,.head⟩ Zt Z3 Z ?_
  rw[ld,if_neg c];try rfl
theorem JL (a b:be):aJ prog E 17 [.agg (bg a),.agg (bg b)] (.agg (bg (fA a b))):=by
 refine zo func17 Z (by decide) Z<|ah<|yb (cs:=_) Z Z Z<|yb (cs:=_) Z Z Z<|zy (cs:=[.int .i64 0,.int .i64 0]) Y4 Z Z<|fun i4=>z6<|ah<|ae Zf Z ji Z Z<|ax jp Z<|ae Zf Z ji Z Z<|ax jp Z<|za (Gv.maxI Z Z)<|ae Zf Z ji Z Z<|ax jp Z<|ae Zf Z ji Z Z<|ax jp Z<|za (Gv.minI Z Z)<|ze (JK _ _) Z<|zq Z3 Z Z Z Z Z Z .head Z<|z6<|zg<|yw Z ⟨_,.head⟩ Zt Z3 Z ?_
 rfl
theorem n8 (r:be):aJ prog E 19 [.agg (bg r)] (.bool (decide (r.2<r.1))):=by
 refine zo func19 Z (by decide) Z<|ah<|yb (cs:=_) Z Z Z<|ac Z<|z6<|ah<|ae Zf Z ji Z Z<|ax jp Z<|ae Zf Z ji Z Z<|ax jp Z<|aO Z Z<|ac Z<|z6<|zg<|zk (x:=.bool _) Z ?_
 rfl
theorem LT (a b:be):aJ prog E 182 [.agg (bg a),.agg (bg b)] (.agg (bg (fc a b))):=by
 refine zo func182 Z (by decide) Z<|ah<|yb (cs:=_) Z Z Z<|yb (cs:=_) Z Z Z<|zy (cs:=[.int .i64 0,.int .i64 0]) Y4 Z Z<|fun i4=>z6<|zc<|zh<|ah<|ab Zt Z3 Z Z<|ze (n8 _) Z<|ac Z<|z6<|zp Z (fun c1=>?_) (fun c1=>?_)
 ·refine ah<|ae Zf Z ji Z Z<|ax jp Z<|ae Zf Z ji Z Z<|ax jp Z<|ze (JK _ _) Z<|zq Z3 Z Z Z Z Z Z .head Z<|z6<|zg<|yw Z ⟨_,.head⟩ Zt Z3 Z ?_
  rw[fc,if_pos c1];try rfl
 ·refine ah<|ab Zt Z3 Z Z<|ze (n8 _) Z<|ac Z<|z6<|zp Z (fun c2=>?_) (fun c2=>?_)
  ·refine ah<|ab Zt Z3 Z Z<|zq Z3 Z Z Z Z Z Z .head Z<|z6<|zg<|yw Z ⟨_,.head⟩ Zt Z3 Z ?_
   rw[fc,if_neg c1,if_pos c2];try rfl
  ·refine zd<|ah<|ae Zf Z ji Z Z<|ax jp Z<|ae Zf Z ji Z Z<|ax jp Z<|za (Gv.minI Z Z)<|ae Zf Z ji Z Z<|ax jp Z<|ae Zf Z ji Z Z<|ax jp Z<|za (Gv.maxI Z Z)<|za (zz (cps:=[(0,[_]),(1,[_])]) (rs:=[_,_]) Aa Z Z Z)<|zq Z3 Z Z Z Z Z Z .head Z<|z6<|zg<|yw Z ⟨_,.head⟩ Zt Z3 Z ?_
   rw[fc,if_neg c1,if_neg c2];try rfl
theorem FV (b:Bool):aJ prog E 142 [.bool b] (.int .i64 (if b=true then mO else lc)):=by
 refine zo func142 Z (by decide) Z<|ah<|ay Z<|z6<|zc<|ah<|ai Z<|z6<|zt Z (fun c4=>?_) (fun c4=>?_)
 ·refine ah<|ay Z<|z6<|zg<|zk (x:=.int _ _) Z ?_
  simp_all[mO,lc]
 ·refine zd<|ah<|ay Z<|z6<|zg<|zk (x:=.int _ _) Z ?_
  simp_all[mO,lc]
theorem LU (op:Int):aJ prog E 101 [.int .i64 op] (.bool (decide (op=2)||(decide (op=3)||decide (op=4)))):=by
 refine zo func101 Z (by decide) Z<|ah<|ac Z<|z6<|ah<|aa Z<|aj Z Z<|ai Z<|zm (s:=5) Z (fun c5=>?_) (fun c5=>?_)
 ·refine z7 Z Z c5<|z7 Z Z c5<|ap Z c5 Z<|ai Z<|z7 Z Z Z<|z7 Z Z Z<|ap Z Z Z<|ac Z<|z6<|zg<|zk (x:=.bool _) Z ?_
  exact jb (by simp_all)
 ·refine z8 Z Z c5<|aa Z<|z8 Z Z c5<|aj Z Z<|aq Z c5 Z<|ai Z<|zm (s:=9) Z (fun c6=>?_) (fun c6=>?_)
  ·refine z7 Z Z c6<|z7 Z Z c6<|ap Z c6 Z<|ac Z<|z6<|zg<|zk (x:=.bool _) Z ?_
   exact jb (by simp_all)
  ·refine z8 Z Z c6<|aa Z<|z8 Z Z c6<|aj Z Z<|aq Z c6 Z<|ac Z<|z6<|zg<|zk (x:=.bool _) Z ?_
   exact jb (by simp_all)
theorem Kw {x y:Int} (hx:aP x) (hy:aP y):aJ prog E 140 [.int .i64 x,.int .i64 y] (.tup [.int .i64 (IntKind.i64.wrap (x+y)),.bool (decide (dk 0 x y))]):=by
 rw[←Nd hx hy]
 refine zo func140 Z (by decide) Z<|ah<|ay Z<|ac Z<|z6<|ah<|aa Z<|aa Z<|za (Gv.addW Z Z)<|ay Z<|z6<|ah<|aa Z<|aa Z<|aw Z Z<|aa Z<|aw Z Z<|za (Gv.neqB Zv Z Z)<|ai Z<|zm (s:=16) Z (fun c7=>?_) (fun c7=>?_)
 ·refine z7 Z Z c7<|z7 Z Z c7<|z7 Z Z c7<|z7 Z Z c7<|z7 Z Z c7<|ap Z c7 Z<|ay Z<|ac Z<|z6<|zg<|qb (x:=.int _ _) (y:=.bool _) Z Z ?_
  simp_all
 ·refine z8 Z Z c7<|aa Z<|z8 Z Z c7<|aw Z Z<|z8 Z Z c7<|aa Z<|z8 Z Z c7<|aw Z Z<|z8 Z Z c7<|za (Gv.eqlB Zv Z Z)<|aq Z c7 Z<|ay Z<|ac Z<|z6<|zg<|qb (x:=.int _ _) (y:=.bool _) Z Z ?_
  simp_all
theorem Ni {x y:Int} (hx:aP x) (hy:aP y):aJ prog E 143 [.int .i64 x,.int .i64 y] (.tup [.int .i64 (IntKind.i64.wrap (x - y)),.bool (decide (dk 1 x y))]):=by
 rw[←Nf hx hy]
 refine zo func143 Z (by decide) Z<|ah<|ay Z<|ac Z<|z6<|ah<|aa Z<|aa Z<|za (Gv.subW Z Z)<|ay Z<|z6<|ah<|aa Z<|aa Z<|aw Z Z<|aa Z<|aw Z Z<|za (Gv.eqlB Zv Z Z)<|ai Z<|zm (s:=16) Z (fun c8=>?_) (fun c8=>?_)
 ·refine z7 Z Z c8<|z7 Z Z c8<|z7 Z Z c8<|z7 Z Z c8<|z7 Z Z c8<|ap Z c8 Z<|ay Z<|ac Z<|z6<|zg<|qb (x:=.int _ _) (y:=.bool _) Z Z ?_
  simp_all
 ·refine z8 Z Z c8<|aa Z<|z8 Z Z c8<|aw Z Z<|z8 Z Z c8<|aa Z<|z8 Z Z c8<|aw Z Z<|z8 Z Z c8<|za (Gv.eqlB Zv Z Z)<|aq Z c8 Z<|ay Z<|ac Z<|z6<|zg<|qb (x:=.int _ _) (y:=.bool _) Z Z ?_
  simp_all
theorem LV {x:Int} (hx:aP x):aJ prog E 183 [.int .i64 x] (.int .u64 (x.natAbs:Int)):=by
 rw[←lm hx]
 refine zo func183 Z (by decide) Z<|ah<|ay Z<|z6<|zc<|ah<|aa Z<|aw Z Z<|z6<|zp Z (fun c=>?_) (fun c=>?_)
 ·refine ah<|aa Z<|za (Gv.conv X7 Yp Z)<|za (Gv.neg Z)<|ay Z<|z6<|zg<|zk (x:=.int _ _) Z ?_
  rw[if_pos c];try rfl
 ·refine zd<|ah<|aa Z<|za (Gv.conv X7 Yp Z)<|ay Z<|z6<|zg<|zk (x:=.int _ _) Z ?_
  rw[if_neg c];try rfl
end
section
open Go.Proofs.Tryz
open Go.Proofs
theorem Kx (z:Int):IntKind.u64.wrap z=z % 18446744073709551616:=by
 unfold IntKind.wrap;simp[IntKind.bits,IntKind.signed]
theorem Nj {x y:Int} (hx:aP x) (hx0:x≠0) (hy0:y≠0):decide ((x.natAbs:Int)≤IntKind.u64.wrap ((if (decide (x<0) == decide (y<0))=true then 9223372036854775807 else 9223372036854775808:Int).tdiv (y.natAbs:Int)))=decide (dk 2 x y):=by
 rw[decide_eq_decide,←Kh x y hx0 hy0]
 obtain ⟨l,hl⟩:∃l:Nat,(if decide (x<0)=decide (y<0) then 9223372036854775807 else 9223372036854775808)=l:=⟨_,rfl⟩
 have hl2:(if (decide (x<0) == decide (y<0))=true then 9223372036854775807 else 9223372036854775808:Int)=(l:Int):=by
  rw[←hl]
  by_cases h:decide (x<0)=decide (y<0)
  ·rw[if_pos h,if_pos (by simpa using h)];rfl
  ·rw[if_neg h,if_neg (by simpa using h)];rfl
 have hll:l≤9223372036854775808:=by rw[←hl];split<;>omega
 rw[hl,hl2,show ((l:Int)).tdiv (y.natAbs:Int)=((l / y.natAbs:Nat):Int) from rfl,Kx]
 have h3:=Nat.div_le_self l y.natAbs
 generalize l / y.natAbs=q at h3 ⊢
 omega
end
end Go.Proofs.YtbanfokidalbaaaGreatDoor
