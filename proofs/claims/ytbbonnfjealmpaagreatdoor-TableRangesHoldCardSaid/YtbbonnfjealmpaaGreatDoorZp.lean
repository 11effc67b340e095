/- What an operation on ranges comes to, by the program. Of int64s. -/
import Derived.Test.YtbbonnfjealmpaaGreatDoorZf
import Derived.Test.YtbbonnfjealmpaaGreatDoorZd
import Derived.Test.YtbbonnfjealmpaaGreatDoorZe
import Derived.Test.YtbbonnfjealmpaaGreatDoorZn
import Derived.Test.YtbbonnfjealmpaaGreatDoorZm
import Derived.Test.YtbbonnfjealmpaaGreatDoorZo
set_option linter.unusedVariables false
set_option linter.unusedSimpArgs false
set_option linter.unusedSectionVars false
namespace Go.Proofs.YtbbonnfjealmpaaGreatDoor
section
open Go.Proofs.Tryz
variable {α:Type}
def mg (k:Int):List (Int × List α)→List α
 |[]=>[]
 |(k',r)::es=>if k=k' then r else mg k es
def ms (k:Int) (r:List α):List (Int × List α)→List (Int × List α)
 |[]=>[(k,r)]
 |(k',r')::es=>if k=k' then (k,r)::es else (k',r')::ms k r es
theorem I7 (k k':Int) (r:List α):∀es:List (Int × List α),mg k (ms k' r es)=if k=k' then r else mg k es
 |[]=>by simp only[ms,mg]
 |(q,r')::es=>by
  simp only[ms]
  by_cases h:k'=q
  ·subst h
   rw[if_pos rfl]
   simp only[mg]
   by_cases h2:k=k'
   ·rw[if_pos h2,if_pos h2]
   ·rw[if_neg h2,if_neg h2,if_neg h2]
  ·rw[if_neg h]
   simp only[mg]
   by_cases h2:k=q
   ·rw[if_pos h2,if_pos h2,if_neg (fun e=>h (by rw[←e,h2]))]
   ·rw[if_neg h2,if_neg h2];exact I7 k k' r es
def kv (k:Int):Value:=.int .i64 k
theorem sg (k:Int):MapKept.IsKey (.int .i64) (kv k):=rfl
theorem vD (k k':Int):Instr.sameNow (.int .i64) (kv k) (kv k')=some (decide (k=k')):=by
 simp[Instr.sameNow,kv];by_cases h:k=k'<;>simp[h]
def Fy (arr:Array MapEntry):List (Value × Value):=arr.toList.map fun e=>(e.key,e.val)
inductive mM (c:fh α) (e:TypeId):List (Int × List α)→List (Value × Value)→List (Nat × Obj)→Prop
 |nil:mM c e [] [] []
 |cons {k r es a n cap hs A B}:fe c.k e a n cap (c.vs r) A→mM c e es hs B→mM c e ((k,r)::es) ((kv k,.slice a n cap)::hs) (A++B)
def Ll (c:fh α) (e:TypeId) (es:List (Int × List α)) (k:Int) (l:List MapEntry) (B:List (Nat × Obj)):Prop:=
 (Instr.findNow (.int .i64) (kv k) l 0=some none∧∀r' a' n' c' A',fe c.k e a' n' c' (c.vs r') A'→∃L',mM c e (ms k r' es) (l.map (fun e=>(e.key,e.val))++[(kv k,.slice a' n' c')]) L'∧L'.Perm (A'++B)) ∨
 (∃j v e0,Instr.findNow (.int .i64) (kv k) l 0=some (some (j,v))∧l[j]?=some e0∧e0.key=kv k∧∀r' a' n' c' A',fe c.k e a' n' c' (c.vs r') A'→∃L',mM c e (ms k r' es) ((l.map fun e=>(e.key,e.val)).set j (kv k,.slice a' n' c')) L'∧L'.Perm (A'++B))
theorem mM.get {c:fh α} {e:TypeId} {k:Int}:∀{l:List MapEntry} {es:List (Int × List α)} {L:List (Nat × Obj)} (i:Nat),mM c e es (l.map fun e=>(e.key,e.val)) L →
  (Instr.findNow (.int .i64) (kv k) l i=some none∧mg k es=[]∧∀r' a' n' c' A',fe c.k e a' n' c' (c.vs r') A'→∃L',mM c e (ms k r' es) (l.map (fun e=>(e.key,e.val))++[(kv k,.slice a' n' c')]) L'∧L'.Perm (A'++L)) ∨
  (∃j e0 a n cap A B,Instr.findNow (.int .i64) (kv k) l i=some (some (i+j,.slice a n cap))∧l[j]?=some e0∧e0.key=kv k∧fe c.k e a n cap (c.vs (mg k es)) A∧L.Perm (A++B) ∧
   ∀r' a' n' c' A',fe c.k e a' n' c' (c.vs r') A'→∃L',mM c e (ms k r' es) ((l.map fun e=>(e.key,e.val)).set j (kv k,.slice a' n' c')) L'∧L'.Perm (A'++B))
 |[],es,L,i,h=>by
  cases h
  exact .inl ⟨rfl,rfl,fun r' a' n' c' A' h=>⟨_,by simpa [ms] using mM.cons (k:=k) h .nil,by simp⟩⟩
 |x::l,es,L,i,h=>by
  generalize hl:((x::l).map fun e=>(e.key,e.val))=hs0 at h
  cases h with
  |nil=>simp at hl
  |@cons k1 r es a n cap hs A B h1 h2=>
   simp only[List.map_cons,List.cons.injEq,Prod.mk.injEq] at hl
   obtain ⟨⟨hk,hv⟩,rfl⟩:=hl
   by_cases e1:k=k1
   ·subst e1
    right
    refine ⟨0,x,a,n,cap,A,B,?_,U,hk,by simpa [mg] using h1,.refl _,fun r' a' n' c' A' h=>⟨A'++B,?_,.refl _⟩⟩
    ·unfold Instr.findNow;rw[hk,vD,we rfl];simp[hv]
    ·simp only[ms,if_pos,List.map_cons,List.set_cons_zero]
     exact .cons h h2
   ·have hf:Instr.findNow (.int .i64) (kv k) (x::l) i=Instr.findNow (.int .i64) (kv k) l (i+1):=by
     rw[Instr.findNow,hk,vD,wg e1]
    have hg:mg k ((k1,r)::es)=mg k es:=by simp[mg,e1]
    have hms:∀r',ms k r' ((k1,r)::es)=(k1,r)::ms k r' es:=fun r'=>by simp[ms,e1]
    rw[hf,hg]
    rcases mM.get (k:=k) (i+1) h2 with ⟨g1,g2,g3⟩|⟨j,e0,a1,n1,c1,A1,B1,g1,g2,g3,g4,g5,g6⟩
    ·left
     refine ⟨g1,g2,fun r' a' n' c' A' h=>?_⟩
     obtain ⟨L',q1,q2⟩:=g3 r' a' n' c' A' h
     refine ⟨A++L',?_,?_⟩
     ·rw[hms,List.cons_append];exact .cons h1 q1
     ·refine (q2.append_left A).trans ?_
      rw[←qz,←qz]
      exact List.perm_append_comm.append_right B
    ·right
     refine ⟨j+1,e0,a1,n1,c1,A1,A++B1,by rw[g1];congr 3;omega,by simpa using g2,g3,g4,?_,fun r' a' n' c' A' h=>?_⟩
     ·refine (g5.append_left A).trans ?_
      rw[←qz,←qz]
      exact List.perm_append_comm.append_right B1
     ·obtain ⟨L',q1,q2⟩:=g6 r' a' n' c' A' h
      refine ⟨A++L',?_,?_⟩
      ·rw[hms,List.set_cons_succ];exact .cons h1 q1
      ·refine (q2.append_left A).trans ?_
       rw[←qz,←qz]
       exact List.perm_append_comm.append_right B1
def l4 (c:fh α) (e:TypeId) (b:Nat) (es:List (Int × List α)):bC:=.heap fun L=>∃arr clock B,L=(b,.map arr clock)::B∧mM c e es (Fy arr) B
def Fz (c:fh α) (e:TypeId) (b:Nat) (es:List (Int × List α)) (k:Int):bC:=.heap fun L=>∃arr clock B,L=(b,.map arr clock)::B∧Ll c e es k arr.toList B
section
variable {E:World} {P:Program} {ops:Array Oper} {K:aT→OL→Prop} {env:aT} {O O' O'':OL} {rest:List Oper} {n:Nat}
variable {d ty:Nat} {pos:String} {af:Array Edge} {x y z:Operand} {t u e T kt:TypeId} {b:Nat}
theorem ay.makeMapN (c:fh α) (e:TypeId) (k:∀b,ay P E ops K rest (bz env d (kj b)) ((0,l4 c e b [])::O)):ay P E ops K (Oper.mk (some d) (.makeMap t none) ty pos af none::rest) env O:=fun I F ρ w h1 ⟨ht,L,hL,hS⟩=>by
 refine bY.step U ?_
 unfold lG
 have:(execOp (Go.Proofs.YtbbonnfjealmpaaGreatDoor.ev ρ) (Oper.mk (some d) (.makeMap t none) ty pos af none)).run P w=.ok (.value (.map (some w.heap.size))) (w.alloc (.map #[] 0)):=by
  simp only[execOp,Option.map_none]
  rw[Sem.run_bind,run_makeMap_plain];rfl
 rw[this]
 exact k w.heap.size I F _ _ (h1.upd d rfl) ⟨ht,(w.heap.size,.map #[] 0)::L,⟨[_],L,rfl,⟨#[],0,[],rfl,.nil⟩,hL⟩,hS.alloc _⟩
theorem ay.mapTake {c:fh α} {k:Int} {m:Nat} {es:List (Int × List α)} (ht:P.underlying t=some (.map kt u)) (hk:P.underlying kt=some (.int .i64)) (hz:∀w,(zeroValue u).run P w=.ok (.slice none 0 0) w) (hx:bc env x=kj b) (hy:bc env y=.int .i64 k)
  (hO:fF O m (l4 c e b es) (Fz c e b es k) O') (kk:∀i,ay P E ops K rest (bz env d (.own i (mg k es).length)) ((i,.grow c.k e (c.av (mg k es)))::O')) :
  ay P E ops K (Oper.mk (some d) (.lookup t x y false) ty pos af none::rest) env O:=fun I F ρ w h1 h2=>by
 obtain ⟨i,hi⟩:=h2.name
 obtain ⟨htop,L,hL,hS⟩:=h2
 have hx:=ik h1 hx
 have hy:=gr h1 hy
 obtain ⟨A,B,hp,⟨arr,clock,B0,rfl,hN⟩,hback⟩:=hO.rep hL
 have hS2:SL I.k ((b,.map arr clock)::(B0++(B++F))) E w:=hS.perm (by
  have:=hp.append_right F
  simpa using this.symm)
 have hb:=hS2.own _ (.head _)
 simp only at hb
 have hc:(Instr.checkKey arr.isEmpty 10000 kt (kv k)).run P w=.ok () w:=MapKept.run_checkKey (k:=kv k) hk (sg k) _ 9999
 rcases mM.get (k:=k) 0 hN with ⟨g1,g2,g3⟩|⟨j,e0,a,n1,cap,A1,B1,g1,g2,g3,g4,g5,g6⟩
 ·obtain ⟨J,e1,hle,e2,htop'⟩:=hi (none,0)
  refine bY.step U ?_
  unfold lG
  have hrun:(execOp (Go.Proofs.YtbbonnfjealmpaaGreatDoor.ev ρ) (Oper.mk (some d) (.lookup t x y false) ty pos af none)).run P w=.ok (.value (.slice none 0 0)) w:=by
   simp only[kv] at hc g1
   simp[execOp,Instr.lookup,run_underlying ht,hx,hy,MapKept.run_getObj_map hb,hc,MapKept.run_findKey hk g1,hz,Result.andThen]
  rw[hrun]
  obtain ⟨L',h5,h6⟩:=hback hle (A':=(b,.map arr clock)::B0) ⟨arr,clock,B0,rfl,.inl ⟨g1,g3⟩⟩
  rw[g2] at kk
  refine qa (fun _ _=>qb hle) _ _ _ (kk i J F _ _ ((h1.mono hle).upd d ⟨none,0,e2,U⟩) ⟨htop',L',⟨[],L',U,⟨none,0,0,[],e2,U,fun _ h=>(by cases h),fe.nil _ _⟩,h5⟩,?_⟩)
  rw[e1]
  refine hS2.perm<|(h6.append_right F).trans ?_
  simp
 ·obtain ⟨b1,rfl⟩:=g4.adr
  have hn:n1=(mg k es).length:=by have:=g4.1;rw[c.vs_len] at this;exact (Nat.eq_of_mul_eq_mul_right c.pos this).symm
  subst hn
  obtain ⟨J,e1,hle,e2,htop'⟩:=hi (b1,cap)
  rw[Nat.zero_add] at g1
  refine bY.step U ?_
  unfold lG
  have hrun:(execOp (Go.Proofs.YtbbonnfjealmpaaGreatDoor.ev ρ) (Oper.mk (some d) (.lookup t x y false) ty pos af none)).run P w=.ok (.value (.slice (adr b1) (mg k es).length cap)) w:=by
   simp only[kv] at hc g1
   simp[execOp,Instr.lookup,run_underlying ht,hx,hy,MapKept.run_getObj_map hb,hc,MapKept.run_findKey hk g1,Result.andThen]
  rw[hrun]
  obtain ⟨L',h5,h6⟩:=hback hle (A':=(b,.map arr clock)::B1) ⟨arr,clock,B1,rfl,.inr ⟨j,_,e0,g1,g2,g3,g6⟩⟩
  refine qa (fun _ _=>qb hle) _ _ _ (kk i J F _ _ ((h1.mono hle).upd d ⟨b1,cap,e2,U⟩) ⟨htop',A1++L',⟨A1,L',U,⟨b1,cap,_,c.vs (mg k es),e2,by rw[c.av_eq];exact eQ J _,c.vs_one _,g4⟩,h5⟩,?_⟩)
  rw[e1]
  refine hS2.perm<|List.Perm.trans ?_ (List.Perm.cons _ ((g5.append_right (B++F)).symm))
  have h7:(A1++L'++F).Perm (A1++((b,Obj.map arr clock)::(B1++B))++F):=(h6.append_left A1).append_right F
  refine h7.trans ?_
  simp only[qz,List.cons_append]
  exact List.perm_middle
theorem ay.mapPut {c:fh α} {k:Int} {m i n1 q:Nat} {es:List (Int × List α)} {r:List α} {cs:List AV} (ht:P.underlying t=some (.map kt u)) (hk:P.underlying kt=some (.int .i64)) (hx:bc env x=kj b) (hy:bc env y=.int .i64 k) (hz:bc env z=.own i n1)
  (hP0:dH O i (.grow q e cs) O') (hO:fF O' m (Fz c e b es k) (l4 c e b (ms k r es)) O'') (hq:q=c.k) (hcs:cs=c.av r) (hn1:r.length=n1) (kk:ay P E ops K rest env O'') :
  ay P E ops K (Oper.mk none (.mapUpdate t x y z) ty pos af none::rest) env O:=fun I F ρ w h1 h2=>by
 obtain ⟨htop,L,hL,hS⟩:=h2
 have hP:dH O i (.grow c.k e (c.av r)) O':=by subst hq hcs;exact hP0
 have hx:=ik h1 hx
 have hy:=gr h1 hy
 have h3:=h1.ev z
 rw[hz] at h3
 obtain ⟨b1,c1,e1,ez⟩:=h3
 obtain ⟨A,B,hp,⟨b1',c1',n',vs,e2,hvs,hvc,hown⟩,hB⟩:=hP.rep hL
 simp only at e2
 rw[e1] at e2
 simp only[Option.some.injEq,Prod.mk.injEq] at e2
 obtain ⟨rfl,rfl⟩:=e2
 have hv:=c.av_un hvs
 subst hv
 have hnn:n'=n1:=by have:=hown.1;rw[c.vs_len,hn1] at this;exact (Nat.eq_of_mul_eq_mul_right c.pos this).symm
 subst hnn
 obtain ⟨A2,B2,hp2,⟨arr,clock,B0,rfl,hole⟩,hback⟩:=hO.rep hB
 have hS2:SL I.k ((b,.map arr clock)::(A++(B0++(B2++F)))) E w:=hS.perm (by
  refine List.Perm.trans ?_ ((hp.append_right F).symm)
  refine List.Perm.trans ?_ (((hp2.append_left A).append_right F).symm)
  simp only[qz,List.cons_append]
  exact (List.perm_middle).symm)
 have hb:=hS2.own _ (.head _)
 simp only at hb
 have hc:(Instr.checkKey false 10000 kt (kv k)).run P w=.ok () w:=MapKept.run_checkKey (k:=kv k) hk (sg k) false 9999
 have fin:∀(arr':Array MapEntry) (clock':Nat) (L':List (Nat × Obj)),mM c e (ms k r es) (Fy arr') L'→L'.Perm (A++B0) →
   (execOp (Go.Proofs.YtbbonnfjealmpaaGreatDoor.ev ρ) (Oper.mk none (.mapUpdate t x y z) ty pos af none)).run P w=.ok .skip { w with heap:=w.heap.setIfInBounds b (.map arr' clock') }→bY P ops (lc I F E K) (Oper.mk none (.mapUpdate t x y z) ty pos af none::rest) ρ w:=fun arr' clock' L' hM hpe hrun=>by
  refine bY.step U ?_
  unfold lG
  rw[hrun]
  obtain ⟨L2,h7,h8⟩:=hback (qo I) (A':=(b,.map arr' clock')::L') ⟨arr',clock',L',rfl,hM⟩
  have hh:=MapKept.heap_set (o':=.map arr' clock') hb
  have hS3:SL I.k ((b,.map arr' clock')::(A++(B0++(B2++F)))) E { w with heap:=w.heap.setIfInBounds b (.map arr' clock') }:=hS2.turn rfl rfl rfl hh.1 hh.2
  refine kk I F ρ _ h1 ⟨htop,L2,h7,hS3.perm ?_⟩
  refine (h8.append_right F).trans ?_
  simp only[List.cons_append,qz]
  refine List.Perm.cons _ ?_
  have:=hpe.append_right (B2++F)
  simpa [qz] using this
 rcases hole with ⟨g1,g3⟩|⟨j,v0,e0,g1,g2,g3,g6⟩
 ·obtain ⟨L',k1,k2⟩:=g3 r _ _ _ A hown
  refine fin (arr.push { key:=kv k,val:=.slice (adr b1) n' c1,born:=clock }) (clock+1) L' ?_ k2 ?_
  ·unfold Fy;simpa using k1
  ·simp only[kv] at hc g1
   simp[execOp,hx,hy,ez,Instr.mapUpdate,run_underlying ht,MapKept.run_getObj_map hb,hc,MapKept.run_findKey hk g1,MapKept.run_setObj_map _ hb,Result.andThen,kv]
 ·obtain ⟨L',k1,k2⟩:=g6 r _ _ _ A hown
  have hj':arr[j]?=some e0:=by rw[←Array.getElem?_toList];exact g2
  refine fin (arr.modify j fun e=>{ e with key:=kv k,val:=.slice (adr b1) n' c1 }) clock L' ?_ k2 ?_
  ·have hjl:j<arr.toList.length:=(List.getElem?_eq_some_iff.1 g2).1
   have:(arr.modify j fun e=>{ e with key:=kv k,val:=.slice (adr b1) n' c1 }).toList=arr.toList.set j { e0 with key:=kv k,val:=.slice (adr b1) n' c1 }:=by
    apply List.ext_getElem?
    intro q
    rw[Array.getElem?_toList,Array.getElem?_modify]
    by_cases hq:j=q
    ·subst hq
     rw[if_pos rfl,hj',List.getElem?_set_self hjl];rfl
    ·rw[if_neg hq,List.getElem?_set_ne hq,Array.getElem?_toList]
   unfold Fy
   rw[this,List.map_set];exact k1
  ·have hkeep:(Instr.keyThatStays (kv k) (kv k)).run P w=.ok (kv k) w:=MapKept.run_keyThatStays (sg k)
   simp only[kv] at hc g1 g3 hkeep
   simp[execOp,hx,hy,ez,Instr.mapUpdate,run_underlying ht,MapKept.run_getObj_map hb,hc,MapKept.run_findKey hk g1,MapKept.run_setObj_map _ hb,Result.andThen,hj',g3,hkeep,kv]
def si (c:fh α) (I:G):List (Int × List α)→List (Value × Value)→Prop
 |[],hs=>hs=[]
 |(k,r)::es,hs=>∃v hs',hs=(kv k,v)::hs'∧cC I (.fro c.k (r.map c.row)) v∧si c I es hs'
theorem si.mono {c:fh α} {I J:G} (h:I.le J):∀{es:List (Int × List α)} {hs:List (Value × Value)},si c I es hs→si c J es hs
 |[],_,e=>e
 |(_,_)::_,_,⟨v,hs',e,h1,h2⟩=>⟨v,hs',e,cC.mono h _ _ h1,si.mono h h2⟩
theorem mM.fro {c:fh α} {I:G} {e:TypeId} {es:List (Int × List α)} {hs:List (Value × Value)} {B:List (Nat × Obj)} (h:mM c e es hs B) (hI:∀x∈B,I.k x.1=some x.2):si c I es hs:=by
 induction h with
 |nil=>rfl
 |cons h1 _ ih=>exact ⟨_,_,rfl,h1.fro fun x hx=>hI x (List.mem_append_left _ hx),ih fun x hx=>hI x (List.mem_append_right _ hx)⟩
theorem si.get {c:fh α} {I:G} {k:Int}:∀{l:List MapEntry} {es:List (Int × List α)} (i:Nat),si c I es (l.map fun e=>(e.key,e.val)) →
  (Instr.findNow (.int .i64) (kv k) l i=some none∧mg k es=[])∨(∃j v,Instr.findNow (.int .i64) (kv k) l i=some (some (j,v))∧cC I (.fro c.k ((mg k es).map c.row)) v)
 |[],[],i,_=>.inl ⟨rfl,rfl⟩
 |_::_,[],_,h=>by cases h
 |[],(_,_)::_,_,⟨_,_,e,_⟩=>by cases e
 |x::l,(k1,r)::es,i,⟨v,hs',e,h1,h2⟩=>by
  simp only[List.map_cons,List.cons.injEq,Prod.mk.injEq] at e
  obtain ⟨⟨hk,hv⟩,rfl⟩:=e
  by_cases e1:k=k1
  ·subst e1
   right
   refine ⟨i,v,?_,by simpa [mg] using h1⟩
   unfold Instr.findNow;rw[hk,vD,we rfl];simp[hv]
  ·have hf:Instr.findNow (.int .i64) (kv k) (x::l) i=Instr.findNow (.int .i64) (kv k) l (i+1):=by
    rw[Instr.findNow,hk,vD,wg e1]
   rw[hf,show mg k ((k1,r)::es)=mg k es by simp[mg,e1]]
   exact si.get (i+1) h2
def pw (c:fh α) (b:Nat) (es:List (Int × List α)):bC:=.heapG (fun I L=>∃arr clock,L=[(b,.map arr clock)]∧si c I es (Fy arr)) fun I J L h hp=>by
 obtain ⟨arr,clock,h1,h2⟩:=hp;exact ⟨arr,clock,h1,h2.mono h⟩
theorem aR.mapKnow {c:fh α} {m:Nat} {es:List (Int × List α)} (hO:fF O m (l4 c e b es) (pw c b es) O'):aR E env O env O':=fun I F ρ w h1 h2=>by
 obtain ⟨htop,L,hL,hS⟩:=h2
 obtain ⟨A,B,hp,⟨arr,clock,B0,rfl,hN⟩,hback⟩:=hO.rep hL
 have hS2:SL I.k (B0++((b,.map arr clock)::(B++F))) E w:=hS.perm (by
  refine List.Perm.trans ?_ ((hp.append_right F).symm)
  simp only[List.cons_append,qz]
  exact List.perm_middle)
 obtain ⟨J,g1,g2,g3⟩:=SL.freezeAllN hS2
 have hle:I.le ⟨J,I.h⟩:=⟨g1,fun _ _ h=>h⟩
 obtain ⟨L',h5,h6⟩:=hback hle (A':=[(b,.map arr clock)]) ⟨arr,clock,rfl,hN.fro fun x hx=>g3 x hx⟩
 refine ⟨⟨J,I.h⟩,hle,h1.mono hle,htop,L',h5,g2.perm ?_⟩
 exact h6.append_right F
theorem Gv.lookupF {c:fh α} {k:Int} {m:Nat} {es:List (Int × List α)} (ht:P.underlying t=some (.map kt u)) (hk:P.underlying kt=some (.int .i64)) (hz:∀w,(zeroValue u).run P w=.ok (.slice none 0 0) w) (hx:bc env x=kj b) (hy:bc env y=.int .i64 k)
  (hO:tj O m (pw c b es)):Gv P env O (Oper.mk (some d) (.lookup t x y false) ty pos af none) (.fro c.k ((mg k es).map c.row)):=fun I L E ρ h1 hL=>by
 obtain ⟨O',hO⟩:=hO
 obtain ⟨A,B,hp,⟨arr,clock,rfl,hM⟩,_⟩:=hO.rep hL
 have hin0:(b,Obj.map arr clock)∈L:=hp.mem_iff.2 (by simp)
 have hx:=ik h1 hx
 have hy:=gr h1 hy
 rcases si.get (k:=k) 0 hM with ⟨g1,g2⟩|⟨j,v,g1,g2⟩
 ·refine ⟨.slice none 0 0,by rw[g2];exact ⟨none,0,0,rfl,rfl,Nat.le_refl _,fun _=>rfl,trivial⟩,fun w J L' hl hS hin=>?_⟩
  have hb:=hS.own _ (hin _ hin0)
  simp only at hb
  have hc:(Instr.checkKey arr.isEmpty 10000 kt (kv k)).run P w=.ok () w:=MapKept.run_checkKey (k:=kv k) hk (sg k) _ 9999
  simp only[kv] at hc g1
  simp[execOp,Instr.lookup,run_underlying ht,hx,hy,MapKept.run_getObj_map hb,hc,MapKept.run_findKey hk g1,hz,Result.andThen]
 ·refine ⟨v,g2,fun w J L' hl hS hin=>?_⟩
  have hb:=hS.own _ (hin _ hin0)
  simp only at hb
  have hc:(Instr.checkKey arr.isEmpty 10000 kt (kv k)).run P w=.ok () w:=MapKept.run_checkKey (k:=kv k) hk (sg k) _ 9999
  simp only[kv] at hc g1
  simp[execOp,Instr.lookup,run_underlying ht,hx,hy,MapKept.run_getObj_map hb,hc,MapKept.run_findKey hk g1,Result.andThen]
end
end
section
open Go.Proofs.Tryz
open Go.Proofs
section
variable {E:World} {P:Program} {ops:Array Oper} {K:aT→OL→Prop} {env:aT} {O O' O'':OL} {rest:List Oper} {n:Nat}
variable {d ty:Nat} {pos:String} {af:Array Edge} {x y z:Operand} {t u e T:TypeId}
end
end
section
open Go.Proofs.Tryz
def lv (l:List bh) (v:Int):bh:=(l[v.toNat]?).getD fN
def LX (r:bh):Prop:=r.2<r.1→r=fN
theorem DC (lo hi:Int):LX (eF lo hi):=by
 unfold eF LX;split
 ·exact fun _=>rfl
 ·rename_i h;exact fun h2=>absurd h2 h
theorem DD (a b:bh):LX (cF a b):=DC _ _
theorem LY {a b:bh}:m0 a (df a b):=by
 unfold df m0
 by_cases c:a.2<a.1
 ·exact .inl c
 ·rw[if_neg c]
  right
  by_cases c2:b.2<b.1
  ·rw[if_pos c2];exact ⟨Int.le_refl _,Int.le_refl _⟩
  ·rw[if_neg c2];dsimp only;unfold ff eo;constructor<;>split<;>omega
theorem LZ {a b:bh}:m0 b (df a b):=by
 unfold df m0
 by_cases c2:b.2<b.1
 ·exact .inl c2
 ·right
  by_cases c:a.2<a.1
  ·rw[if_pos c];unfold eF;rw[if_neg c2];exact ⟨Int.le_refl _,Int.le_refl _⟩
  ·rw[if_neg c,if_neg c2];dsimp only;unfold ff eo;constructor<;>split<;>omega
structure Lm (n:Nat) (rule:List bh→Int→bh) (vs:List Int):Prop where
 mono:∀l l' v,l.length=n→l'.length=n→(∀u:Int,0≤u→m0 (lv l u) (lv l' u))→(∀u:Int,0≤u→cO (lv l u))→(∀u:Int,0≤u→cO (lv l' u))→v∈vs→m0 (rule l v) (rule l' v)
 ok:∀l v,l.length=n→(∀u:Int,0≤u→cO (lv l u))→v∈vs→cO (rule l v)
 rng:∀v∈vs,0≤v∧v<n
theorem FA {a b:bh}:m0 (cF a b) a∧m0 (cF a b) b:=by
 unfold cF eF m0
 split
 ·exact ⟨.inl (by decide),.inl (by decide)⟩
 ·constructor<;>right<;>dsimp only<;>unfold ff eo<;>constructor<;>split<;>omega
end
section
open Go.Proofs.Tryz
section
variable {n:Nat} {rule:List bh→Int→bh} {widn:Nat→Int→Option bh} {vs:List Int} (hR:Lm n rule vs) (hw:∀i v t,widn i v=some t→cO t)
include hR hw
end
end
section
open Go.Proofs.Tryz
theorem JX:cO fN:=⟨by decide,by decide⟩
def FB (f:ab) (v:Int):Int:=((f.vars[v.toNat]?).map (·.ty)).getD 0
def oR (f:ab) (l:List bh) (v:Int):bh:=cF (lv l v) (gU (FB f v))
def Mr (f:ab) (l:List bh) (p:cZ):bh:=p.args.foldl (fun acc v=>df acc (oR f l v)) fN
def ef (f:ab) (l:List bh) (x:aB):List bh:=x.args.map (oR f l)
def tJ (r:bh):Bool:=decide (r.2<r.1)
def Ci (f:ab) (chk:Int→Bool) (l:List bh) (x:aB):bh:=if (ef f l x).any tJ then fN else wY x.op x.num (ef f l x) (chk x.dst)
def l5 (f:ab) (chk:Int→Bool) (l:List bh) (v:Int):bh:=
 let m:=aD f v
 match f.blocks[m.1.toNat]? with
 |none=>fN
 |some b=>if 0≤m.2 then (match b.insts[m.2.toNat]? with|none=>fN|some x=>Ci f chk l x) else (match b.phis.find? fun p=>decide (p.dst=v) with|none=>fN|some p=>Mr f l p)
theorem FC {f:ab} {l:List bh} (h:∀u:Int,0≤u→cO (lv l u)) {v:Int} (hv:0≤v):cO (oR f l v):=wQ (h v hv) (EI _)
theorem vE {f:ab} {l:List bh} {v:Int} (h:FB f v=1) (hn:(oR f l v).1≤(oR f l v).2):0≤(oR f l v).1∧(oR f l v).2≤1:=by
 have:=(FA (a:=lv l v) (b:=gU (FB f v))).2
 rw[h] at this
 unfold oR at hn ⊢
 rw[h] at hn ⊢
 have e:gU 1=(0,1):=rfl
 rw[e] at this hn ⊢
 rcases this with h1|h1
 ·omega
 ·exact h1
theorem oS {f:ab} {l:List bh} {x:aB} (i:Nat):ra (ef f l x) i=match x.args[i]? with|some v=>oR f l v|none=>(0,0):=by
 unfold ra ef
 rw[w7]
 cases x.args[i]?<;>rfl
end
section
open Go.Proofs.Tryz
theorem sj (E:Int→List Int) {n b:Nat} (hb:b<n) (s:Int):(eY E n s)[b]?=some (gb (eY E n s) b):=jQ (by rw[np];exact hb)
theorem sk {E:Int→List Int} {n b:Nat} (hb:b<n) (s:Int):gb (eY E n s) b=true↔jZ E (fun x=>x≠s) 0 b:=by
 rw[nm,kU hb];simp
theorem xR {E:Int→List Int} {n:Nat} (hE:fP E n) {b:Int}:jZ E (fun x=>x≠-1) 0 b↔nD E b:=by
 constructor
 ·exact fun h=>h.mono fun _ _=>trivial
 ·intro h
  have h2:∀c,nD E c→(0:Int)≤c:=fun c hc=>(cQ hE.toEOk ((bQ hE.toEOk c).2 hc)).1
  have:=jZ.self h
  exact this.mono fun x hx=>by have:=h2 x hx.2;omega
theorem FD {E:Int→List Int} {n a b:Nat} (hE:fP E n) (ha:a<n) (hb:b<n) (hra:gb (eY E n (-1)) a=true) :
  (gb (eY E n (-1)) b&&(decide ((a:Int)=(b:Int))||!gb (eY E n a) b))=lS E n a b:=by
 rw[w8,hE.domB_iff]
 simp only[wh,Bool.or_eq_true,Bool.not_eq_true',wm]
 rw[sk hb,xR hE,←Bool.not_eq_true,sk hb]
 unfold gC
 constructor
 ·rintro ⟨h1,h2⟩
  refine ⟨h1,?_⟩
  rcases h2 with h2|h2
  ·rw[h2];exact fun hw=>hw.end_ rfl
  ·exact h2
 ·rintro ⟨h1,h2⟩
  exact ⟨h1,.inr h2⟩
theorem FE {E:Int→List Int} {n a b:Nat} (hE:fP E n) (ha:a<n) (hra:gb (eY E n (-1)) a=false):lS E n a b=false:=by
 rw[←Bool.not_eq_true,hE.domB_iff]
 intro h
 have:=h.rch
 rw[←xR hE,←sk ha,hra] at this
 cases this
def lp (f:ab) (a k:Nat):List Bool:=(List.range f.blocks.length).map fun b=>decide (b<k)&&lS (ah f) f.blocks.length a b
def oT (f:ab) (a:Nat):List Bool:=(List.range f.blocks.length).map fun (b:Nat)=>lS (ah f) f.blocks.length a b
def nq (f:ab):List (List Bool):=(List.range f.blocks.length).map (oT f)
theorem iP (f:ab) (a k:Nat):(lp f a k).length=f.blocks.length:=by simp[lp]
theorem sm (f:ab) (a:Nat):List.replicate f.blocks.length false=lp f a 0:=by
 unfold lp
 apply List.ext_getElem
 ·simp
 ·intro i h1 h2;simp
theorem nt {f:ab} {a k:Nat}:(lp f a k).set k (lS (ah f) f.blocks.length a k)=lp f a (k+1):=by
 apply List.ext_getElem?
 intro i
 rw[List.getElem?_set]
 unfold lp
 by_cases hi:i<f.blocks.length
 ·by_cases e:k=i
  ·subst e
   rw[if_pos rfl,if_pos (by simpa using hi),w7,List.getElem?_range hi];simp
  ·rw[if_neg e,w7,w7,List.getElem?_range hi]
   simp only[Option.map_some]
   congr 2
   exact decide_eq_decide.2 (by omega)
 ·by_cases e:k=i
  ·subst e
   rw[if_pos rfl,if_neg (by simpa using hi),w7,List.getElem?_eq_none (by simpa using hi)];rfl
  ·rw[if_neg e,w7,w7,List.getElem?_eq_none (by simpa using hi)];rfl
theorem DE (f:ab) (a:Nat):lp f a f.blocks.length=oT f a:=by
 unfold lp oT
 apply List.map_congr_left
 intro b hb
 rw[we (List.mem_range.1 hb),Bool.true_and]
theorem FF {f:ab} {a:Nat} (hE:fP (ah f) f.blocks.length) (ha:a<f.blocks.length) (hra:gb (eY (ah f) f.blocks.length (-1)) a=false):lp f a 0=oT f a:=by
 unfold lp oT
 apply List.map_congr_left
 intro b hb
 rw[FE hE ha hra];rfl
theorem FG (f:ab) (a:Nat):(oT f a).length=f.blocks.length:=by simp[oT]
theorem gY (f:ab):(nq f).length=f.blocks.length:=by simp[nq]
theorem l6 {f:ab} {a:Nat} (h:a<f.blocks.length):(nq f)[a]?=some (oT f a):=by unfold nq;rw[w7,List.getElem?_range h];rfl
theorem FH {f:ab} {a b:Nat} (h:b<f.blocks.length):(oT f a)[b]?=some (lS (ah f) f.blocks.length a b):=by unfold oT;rw[w7,List.getElem?_range h];rfl
theorem DF {f:ab} {k:Nat} (h:k<f.blocks.length):(nq f).take (k+1)=(nq f).take k++[oT f k]:=by
 rw[qy (by rw[gY];exact h)]
 have:=l6 h
 rw[qx (by rw[gY];exact h)] at this
 rw[Option.some.inj this]
def Id (f:ab) (op:Int) (args:List Int) (i:Nat) (block at_:Int) (q:aB × Nat):Bool:=decide (q.1.op=op)&&decide (q.1.args=args)&&eC f ((i:Int),(q.2:Int)) block at_
def JY (f:ab) (op:Int) (args:List Int) (block at_:Int) (i:Nat):Bool:=((f.blocks[i]?).map fun b=>b.insts.zipIdx.any (Id f op args i block at_)).getD false
def JZ (f:ab) (op:Int) (args:List Int) (block at_:Int):Bool:=(List.range f.blocks.length).any (JY f op args block at_)
def I8 (op:Int):Bool:=decide (op=2∨op=3∨op=4)
def tK (f:ab) (x:aB) (block at_:Int):Bool:=I8 x.op&&JZ f (x.op+19) x.args block at_
def kX (f:ab) (m:km):Option aB:=if 0≤m.1∧0≤m.2 then (f.blocks[m.1.toNat]?).bind fun b=>b.insts[m.2.toNat]? else none
def nu (f:ab) (v:Int):Bool:=((kX f (aD f v)).map fun x=>tK f x (aD f v).1 (aD f v).2).getD false
theorem Cj {f:ab} {op:Int} {args:List Int} {block at_:Int} {i:Nat} {b:aK} (h:f.blocks[i]?=some b):JY f op args block at_ i=b.insts.zipIdx.any (Id f op args i block at_):=by unfold JY;rw[h];rfl
theorem f6 {v i:Int} {b:aK} {m:km}:m∈nR v i b↔(∃p∈b.phis,p.dst=v∧m=(i,-1))∨∃(k:Nat) (x:aB),b.insts[k]?=some x∧x.dst=v∧m=(i,(k:Int)):=by
 unfold nR
 rw[List.mem_append]
 constructor
 ·rintro (h|h)
  ·obtain ⟨p,hp,e⟩:=List.mem_map.1 h
   obtain ⟨h1,h2⟩:=List.mem_filter.1 hp
   exact .inl ⟨p,h1,by simpa using h2,e.symm⟩
  ·obtain ⟨q,hq,e⟩:=List.mem_map.1 h
   obtain ⟨h1,h2⟩:=List.mem_filter.1 hq
   obtain ⟨x,k⟩:=q
   have:=List.mem_zipIdx_iff_getElem?.1 h1
   exact .inr ⟨k,x,this,by simpa using h2,e.symm⟩
 ·rintro (⟨p,h1,h2,rfl⟩|⟨k,x,h1,h2,rfl⟩)
  ·exact .inl (List.mem_map.2 ⟨p,List.mem_filter.2 ⟨h1,by simpa using h2⟩,rfl⟩)
  ·exact .inr (List.mem_map.2 ⟨(x,k),List.mem_filter.2 ⟨List.mem_zipIdx_iff_getElem?.2 h1,by simpa using h2⟩,rfl⟩)
theorem eH {f:ab} {v:Int} {m:km}:m∈bp f v↔∃(i:Nat) (b:aK),f.blocks[i]?=some b∧m∈nR v i b:=by
 unfold bp
 rw[List.mem_flatMap]
 constructor
 ·rintro ⟨⟨b,i⟩,h1,h2⟩;exact ⟨i,b,List.mem_zipIdx_iff_getElem?.1 h1,h2⟩
 ·rintro ⟨i,b,h1,h2⟩;exact ⟨(b,i),List.mem_zipIdx_iff_getElem?.2 h1,h2⟩
theorem ku {f:ab} {v:Int} (h:0≤(aD f v).1):aD f v∈bp f v:=by
 unfold aD at h ⊢
 cases hm:bp f v with
 |nil=>rw[hm] at h;simp at h
 |cons x l=>simp
theorem sn {f:ab} {v:Int} {m:km} (hl:(bp f v).length≤1) (h:m∈bp f v):aD f v=m:=by
 unfold aD
 cases hm:bp f v with
 |nil=>rw[hm] at h;cases h
 |cons x l=>
  rw[hm] at h hl
  cases l with
  |nil=>simp at h;simp[h]
  |cons y l=>simp at hl
theorem jR {f:ab} {v:Int} (h:0≤(aD f v).1):∃(i:Nat) (b:aK),f.blocks[i]?=some b∧((∃p∈b.phis,p.dst=v∧aD f v=((i:Int),-1))∨∃(k:Nat) (x:aB),b.insts[k]?=some x∧x.dst=v∧aD f v=((i:Int),(k:Int))):=by
 obtain ⟨i,b,h1,h2⟩:=eH.1 (ku h)
 exact ⟨i,b,h1,f6.1 h2⟩
theorem Ck {f:ab} {v:Int} {i k:Nat} {b:aK} {x:aB} (hb:f.blocks[i]?=some b) (hx:b.insts[k]?=some x) (hm:aD f v=((i:Int),(k:Int))):nu f v=tK f x i k:=by
 unfold nu kX
 rw[hm,if_pos ⟨by dsimp only;omega,by dsimp only;omega⟩]
 show (((f.blocks[i]?).bind fun b=>b.insts[k]?).map fun x=>tK f x i k).getD false=_
 rw[hb];show ((b.insts[k]?).map _).getD false=_
 rw[hx];rfl
end
section
open Go.Proofs.Tryz
open Go.Proofs Go.Lib Go.Shelf Go.RowKit
theorem J1:dn prog 69 92 1 1 [.n]:=⟨_,X1,Yg,zeroValue92,by decide,by decide,by kernel_rfl⟩
variable {E:World}
set_option maxRecDepth 20000
def xS (rows:List (List Bool)):List AV:=(rows.map fun r=>[AV.fro 1 (r.map tG)]).flatten
theorem DG (rows:List (List Bool)) (r:List Bool):xS rows++[AV.fro 1 (r.map tG)]=xS (rows++[r]):=by unfold xS;simp
theorem FI (rows:List (List Bool)):(xS rows).length=rows.length:=by unfold xS;induction rows with
 |nil=>rfl
 |cons r rows ih=>simp only[List.map_cons,List.flatten_cons,w5,ih,List.length_cons,List.length_nil];omega
def A4 (rows:List (List Bool)):AV:=.fro 1 (rows.map fun r=>[AV.fro 1 (r.map tG)])
set_option maxHeartbeats 4000000 in
theorem tL (f:ab) (hE:cg f) (hn:f.blocks.length≤1000):aP prog E 22 [.agg (bw f)] (A4 (nq f)):=by
 have hG:=hE.grph
 refine zp func22 U (by decide) U<|ae<|y6 (cs:=_) U U U<|cE U<|z2<|ae<|ac Z0 ji U U<|ze (iD f hE hn (-1)) U<|z8 (oA U)<|z2<|ae<|cE U<|z2<|zb<|ae<|ak je U Zd U U<|aI Zf U<|aj ju U<|aa U<|z2<|gc (t:=4) (k:=1) (T:=92) U<|fun i4=>zi<|y5 (γ:=Nat × Nat) [1,3,13] (fun g=>[(14,.i g.1),(4,.own g.2 g.1)]) (fun g=>[(g.2,.grow 1 92 (xS ((nq f).take g.1)))]) (fun g=>g.1≤f.blocks.length) (fun g=>f.blocks.length - g.1) (0,i4) b7 aE (w2 _) ?_
 rintro ⟨k,io⟩ hk
 try dsimp only at *
 refine ae<|ap U U<|z2<|zb<|zn U (fun ck=>?_) (fun ck=>?_)
 ·have hk2:k<f.blocks.length:=by simp at ck;omega
  have hgk:=sj (ah f) hk2 (-1)
  refine zf<|zb<|zi<|ae<|aa U<|am U<|z2<|ae<|ak je U Zd U U<|aI Zf U<|aj ju U<|qm (m:=f.blocks.length) jw Yq U U U U U (by simp) (by simp) (by show (1:Int)*_≤_;omega) (by omega)<|fun i20=>z8 (ei U)<|z2<|zb<|ae<|bd U<|aa U<|z8 (bB k jw Zb U U U hgk)<|z8 (qe (c:=.bool _) Yn U)<|z2<|yb (γ:=Nat) [1,3,4,13,14] (fun q=>[(6,.own q f.blocks.length)]) (fun q=>[(q,.grow 1 4 (cB (oT f k))),(io,.grow 1 92 (xS ((nq f).take k)))]) (fun q=>True) ?_ (fun _ _ h=>h) ?_
  ·refine zw U (fun cr=>?_) (fun cr=>?_)
   ·have hra:gb (eY (ah f) f.blocks.length (-1)) (k:Int)=true:=cr
    refine ae<|ac Z0 ji U U<|aa U<|ze (iD f hE hn (k:Int)) U<|z8 (oA U)<|z2<|ae<|bL U<|z8 (qp jw U)<|aa U<|z2<|zi<|y5 (γ:=Nat) [1,3,4,5,6,7,13,14,29] (fun j=>[(30,.i j)]) (fun j=>[(i20,.grow 1 4 (cB (lp f k j))),(io,.grow 1 92 (xS ((nq f).take k)))]) (fun j=>j≤f.blocks.length) (fun j=>f.blocks.length - j) 0 aL ⟨_,(.refl _),by rw[←sm]⟩ (w2 _) ?_
    rintro j hj
    refine ae<|ap U U<|z2<|zb<|zn U (fun cj=>?_) (fun cj=>?_)
    ·have hj2:j<f.blocks.length:=by simp at cj;omega
     have hgj:=sj (ah f) hj2 (-1)
     have hgl:=sj (ah f) hj2 (k:Int)
     have hcell:=FD hG hk2 hj2 hra
     refine zf<|zb<|zi<|ae<|aa U<|am U<|z2<|aW<|bL U<|aa U<|bd U<|aa U<|z8 (bB j jw Zb U U U hgj)<|z8 (qe (c:=.bool _) Yn U)<|aq U<|zt (s:=39) U (fun c1=>?_) (fun c1=>?_)
     ·have d1:gb (eY (ah f) f.blocks.length (-1)) (j:Int)=true:=c1
      refine z7 U U c1<|aa U<|z7 U U c1<|aa U<|z7 U U c1<|ao U U<|z7 U U c1<|aq U<|zt (s:=43) U (fun c2=>?_) (fun c2=>?_)
      ·refine z6 U U c2<|z6 U U c2<|z6 U U c2<|z6 U U c2<|z6 U U c2<|z7 U U c1<|au U c2 U<|au U c1 U<|z8 (yd (j:=j) jw Zb U U U ⟨_,.head⟩ (by rw[aM,iP]) hj2)<|q6 (j:=j) Zb U U .head (by rw[iP];exact hj2)<|z2<|aW<|aC U U<|aa U<|z2 ?_
       exact ⟨j+1,pI,aL,⟨_,(.refl _),by rw[←nt,←hcell,d1,show decide ((k:Int)=(j:Int))=true from c2];rfl⟩,hj2,by omega⟩
      ·refine z7 U U c2<|bd U<|z7 U U c2<|aa U<|z7 U U c2<|z8 (bB j jw Zb U U U hgl)<|z7 U U c2<|z8 (qe (c:=.bool _) Yn U)<|z7 U U c2<|aJ U<|z7 U U c1<|aw U c2 U<|au U c1 U<|z8 (yd (j:=j) jw Zb U U U ⟨_,.head⟩ (by rw[aM,iP]) hj2)<|q6 (j:=j) Zb U U .head (by rw[iP];exact hj2)<|z2<|aW<|aC U U<|aa U<|z2 ?_
       exact ⟨j+1,pI,aL,⟨_,(.refl _),by rw[←nt,←hcell,d1,show decide ((k:Int)=(j:Int))=false from c2];rfl⟩,hj2,by omega⟩
     ·have d1:gb (eY (ah f) f.blocks.length (-1)) (j:Int)=false:=c1
      refine z6 U U c1<|z6 U U c1<|z6 U U c1<|z6 U U c1<|zk U U<|zk U U<|zk U U<|zk U U<|zk U U<|z6 U U c1<|aw U c1 U<|z8 (yd (j:=j) jw Zb U U U ⟨_,.head⟩ (by rw[aM,iP]) hj2)<|q6 (j:=j) Zb U U .head (by rw[iP];exact hj2)<|z2<|aW<|aC U U<|aa U<|z2 ?_
      exact ⟨j+1,pI,aL,⟨_,(.refl _),by rw[←nt,←hcell,d1];rfl⟩,hj2,by omega⟩
    ·have hjn:j=f.blocks.length:=by simp at cj;omega
     refine y4 ?_
     exact ⟨i20,mI,aL,⟨_,(.refl _),by rw[hjn,DE]⟩,trivial⟩
   ·have hra:gb (eY (ah f) f.blocks.length (-1)) (k:Int)=false:=cr
    refine zf ?_
    exact ⟨i20,mI,aL,⟨_,(.refl _),by rw[←FF hG hk2 hra,←sm]⟩,trivial⟩
  ·rintro q _
   refine y7 (aR.knowB (t:=6) U .head (FG _ _))<|aW<|bL U<|bd U<|zx (rows:=[[_]]) J1 U U U U U<|yg (k:=1) X1 type92 U U U U U (fun _=>.head) (by rw[FI,wd,gY];omega) (by decide) U (by show (_+1)*24≤_;omega) (by show _+1≤_;omega)<|fun i56=>z8 (ei U)<|z2<|aW<|aC U U<|aa U<|z2 ?_
   exact ⟨(k+1,i56),bW,b7,⟨_,(.refl _),by rw[DF hk2,←DG];rfl⟩,hk2,by dsimp only;omega⟩
 ·have hkn:k=f.blocks.length:=by simp at ck;omega
  subst hkn
  rw[show f.blocks.length=(nq f).length from (gY f).symm,w4,gY]
  refine y4<|ae<|bL U<|z8 (ei U)<|z2<|zg ?_
  repeat (first|refine ki ?_|refine gR ?_)
  refine yz (aR.know (t:=2) (rows:=(nq f).map fun r=>[AV.fro 1 (r.map tG)]) U .head (by (intro r hr;obtain ⟨x,_,rfl⟩:=List.mem_map.1 hr;rfl)) (by decide) (by (rw[w6];exact gY f)))<|zm (x:=.fro _ _) U ?_
  rfl
end
section
open Go.Proofs.Tryz
open Go.Proofs Go.Lib Go.Shelf Go.RowKit
variable {E:World}
set_option maxRecDepth 20000
end
section
open Go.Proofs.Tryz
open Go.Proofs
theorem I9:em prog 243 #[(0,2),(2,1)] [.int .i64 0,.int .i64 0,.bool false]:=⟨_,_,Yx,zeroValue243,fun w=>by kernel_rfl,rfl⟩
theorem Cl:kE prog 272 1 [.int .i64 0,.int .i64 0]:=⟨_,_,_,underlying272,zeroValue272,Z1,rfl⟩
theorem Ln:kE prog 276 2 [.int .i64 0,.int .i64 0,.int .i64 0,.int .i64 0]:=⟨_,_,_,underlying276,zeroValue276,j8,rfl⟩
variable {E:World}
set_option maxRecDepth 20000
theorem Ms {x y:Int} (hx:bg x) (hy:bg y):aP prog E 213 [.int .i64 x,.int .i64 y] (.tup [.int .i64 (IntKind.i64.wrap (x*y)),.bool (decide (dk 2 x y))]):=by
 rw[←Mj]
 refine zp func213 U (by decide) U<|ae<|am U<|ad U<|z2<|ae<|aa U<|ze (La hx) U<|aa U<|ze (La hy) U<|ze (AB _ _ (EQ hx) (EQ hy)) U<|z8 (uY U)<|z8 (nC U U)<|z8 (nC U U)<|am U<|am U<|z2<|ae<|am U<|z2<|zb<|ae<|aa U<|ap U U<|aa U<|ap U U<|z8 (Gv.neqB Yo U U)<|z2<|yb (γ:=Int) [0,1,6,7] (fun m=>[(8,.int .u64 m)]) (fun m=>[]) (fun m=>m=if (!(decide (x<0) == decide (y<0)))=true then 9223372036854775808 else 9223372036854775807) ?_ (fun _ _ h=>h) ?_
 ·refine zw U (fun c1=>?_) (fun c1=>?_)
  ·refine aW<|aa U<|z8 (Gv.addW U U)<|am U<|z2 ?_
   exact ⟨_,fC,aL,aE,by simp_all<;>first|rfl|decide⟩
  ·refine zf ?_
   exact ⟨_,fC,aL,aE,by simp_all<;>first|rfl|decide⟩
 ·rintro m hm
  subst hm
  refine ae<|aa U<|aa U<|z8 (Gv.mulW U U)<|aa U<|ao U U<|aq U<|zt (s:=29) U (fun c2=>?_) (fun c2=>?_)
  ·refine z7 U U c2<|aa U<|z7 U U c2<|aa U<|z7 U U c2<|z8 (Gv.leq U U)<|au U c2 U<|am U<|ad U<|z2<|zg<|qn (x:=.int _ _) (y:=.bool _) U U ?_
   simp_all
  ·refine z6 U U c2<|z6 U U c2<|z6 U U c2<|aw U c2 U<|am U<|ad U<|z2<|zg<|qn (x:=.int _ _) (y:=.bool _) U U ?_
   simp_all
theorem l7 (i:Nat) (h:bh × Bool) (n:Int) (fits:Bool) (e:Int):bn prog E 210 [.po i 0,.int .i64 n,.bool fits,.int .i64 e] [(i,.cells 243 (vj h))] fun r O=>r=.tup []∧O=[(i,.cells 243 (vj (m1 h n fits e)))]:=by
 refine zp func210 U (by decide) U<|zb<|ae<|aq U<|aJ U<|z2<|yb (γ:=Int × Bool) [0] (fun g=>[(1,.i g.1)]) (fun g=>[(i,.cells 243 (vj (h.1,g.2)))]) (fun g=>g.1=(if fits then n else e)∧g.2=(h.2||!fits)) ?_ (fun _ _ h=>h) ?_
 ·refine zw U (fun c=>?_) (fun c=>?_)
  ·refine aW<|bb U<|aa U<|ax U<|z8 (zh Yx U Zb (by decide) U U)<|yn (l:=[_]) (new:=[_,_,_]) Zb U U U U U U .head U U<|am U<|z2 ?_
   exact ⟨(e,true),aL,aL,aE,by simp_all⟩
  ·refine zf ?_
   exact ⟨(n,h.2),aL,aL,aE,by simp_all⟩
 ·rintro ⟨m,w⟩ ⟨h1,h2⟩
  dsimp only at h1 h2
  subst h1 h2
  refine zr (fun j=>Nat.beq j 10) (by kernel_rfl) U (zo (.r (.rest _)))<|ai 0 U (dR U)<|ai 1 U (dR U)<|ai 2 U (zy U)<|ai 3 U (zh Yx U j8 (by decide) U U)<|ai 4 U (yo (l:=[_,_]) jk j8 U ⟨_,.head⟩ U U)<|ai 5 U (dx U)<|aN 6 U<|ze (I2 _) U<|z2<|aN 7 U<|ze (I3 _ _) U<|z2<|yv (i:=8) U (by kernel_rfl) (by kernel_rfl) (by kernel_rfl) (by kernel_rfl) (zy U)<|ai 9 U (zh Yx U j8 (by decide) U U)<|yc<|yk (i:=10) U (by kernel_rfl) (by kernel_rfl)<|yn (l:=[_,_]) (new:=[_,_,_]) j8 U U U U U U .head U U<|z2<|yf (by kernel_rfl)<|yy ?_
  exact ⟨rfl,rfl⟩
set_option maxHeartbeats 4000000 in
theorem xT (op:Int) (k:Nat) (hk:k≤2) (hop:op=2+(k:Int)) {a b:bh} (ha:cO a) (hb:cO b):aP prog E 185 [.int .i64 op,.agg (bP a),.agg (bP b)] (.agg (vj (rh k a b))):=by
 obtain ⟨st,hst⟩:∃st,KF (gP k) (fun x y=>decide (dk k x y)) (pj k) (fN,false) a b=st:=⟨_,rfl⟩
 have hstep:∀(i j:Nat),j<2→st (2*i+(j+1))=m1 (st (2*i+j)) (gP k (er a i) (er b j)) (decide (dk k (er a i) (er b j))) (pj k (er a i) (er b j)):=fun i j hj=>by rw[←hst];exact wZ i hj
 have h4:st 4=rh k a b:=by rw[←hst];rfl
 have h0:st 0=(fN,false):=by rw[←hst];rfl
 refine zp func185 U (by decide) U<|ae<|y6 (cs:=_) U U U<|y6 (cs:=_) U U U<|zu (cs:=[.int .i64 0,.int .i64 0,.bool false]) zeroValue243 U U<|fun i6=>z2<|ae<|ze (gV) U<|z8 (zz (cps:=[(0,[_,_])]) (rs:=[_,_,.bool false]) I9 U U U)<|zu (cs:=[.int .i64 0,.int .i64 0,.bool false]) zeroValue243 U U<|fun i7=>zj sizeOf243 U U U U U U .head U<|z2<|zb<|ae<|ak jz U Z1 U U<|aA Zc U<|ak jz U Z1 U U<|aA Zc U<|z8 (Gv.buildA (cps:=[(0,[_]),(1,[_])]) (rs:=[_,_]) Cl U U U)<|aa U<|z2<|zi<|y5 (γ:=Nat) [0,5,6,7,24] (fun i=>[(25,.i i)]) (fun i=>[(i7,.cells 243 (vj (st (2*i)))),(i6,.cells 243 [.int .i64 0,.int .i64 0,.bool false])]) (fun i=>i≤2) (fun i=>2 - i) 0 aL ⟨_,(.refl _),by rw[h0];rfl⟩ ((by omega)) ?_
 rintro i hi
 refine ae<|ap U U<|z2<|zb<|zn U (fun ci=>?_) (fun ci=>?_)
 ·have hi2:i<2:=by omega
  have hx:=Aw ha i
  refine zf<|zb<|zi<|ae<|z8 (Gv.index1 (n:=2) (j:=i) (cs:=[.int .i64 a.1,.int .i64 a.2]) (v:=.int .i64 (er a i)) underlying272 Zc Z1 U U U hi2 (qA hi2))<|am U<|z2<|ae<|ak jz U Z1 U U<|aA Zc U<|ak jz U Z1 U U<|aA Zc U<|z8 (Gv.buildA (cps:=[(0,[_]),(1,[_])]) (rs:=[_,_]) Cl U U U)<|aa U<|z2<|zi<|y5 (γ:=Nat) [0,5,6,7,9,24,25,32] (fun j=>[(33,.i j)]) (fun j=>[(i7,.cells 243 (vj (st (2*i+j)))),(i6,.cells 243 [.int .i64 0,.int .i64 0,.bool false])]) (fun j=>j≤2) (fun j=>2 - j) 0 aL aE ((by omega)) ?_
  rintro j hj
  refine ae<|ap U U<|z2<|zb<|zn U (fun cj=>?_) (fun cj=>?_)
  ·have hj2:j<2:=by omega
   have hy:=Aw hb j
   have hs:=hstep i j hj2
   refine zf<|zb<|zi<|ae<|z8 (Gv.index1 (n:=2) (j:=j) (cs:=[.int .i64 b.1,.int .i64 b.2]) (v:=.int .i64 (er b j)) underlying272 Zc Z1 U U U hj2 (qA hj2))<|am U<|z2<|ae<|aa U<|z2<|zi<|ae<|ao U U<|ad U<|z2<|zn U (fun c2=>?_) (fun c2=>?_)
   ·have hk0:k=0:=by omega
    subst hk0
    refine ae<|aa U<|aa U<|ze (Mk hx hy) U<|z8 (uY U)<|z8 (nC U U)<|z8 (wz U U)<|am U<|ad U<|z2<|aW<|aa U<|aq U<|aa U<|ap U U<|ze (EV _) U<|y3 U (zo (.l (.r (.rest _)))) (l7 i7 _ _ _ _) ?_
    rintro r50 O50 ⟨rfl,rfl⟩
    refine z2<|aW<|aC U U<|aa U<|z2 ?_
    exact ⟨j+1,tk,aL,⟨_,(.refl _),by rw[hs,lP HJ (JH _ (er b j))];rfl⟩,hj2,by omega⟩
   ·refine ae<|ao U U<|ad U<|z2<|zn U (fun c3=>?_) (fun c3=>?_)
    ·have hk0:k=1:=by omega
     subst hk0
     refine ae<|aa U<|aa U<|ze (Ml hx hy) U<|z8 (uY U)<|z8 (nC U U)<|z8 (wz U U)<|am U<|ad U<|z2<|aW<|aa U<|aq U<|aa U<|ap U U<|ze (EV _) U<|y3 U (zo (.l (.r (.rest _)))) (l7 i7 _ _ _ _) ?_
     rintro r64 O64 ⟨rfl,rfl⟩
     refine z2<|aW<|aC U U<|aa U<|z2 ?_
     exact ⟨j+1,tk,aL,⟨_,(.refl _),by rw[hs,lP HK (JI _ (er b j))];rfl⟩,hj2,by omega⟩
    ·refine ae<|ao U U<|ad U<|z2<|zn U (fun c4=>?_) (fun c4=>?_)
     ·have hk0:k=2:=by omega
      subst hk0
      refine ae<|aa U<|aa U<|ze (Ms hx hy) U<|z8 (uY U)<|z8 (nC U U)<|z8 (wz U U)<|am U<|ad U<|z2<|aW<|aa U<|aq U<|aa U<|ap U U<|aa U<|ap U U<|z8 (Gv.neqB Yo U U)<|ze (EV _) U<|y3 U (zo (.l (.r (.rest _)))) (l7 i7 _ _ _ _) ?_
      rintro r81 O81 ⟨rfl,rfl⟩
      refine z2<|aW<|aC U U<|aa U<|z2 ?_
      exact ⟨j+1,tk,aL,⟨_,(.refl _),by rw[hs,lP EP (JJ _ (er b j))];rfl⟩,hj2,by omega⟩
     ·exfalso;omega
  ·have hj2:j=2:=by omega
   subst hj2
   refine y4<|aW<|aC U U<|aa U<|z2 ?_
   exact ⟨i+1,mI,aL,⟨_,(.refl _),by rw[show 2*(i+1)=2*i+2 by omega]⟩,hi2,by omega⟩
 ·have hi2:i=2:=by omega
  subst hi2
  refine y4<|ae<|z8 (qu isAgg243 sizeOf243 U ⟨_,.head⟩ U)<|zj sizeOf243 U U U U U U .t1 U<|z2<|zg<|ym U ⟨_,.t1⟩ isAgg243 sizeOf243 U ?_
  rw[←h4];try rfl
theorem Lo {a b:bh} (ha:cO a):aP prog E 186 [.agg (bP a),.agg (bP b)] (.agg (bP (uk a b))):=by
 have h0:tB a b 0=(fN,false):=rfl
 refine zp func186 U (by decide) U<|ae<|y6 (cs:=_) U U U<|y6 (cs:=_) U U U<|zu (cs:=[.int .i64 0,.int .i64 0]) Z3 U U<|fun i4=>z2<|ae<|ze (gV) U<|z8 (zz (cps:=[(0,[_,_])]) (rs:=[_,_,.bool false]) I9 U U U)<|zu (cs:=[.int .i64 0,.int .i64 0,.bool false]) zeroValue243 U U<|fun i5=>zj sizeOf243 U U U U U U .head U<|z2<|zb<|zb<|zr (fun j=>false) (by kernel_rfl) U (zo (.rest _))<|ai 0 U (yp jk j8 U U)<|ai 1 U (zz (cps:=[(0,[_]),(1,[_])]) (rs:=[_,_]) mL U U U)<|ai 3 U (yp jk j8 U U)<|ai 4 U (zz (cps:=[(0,[_]),(1,[_])]) (rs:=[_,_]) mL U U U)<|ai 7 U (dx U)<|aN 2 U<|ze (pm b (ib,-1)) U<|z2<|aN 5 U<|ze (pm b (1,ig)) U<|z2<|ai 6 U (Gv.buildA (cps:=[(0,[_,_]),(1,[_,_])]) (rs:=[_,_,_,_]) Ln U U U)<|bI<|zi<|y5 (γ:=Nat) [2,4,5,22] (fun q=>[(23,.i q)]) (fun q=>[(i5,.cells 243 (vj (tB a b q))),(i4,.cells 63 [.int .i64 0,.int .i64 0])]) (fun q=>q≤2) (fun q=>2 - q) 0 aL aE ((by omega)) ?_
 rintro q hq
 refine ae<|ap U U<|z2<|zb<|zn U (fun cq=>?_) (fun cq=>?_)
 ·have hq2:q<2:=by omega
  have hqs:tB a b (q+1)=nL a (pl b q) (tB a b q):=rfl
  obtain ⟨p,hp⟩:∃p,pl b q=p:=⟨_,rfl⟩
  have hpg:=ES (b:=b) hq2
  rw[hp] at hqs hpg
  refine zf<|zb<|zi<|ae<|z8 (Gv.indexA (n:=2) (j:=q) (k:=2) (cs:=bP (cF b (ib,-1))++bP (cF b (1,ig))) (l:=bP p) underlying276 jk j8 U U U hq2 hpg)<|zu (cs:=[.int .i64 0,.int .i64 0]) Z3 U U<|fun i7=>zj j8 U U U U U U .head U<|z2<|y7 (y8 (t:=7) U .head)<|zb<|ae<|ac jk j8 U U<|ze (fi _) U<|z2<|zn U (fun ce=>?_) (fun ce=>?_)
  ·refine y4<|aW<|aC U U<|aa U<|z2 ?_
   exact ⟨q+1,fC,aL,⟨_,(.refl _),by rw[hqs,nL,if_pos ce]⟩,hq2,by omega⟩
  ·obtain ⟨st,hst⟩:∃st,KF Int.tdiv f7 (fun _ _=>ig) (tB a b q) a p=st:=⟨_,rfl⟩
   have hstep:∀(i j:Nat),j<2→st (2*i+(j+1))=m1 (st (2*i+j)) ((er a i).tdiv (er p j)) (f7 (er a i) (er p j)) ig:=fun i j hj=>by rw[←hst];exact wZ i hj
   have h4:st 4=tB a b (q+1):=by rw[hqs,nL,if_neg ce,←hst];rfl
   have hs0:st 0=tB a b q:=by rw[←hst];rfl
   refine zf<|ae<|ak jz U Z1 U U<|aA Zc U<|ak jz U Z1 U U<|aA Zc U<|z8 (Gv.buildA (cps:=[(0,[_]),(1,[_])]) (rs:=[_,_]) Cl U U U)<|aa U<|z2<|zi<|y5 (γ:=Nat) [2,4,5,7,22,23,32] (fun i=>[(33,.i i)]) (fun i=>[(i5,.cells 243 (vj (st (2*i)))),(i4,.cells 63 [.int .i64 0,.int .i64 0])]) (fun i=>i≤2) (fun i=>2 - i) 0 aL ⟨_,(.refl _),by rw[hs0]⟩ ((by omega)) ?_
   rintro i hi
   refine ae<|ap U U<|z2<|zb<|zn U (fun ci=>?_) (fun ci=>?_)
   ·have hi2:i<2:=by omega
    have hx:=Aw ha i
    refine zf<|zb<|zi<|ae<|z8 (Gv.index1 (n:=2) (j:=i) (cs:=[.int .i64 a.1,.int .i64 a.2]) (v:=.int .i64 (er a i)) underlying272 Zc Z1 U U U hi2 (qA hi2))<|am U<|z2<|ae<|ak jz U Z1 U U<|aA Zc U<|ak jz U Z1 U U<|aA Zc U<|z8 (Gv.buildA (cps:=[(0,[_]),(1,[_])]) (rs:=[_,_]) Cl U U U)<|aa U<|z2<|zi<|y5 (γ:=Nat) [2,4,5,7,9,22,23,32,33,40] (fun j=>[(41,.i j)]) (fun j=>[(i5,.cells 243 (vj (st (2*i+j)))),(i4,.cells 63 [.int .i64 0,.int .i64 0])]) (fun j=>j≤2) (fun j=>2 - j) 0 aL aE ((by omega)) ?_
    rintro j hj
    refine ae<|ap U U<|z2<|zb<|zn U (fun cj=>?_) (fun cj=>?_)
    ·have hj2:j<2:=by omega
     have hs:=hstep i j hj2
     have hy:er p j≠0:=by have:=HM (b:=b) (q:=q) (j:=j) (by rw[hp];exact ce);rwa [hp] at this
     refine zf<|zb<|zi<|ae<|z8 (Gv.index1 (n:=2) (j:=j) (cs:=[.int .i64 p.1,.int .i64 p.2]) (v:=.int .i64 (er p j)) underlying272 Zc Z1 U U U hj2 (qA hj2))<|am U<|z2<|ae<|aa U<|aa U<|ze (Mm hy) U<|z8 (uY U)<|z8 (nC U U)<|z8 (wz U U)<|am U<|ad U<|z2<|aW<|aa U<|aa U<|aO U U<|aq U<|zt (s:=53) U (fun c1=>?_) (fun c1=>?_)
     ·have hf:f7 (er a i) (er p j)=true:=by unfold f7;simp_all[ib]
      refine z6 U U c1<|z6 U U c1<|au U c1 U<|y3 U (zo (.l (.r (.rest _)))) (l7 i5 _ _ _ _) ?_
      rintro r57 O57 ⟨rfl,rfl⟩
      refine z2<|aW<|aC U U<|aa U<|z2 ?_
      exact ⟨j+1,iS,aL,⟨_,(.refl _),by rw[hs,hf,lP (fits:=true) (fun _=>BS hx hy hf) (show (9223372036854775807:Int)=ig from rfl)];rfl⟩,hj2,by omega⟩
     ·have hf:f7 (er a i) (er p j)=!decide (er p j=-1):=by unfold f7;simp_all[ib]
      refine z7 U U c1<|aa U<|z7 U U c1<|aO U U<|aw U c1 U<|y3 U (zo (.l (.r (.rest _)))) (l7 i5 _ _ _ _) ?_
      rintro r57 O57 ⟨rfl,rfl⟩
      refine z2<|aW<|aC U U<|aa U<|z2 ?_
      exact ⟨j+1,iS,aL,⟨_,(.refl _),by rw[hs,hf,lP (fits:=!decide (er p j=-1)) (fun h=>BS hx hy (by rw[hf];exact h)) (show (9223372036854775807:Int)=ig from rfl)];rfl⟩,hj2,by omega⟩
    ·have hj2:j=2:=by omega
     subst hj2
     refine y4<|aW<|aC U U<|aa U<|z2 ?_
     exact ⟨i+1,lg,aL,⟨_,(.refl _),by rw[show 2*(i+1)=2*i+2 by omega]⟩,hi2,by omega⟩
   ·have hi2:i=2:=by omega
    subst hi2
    refine y4<|aW<|aC U U<|aa U<|z2 ?_
    exact ⟨q+1,fC,aL,⟨_,(.refl _),by rw[←h4]⟩,hq2,by omega⟩
 ·have hq2:q=2:=by omega
  subst hq2
  refine y4<|zb<|ae<|z8 (zh Yx U Zb (by decide) U U)<|z8 (zq (c:=.bool _) Yn U ⟨_,.head⟩ U)<|z2<|zw U (fun cw=>?_) (fun cw=>?_)
  ·refine ae<|ze (ET) U<|zj j8 U U U U U U .t1 U<|z2<|zg<|ym U ⟨_,.t1⟩ jk j8 U ?_
   rw[ER,if_pos cw];try rfl
  ·refine zf<|ae<|z8 (zh Yx U j8 (by decide) U U)<|z8 (yo (l:=[_,_]) jk j8 U ⟨_,.head⟩ U U)<|zj j8 U U U U U U .t1 U<|z2<|zg<|ym U ⟨_,.t1⟩ jk j8 U ?_
   rw[ER,if_neg (by simpa using cw)];try rfl
theorem J2 {a b:bh} (ha:cO a) (hb:cO b):aP prog E 187 [.agg (bP a),.agg (bP b)] (.agg (bP (pk a b))):=by
 have ha1:=ha.1;have ha2:=ha.2;have hb1:=hb.1;have hb2:=hb.2
 unfold bg at ha1 ha2 hb1 hb2
 refine zp func187 U (by decide) U<|ae<|y6 (cs:=_) U U U<|y6 (cs:=_) U U U<|zu (cs:=[.int .i64 0,.int .i64 0]) Z3 U U<|fun i4=>z2<|zb<|zb<|zr (fun j=>false) (by kernel_rfl) U (zo (.rest _))<|ai 0 U (yp jk j8 U U)<|aN 1 U<|ze (I2 _) U<|z2<|ai 2 U (Gv.eqlP (xs:=[.int _ _,.int _ _]) (ys:=[.int _ _,.int _ _]) (by kernel_rfl) U U (fun w=>xa _ _ _ _ w))<|bI<|zn U (fun c0=>?_) (fun c0=>?_)
 ·refine ae<|ze (gV) U<|zj j8 U U U U U U .head U<|z2<|zg<|ym U ⟨_,.head⟩ jk j8 U ?_
  rw[pk,if_pos (by obtain ⟨b1,b2⟩:=b;obtain ⟨h1,h2⟩:=c0;exact Prod.ext h1 h2)];try rfl
 ·have c0:¬b=(0,0):=fun e=>c0 (by rw[e];exact ⟨rfl,rfl⟩)
  refine zf<|ae<|am U<|z2<|zb<|ae<|ak jz U Z1 U U<|aA Zc U<|ap U U<|z2<|yb (γ:=Int) [2,3,4] (fun k=>[(5,.i k)]) (fun k=>[(i4,.cells 63 [.int .i64 0,.int .i64 0])]) (fun k=>k=if b.1<0 then -(b.1+1) else 0) ?_ (fun _ _ h=>h) ?_
  ·refine zn U (fun c1=>?_) (fun c1=>?_)
   ·refine aW<|ak jz U Z1 U U<|aA Zc U<|aC U U<|z8 (Gv.neg U)<|am U<|z2 ?_
    exact ⟨IntKind.i64.wrap (0 - (b.1+1)),bW,aL,aE,by rw[if_pos c1,gf (by unfold bg;omega)];omega⟩
   ·refine zf ?_
    exact ⟨0,bW,aL,aE,by rw[if_neg c1]⟩
  ·rintro k hk
   have hkr:0≤k∧k≤9223372036854775807:=by rw[hk];split<;>omega
   refine zb<|ae<|ak jz U Z1 U U<|aA Zc U<|be U U<|z2<|yb (γ:=Int) [2,4] (fun m=>[(5,.i m)]) (fun m=>[(i4,.cells 63 [.int .i64 0,.int .i64 0])]) (fun m=>m=if 0<b.2 then eo k (b.2 - 1) else k) ?_ (fun _ _ h=>h) ?_
   ·refine zn U (fun c1=>?_) (fun c1=>?_)
    ·refine aW<|aa U<|ak jz U Z1 U U<|aA Zc U<|z8 (Gv.sub U U (by unfold lz;omega))<|z8 (Gv.maxI U U)<|am U<|z2 ?_
     exact ⟨eo k (b.2 - 1),b7,aL,aE,by rw[if_pos c1]⟩
    ·refine zf ?_
     exact ⟨k,b7,aL,aE,by rw[if_neg c1]⟩
   ·rintro m hm
    have hmr:0≤m∧m≤9223372036854775807:=by rw[hm];unfold eo;(repeat' split)<;>omega
    have hr:pk a b=(if a.1<0 then eo a.1 (-m) else 0,if 0<a.2 then ff a.2 m else 0):=by subst hm hk;rw[pk,if_neg c0]
    rw[hr]
    refine ae<|ze (I2 _) U<|zu (cs:=[.int .i64 0,.int .i64 0]) Z3 U U<|fun i6=>zj j8 U U U U U U .head U<|z2<|zb<|ae<|ak jz U Z1 U U<|aA Zc U<|ap U U<|z2<|yb (γ:=Int) [2,4,5,6] (fun x=>[]) (fun x=>[(i6,.cells 63 [.int .i64 x,.int .i64 0]),(i4,.cells 63 [.int .i64 0,.int .i64 0])]) (fun x=>x=if a.1<0 then eo a.1 (-m) else 0) ?_ (fun _ _ h=>h) ?_
    ·refine zn U (fun c1=>?_) (fun c1=>?_)
     ·refine aW<|ak jz U Z1 U U<|aA Zc U<|aa U<|z8 (Gv.neg U)<|z8 (Gv.maxI U U)<|z8 (zh jz U Z1 (by decide) U U)<|yn (l:=[_]) (new:=[_,_]) Z1 U U U U U U .head U U<|z2 ?_
      exact ⟨eo a.1 (IntKind.i64.wrap (0 - m)),fC,trivial,aE,by rw[if_pos c1,gf (by unfold bg;omega),Int.zero_sub]⟩
     ·refine zf ?_
      exact ⟨0,fC,trivial,aE,by rw[if_neg c1]⟩
    ·rintro x hx
     refine zb<|ae<|ak jz U Z1 U U<|aA Zc U<|be U U<|z2<|zn U (fun c1=>?_) (fun c1=>?_)
     ·refine aW<|ak jz U Z1 U U<|aA Zc U<|aa U<|z8 (Gv.minI U U)<|z8 (zh jz U Z1 (by decide) U U)<|yn (l:=[_]) (new:=[_,_]) Z1 U U U U U U .head U U<|z2<|ae<|z8 (qu jk j8 U ⟨_,.head⟩ U)<|zj j8 U U U U U U .t1 U<|z2<|zg<|ym U ⟨_,.t1⟩ jk j8 U ?_
      rw[←hx,if_pos c1];try rfl
     ·refine zf<|ae<|z8 (qu jk j8 U ⟨_,.head⟩ U)<|zj j8 U U U U U U .t1 U<|z2<|zg<|ym U ⟨_,.t1⟩ jk j8 U ?_
      rw[←hx,if_neg c1];try rfl
def gL (op:Int) (a b:bh):bh:=
 if a.2<a.1∨b.2<b.1 then fN else if op=2 then oE 0 a b false else if op=3 then oE 1 a b false else if op=4 then oE 2 a b false else if op=5 then uk a b else if op=6 then pk a b else lC
def so (op:Int) (a b:bh):bh:=
 if a.2<a.1∨b.2<b.1 then fN else if op=2 then oE 0 a b true else if op=3 then oE 1 a b true else if op=4 then oE 2 a b true else if op=5 then uk a b else if op=6 then pk a b else lC
theorem A5 {op:Int} (h:op=2∨op=3∨op=4):∃k:Nat,k≤2∧op=2+(k:Int):=⟨(op - 2).toNat,by omega,by omega⟩
theorem oU {op:Int} {k:Nat} (hk:k≤2) (h:op=2+(k:Int)) {a b:bh} (hn:¬(a.2<a.1∨b.2<b.1)):gL op a b=oE k a b false∧so op a b=oE k a b true:=by
 unfold gL so
 rw[if_neg hn,if_neg hn]
 rcases (by omega:k=0∨k=1∨k=2) with rfl|rfl|rfl<;>subst h<;>exact ⟨rfl,rfl⟩
theorem A6 {op:Int} {a b:bh} (hc:(a.2<a.1∨b.2<b.1)∨¬(op=2∨op=3∨op=4)):gL op a b=so op a b:=by
 unfold gL so
 by_cases h:a.2<a.1∨b.2<b.1
 ·rw[if_pos h,if_pos h]
 ·have hs:¬(op=2∨op=3∨op=4):=hc.resolve_left h
  rw[not_or,not_or] at hs
  obtain ⟨h2,h3,h4⟩:=hs
  rw[if_neg h,if_neg h]
  simp only[h2,h3,h4,if_false]
theorem A7 (op:Int) {a b:bh} (ha:cO a) (hb:cO b):aP prog E 144 [.int .i64 op,.agg (bP a),.agg (bP b)] (.agg (bP (gL op a b))):=by
 refine zp func144 U (by decide) U<|ae<|y6 (cs:=_) U U U<|y6 (cs:=_) U U U<|zu (cs:=[.int .i64 0,.int .i64 0]) Z3 U U<|fun i6=>z2<|zb<|zi<|zb<|yb (γ:=Bool) [0,4,5,6] (fun u=>[(8,.bool u)]) (fun u=>[(i6,.cells 63 [.int .i64 0,.int .i64 0])]) (fun u=>u=decide (a.2<a.1∨b.2<b.1)) ?_ (fun _ _ h=>h) ?_
 ·refine aW<|ac jk j8 U U<|ze (fi _) U<|aq U<|zt (s:=11) U (fun c3=>?_) (fun c3=>?_)
  ·refine z6 U U c3<|z6 U U c3<|au U c3 U<|ad U<|z2 ?_
   exact ⟨_,fC,aL,aE,by simp_all<;>omega⟩
  ·refine z7 U U c3<|ac jk j8 U U<|z7 U U c3<|ze (fi _) U<|aw U c3 U<|ad U<|z2 ?_
   exact ⟨_,fC,aL,aE,by simp_all<;>omega⟩
 ·rintro u hu
  subst hu
  refine zn U (fun cn=>?_) (fun cn=>?_)
  ·refine ae<|ze (gV) U<|zj j8 U U U U U U .head U<|z2<|zg<|ym U ⟨_,.head⟩ jk j8 U ?_
   rw[gL,if_pos cn];try rfl
  ·refine ae<|aa U<|ze (I4 _) U<|ad U<|z2<|zw U (fun cs=>?_) (fun cs=>?_)
   ·have hs:op=2∨op=3∨op=4:=by simpa using cs
    obtain ⟨k,hk,hop⟩:=A5 hs
    rw[(oU hk hop cn).1]
    refine ae<|aa U<|ac jk j8 U U<|ac jk j8 U U<|ze (xT op k hk hop ha hb) U<|zu (cs:=[.int .i64 0,.int .i64 0,.bool false]) zeroValue243 U U<|fun i7=>zj sizeOf243 U U U U U U .head U<|z2<|ae<|z8 (zh Yx U Zb (by decide) U U)<|z8 (zq (c:=.bool _) Yn U ⟨_,.head⟩ U)<|aJ U<|z2<|zw U (fun cw=>?_) (fun cw=>?_)
    ·refine ae<|z8 (zh Yx U j8 (by decide) U U)<|z8 (yo (l:=[_,_]) jk j8 U ⟨_,.head⟩ U U)<|zj j8 U U U U U U .t1 U<|z2<|zg<|ym U ⟨_,.t1⟩ jk j8 U ?_
     rw[oE,if_neg (by decide),if_neg (by simpa using cw)];try rfl
    ·refine zf<|ae<|ze (ET) U<|zj j8 U U U U U U .t1 U<|z2<|zg<|ym U ⟨_,.t1⟩ jk j8 U ?_
     rw[oE,if_neg (by decide),if_pos (by simpa using cw)];try rfl
   ·have hs:¬(op=2∨op=3∨op=4):=by simpa using cs
    rw[gL,if_neg cn,if_neg (by omega),if_neg (by omega),if_neg (by omega)]
    refine ae<|aa U<|ao U U<|ad U<|z2<|zn U (fun c5=>?_) (fun c5=>?_)
    ·refine ae<|ac jk j8 U U<|ac jk j8 U U<|ze (Lo ha) U<|zj j8 U U U U U U .head U<|z2<|zg<|ym U ⟨_,.head⟩ jk j8 U ?_
     rw[if_pos c5];try rfl
    ·rw[if_neg c5]
     refine ae<|aa U<|ao U U<|ad U<|z2<|zn U (fun c6=>?_) (fun c6=>?_)
     ·refine ae<|ac jk j8 U U<|ac jk j8 U U<|ze (J2 ha hb) U<|zj j8 U U U U U U .head U<|z2<|zg<|ym U ⟨_,.head⟩ jk j8 U ?_
      rw[if_pos c6];try rfl
     ·refine zf<|ae<|ze (ET) U<|zj j8 U U U U U U .head U<|z2<|zg<|ym U ⟨_,.head⟩ jk j8 U ?_
      rw[if_neg c6];try rfl
theorem Lp (op:Int) {a b:bh} (ha:cO a) (hb:cO b):aP prog E 183 [.int .i64 op,.agg (bP a),.agg (bP b)] (.agg (bP (so op a b))):=by
 refine zp func183 U (by decide) U<|ae<|y6 (cs:=_) U U U<|y6 (cs:=_) U U U<|zu (cs:=[.int .i64 0,.int .i64 0]) Z3 U U<|fun i6=>z2<|zb<|zb<|yb (γ:=Bool) [0,4,5,6] (fun u=>[(17,.bool u)]) (fun u=>[(i6,.cells 63 [.int .i64 0,.int .i64 0])]) (fun u=>u=decide ((a.2<a.1∨b.2<b.1)∨¬(op=2∨op=3∨op=4))) ?_ (fun _ _ h=>h) ?_
 ·refine aW<|ac jk j8 U U<|ze (fi _) U<|aq U<|zt (s:=9) U (fun c4=>?_) (fun c4=>?_)
  ·refine z6 U U c4<|z6 U U c4<|au U c4 U<|aq U<|z6 U U U<|z6 U U U<|z6 U U U<|au U U U<|z2 ?_
   exact ⟨_,fC,aL,aE,by simp_all<;>omega⟩
  ·refine z7 U U c4<|ac jk j8 U U<|z7 U U c4<|ze (fi _) U<|aw U c4 U<|aq U<|zt (s:=13) U (fun c5=>?_) (fun c5=>?_)
   ·refine z6 U U c5<|z6 U U c5<|z6 U U c5<|au U c5 U<|z2 ?_
    exact ⟨_,fC,aL,aE,by simp_all<;>omega⟩
   ·refine z7 U U c5<|aa U<|z7 U U c5<|ze (I4 _) U<|z7 U U c5<|aJ U<|aw U c5 U<|z2 ?_
    exact ⟨_,fC,aL,aE,by simp_all<;>omega⟩
 ·rintro u hu
  subst hu
  refine zn U (fun cn=>?_) (fun cn=>?_)
  ·refine ae<|aa U<|ac jk j8 U U<|ac jk j8 U U<|ze (A7 op ha hb) U<|zj j8 U U U U U U .head U<|z2<|zg<|ym U ⟨_,.head⟩ jk j8 U ?_
   rw[A6 cn];try rfl
  ·obtain ⟨k,hk,hop⟩:=A5 (Classical.byContradiction fun h=>cn (.inr h))
   have hn:¬(a.2<a.1∨b.2<b.1):=fun h=>cn (.inl h)
   rw[(oU hk hop hn).2]
   refine zf<|ae<|aa U<|ac jk j8 U U<|ac jk j8 U U<|ze (xT op k hk hop ha hb) U<|z8 (Gv.fieldA (l:=[_,_]) Yx U jk j8 U U)<|zj j8 U U U U U U .head U<|z2<|zg<|ym U ⟨_,.head⟩ jk j8 U ?_
   rw[oE,if_pos rfl];try rfl
end
end Go.Proofs.YtbbonnfjealmpaaGreatDoor
