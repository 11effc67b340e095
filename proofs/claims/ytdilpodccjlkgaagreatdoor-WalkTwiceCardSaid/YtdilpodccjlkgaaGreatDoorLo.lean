/- The walk's facts of what an instruction makes. Of facts of nodes that there are. -/
import Derived.Test.YtdilpodccjlkgaaGreatDoorLn
import Derived.Test.YtdilpodccjlkgaaGreatDoorLd
import Derived.Test.YtdilpodccjlkgaaGreatDoorLc
set_option linter.unusedVariables false
set_option linter.unusedSimpArgs false
set_option linter.unusedSectionVars false
namespace Go.Proofs.YtdilpodccjlkgaaGreatDoor
open Go.Proofs.Tryz
open Go.Proofs Go.Lib Go.Shelf Go.RowKit
variable {E:World}
set_option maxRecDepth 20000
def BR (f0 f1 f2 t m pr:AV) (js:Nat) (q:Int) (a8 a9 a10:AV):List AV:=[f0,f1,f2,t,m,pr,.po js 0,.int .i64 q,a8,a9,a10]
def BS (iw js jl jm n:Nat) (cs:List AV) (l:List fw) (M:List Int):OL:=(iw,.cells 75 cs)::oS js jl jm n l M
theorem Aa {l:List fw} {a b c:Int} (h:l.length≤8192):(k4 l a b c).length≤8192:=by
 unfold k4
 split
 ·rw[qo];simp;omega
 ·exact h
theorem uJ (f0 f1 f2 t m pr a8 a9 a10:AV) (iw js jl jm n:Nat) (q:Int) (l:List fw) (M:List Int) (hll:l.length≤8192) {a b:Int} (ha:m0 n a) (hb:m0 n b) :
  aU prog E 67 [.po iw 0,.int .i64 a,.int .i64 b] (BS iw js jl jm n (BR f0 f1 f2 t m pr js q a8 a9 a10) l M) (fun y O=>∃g:Nat,y=.tup []∧O=BS iw js g jm n (BR f0 f1 f2 t m pr js q a8 a9 a10) (k4 (k4 l a b 0) b a 0) M∧True):=by
 refine yz (γ:=Nat) (x:=fun g=>.tup []) (M:=fun g=>BS iw js g jm n (BR f0 f1 f2 t m pr js q a8 a9 a10) (k4 (k4 l a b 0) b a 0) M) (p:=fun _=>True) ?_
 have h1:=l7 (E:=E) js jl jm n l M ha hb 0 hll
 have h2:=fun jl=>l7 (E:=E) js jl jm n (k4 l a b 0) M hb ha 0 (Aa hll)
 unfold BS BR
 unfold oS at h1 h2 ⊢
 refine zo func67 Z (by decide) Z<|ah<|aR Z<|az Z<|za (zn j7 Z Z2 (by decide) Z Z)<|za (zq (c:=.po _ _) Z9 Z ⟨_,.head⟩ Z)<|aa Z<|aa Z<|zr Z (zm (.r (.l (.l (.l (.rest _)))))) (h1) ?_
 rintro r12 O12 ⟨⟨j1,u1⟩,rfl,rfl,_⟩
 refine z6<|aV<|aR Z<|az Z<|za (zn j7 Z Z2 (by decide) Z Z)<|za (zq (c:=.po _ _) Z9 Z ⟨_,.t3⟩ Z)<|aa Z<|aa Z<|zr Z (zm (.l (.l (.l (.r (.rest _)))))) (h2 j1) ?_
 rintro r19 O19 ⟨⟨j2,u2⟩,rfl,rfl,_⟩
 refine z6<|yc (zb (zc .t2))<|yc (zb (zc .t2))<|yc (zb (zc .t2))<|yc (zb (zc .t3))<|yp ?_
 exact ⟨j2,rfl,⟨_,.refl _,rfl⟩,trivial⟩
end Go.Proofs.YtdilpodccjlkgaaGreatDoor
namespace Go.Proofs.YtdilpodccjlkgaaGreatDoor
open Go.Proofs.Tryz
def ag (k:Int):List (Int × AV)→Option AV
 |[]=>none
 |(k',x)::es=>if k=k' then some x else ag k es
def am (k:Int) (x:AV):List (Int × AV)→List (Int × AV)
 |[]=>[(k,x)]
 |(k',x')::es=>if k=k' then (k,x)::es else (k',x')::am k x es
theorem CC (k k':Int) (x:AV):∀es:List (Int × AV),ag k (am k' x es)=if k=k' then some x else ag k es
 |[]=>by simp only[am,ag]
 |(q,y)::es=>by
  simp only[am]
  by_cases h:k'=q
  ·subst h
   rw[if_pos rfl]
   simp only[ag]
   by_cases h2:k=k'
   ·rw[if_pos h2,if_pos h2]
   ·rw[if_neg h2,if_neg h2,if_neg h2]
  ·rw[if_neg h]
   simp only[ag]
   by_cases h2:k=q
   ·rw[if_pos h2,if_pos h2,if_neg (fun e=>h (by rw[←e,h2]))]
   ·rw[if_neg h2,if_neg h2];exact CC k k' x es
def iV (I:G):List (Int × AV)→List (Value × Value)→Prop
 |[],hs=>hs=[]
 |(k,x)::es,hs=>∃v hs',hs=(kv k,v)::hs'∧bg I x v∧iV I es hs'
theorem iV.mono {I J:G} (h:I.le J):∀{es:List (Int × AV)} {hs:List (Value × Value)},iV I es hs→iV J es hs
 |[],_,e=>e
 |(_,_)::_,_,⟨v,hs',e,h1,h2⟩=>⟨v,hs',e,bg.mono h _ _ h1,iV.mono h h2⟩
theorem iV.get {I:G} {k:Int}:∀{l:List MapEntry} {es:List (Int × AV)} (i:Nat),iV I es (l.map fun e=>(e.key,e.val)) →
  (Instr.findNow (.int .i64) (kv k) l i=some none∧ag k es=none∧∀y u,bg I y u→iV I (am k y es) ((l.map fun e=>(e.key,e.val))++[(kv k,u)])) ∨
  (∃j e0 v x,Instr.findNow (.int .i64) (kv k) l i=some (some (i+j,v))∧l[j]?=some e0∧e0.key=kv k∧ag k es=some x∧bg I x v∧∀y u,bg I y u→iV I (am k y es) ((l.map fun e=>(e.key,e.val)).set j (kv k,u)))
 |[],[],i,_=>.inl ⟨rfl,rfl,fun y u h=>⟨u,[],rfl,h,rfl⟩⟩
 |_::_,[],_,h=>by cases h
 |[],(_,_)::_,_,⟨_,_,e,_⟩=>by cases e
 |x::l,(k1,r)::es,i,⟨v,hs',e,h1,h2⟩=>by
  simp only[List.map_cons,List.cons.injEq,Prod.mk.injEq] at e
  obtain ⟨⟨hk,hv⟩,rfl⟩:=e
  by_cases e1:k=k1
  ·subst e1
   right
   refine ⟨0,x,v,r,?_,Z,hk,by simp[ag],h1,fun y u h=>?_⟩
   ·unfold Instr.findNow;rw[hk,xS,qv rfl];simp[hv]
   ·simp only[am,if_pos,List.map_cons,List.set_cons_zero]
    exact ⟨u,_,rfl,h,h2⟩
  ·have hf:Instr.findNow (.int .i64) (kv k) (x::l) i=Instr.findNow (.int .i64) (kv k) l (i+1):=by
    rw[Instr.findNow,hk,xS,qw e1]
   have hg:ag k ((k1,r)::es)=ag k es:=by simp[ag,e1]
   have hms:∀y,am k y ((k1,r)::es)=(k1,r)::am k y es:=fun y=>by simp[am,e1]
   rw[hf,hg]
   rcases iV.get (k:=k) (i+1) h2 with ⟨g1,g2,g3⟩|⟨j,e0,v1,x1,g1,g2,g3,g4,g5,g6⟩
   ·left
    refine ⟨g1,g2,fun y u h=>?_⟩
    rw[hms]
    exact ⟨v,_,by rw[List.map_cons,hk,hv];rfl,h1,g3 y u h⟩
   ·right
    refine ⟨j+1,e0,v1,x1,by rw[g1];congr 3;omega,by simpa using g2,g3,g4,g5,fun y u h=>?_⟩
    rw[hms]
    exact ⟨v,_,by rw[List.map_cons,hk,hv,List.set_cons_succ],h1,g6 y u h⟩
def hZ (b:Nat) (es:List (Int × AV)):bu:=.heapG (fun I L=>∃arr clock,L=[(b,.map arr clock)]∧iV I es (fM arr)) fun I J L h hp=>by
 obtain ⟨arr,clock,h1,h2⟩:=hp;exact ⟨arr,clock,h1,h2.mono h⟩
section
variable {E:World} {P:Program} {ops:Array Oper} {K:aM→OL→Prop} {env:aM} {O O' O'':OL} {rest:List Oper} {n:Nat}
variable {d ty:Nat} {pos:String} {af:Array Edge} {x y z:Operand} {t u e T kt:TypeId} {b:Nat}
theorem ax.makeMapA (k:∀b,ax P E ops K rest (bi env d (cT b)) ((0,hZ b [])::O)):ax P E ops K (Oper.mk (some d) (.makeMap t none) ty pos af none::rest) env O:=fun I F ρ w h1 ⟨ht,L,hL,hS⟩=>by
 refine qd Z ?_
 unfold ig
 have:(execOp (Go.Proofs.YtdilpodccjlkgaaGreatDoor.ev ρ) (Oper.mk (some d) (.makeMap t none) ty pos af none)).run P w=.ok (.value (.map (some w.heap.size))) (w.alloc (.map #[] 0)):=by
  simp only[execOp,Option.map_none]
  rw[Sem.run_bind,run_makeMap_plain];rfl
 rw[this]
 exact k w.heap.size I F _ _ (h1.upd d rfl) ⟨ht,(w.heap.size,.map #[] 0)::L,⟨[_],L,rfl,⟨#[],0,rfl,rfl⟩,hL⟩,hS.alloc _⟩
theorem Gv.lookupA {k:Int} {m:Nat} {es:List (Int × AV)} {zx:AV} {zv:Value} {r:Option AV} (hg:ag k es=r) (ht:P.underlying t=some (.map kt u)) (hk:P.underlying kt=some (.int .i64)) (hz:∀w,(zeroValue u).run P w=.ok zv w) (hzr:∀I,bg I zx zv) (hx:aP env x=cT b) (hy:aP env y=.int .i64 k)
  (hO:m3 O m (hZ b es)):Gv P env O (Oper.mk (some d) (.lookup t x y true) ty pos af none) (.tup [r.getD zx,.bool r.isSome]):=fun I L E ρ h1 hL=>by
 subst hg
 obtain ⟨O',hO⟩:=hO
 obtain ⟨A,B,hp,⟨arr,clock,rfl,hM⟩,_⟩:=hO.rep hL
 have hin0:(b,Obj.map arr clock)∈L:=hp.mem_iff.2 (by simp)
 have hx:=eQ h1 hx
 have hy:=fo h1 hy
 have hb:∀w J L',I.k.le J→SL J L' E w→(∀y∈L,y∈L')→w.heap[b]?=some (Obj.map arr clock):=fun w J L' hl hS hin=>by
  have:=hS.own _ (hin _ hin0);simpa using this
 have hc:∀w,(Instr.checkKey arr.isEmpty 10000 kt (kv k)).run P w=.ok () w:=fun w=>MapKept.run_checkKey (k:=kv k) hk (nq k) _ 9999
 rcases iV.get (k:=k) 0 hM with ⟨g1,g2,_⟩|⟨j,e0,v,x1,g1,_,_,g4,g5,_⟩
 ·rw[g2]
  refine ⟨.tuple #[zv,.bool false],⟨[_,_],Z,_,_,Z,hzr I,_,_,Z,Z,Z⟩,fun w J L' hl hS hin=>?_⟩
  have hb:=hb w J L' hl hS hin
  have hc:=hc w
  simp only[kv] at hc g1
  simp[execOp,Instr.lookup,run_underlying ht,hx,hy,MapKept.run_getObj_map hb,hc,MapKept.run_findKey hk g1,hz,Result.andThen]
 ·rw[g4]
  refine ⟨.tuple #[v,.bool true],⟨[_,_],Z,_,_,Z,g5,_,_,Z,Z,Z⟩,fun w J L' hl hS hin=>?_⟩
  have hb:=hb w J L' hl hS hin
  have hc:=hc w
  simp only[kv] at hc g1
  simp[execOp,Instr.lookup,run_underlying ht,hx,hy,MapKept.run_getObj_map hb,hc,MapKept.run_findKey hk g1,Result.andThen]
theorem ax.mapSetA {k:Int} {m:Nat} {v:AV} {es:List (Int × AV)} (ht:P.underlying t=some (.map kt u)) (hk:P.underlying kt=some (.int .i64)) (hx:aP env x=cT b) (hy:aP env y=.int .i64 k) (hz:aP env z=v) (hO:fm O m (hZ b es) (hZ b (am k v es)) O')
  (kk:ax P E ops K rest env O'):ax P E ops K (Oper.mk none (.mapUpdate t x y z) ty pos af none::rest) env O:=fun I F ρ w h1 ⟨htop,L,hL,hS⟩=>by
 have hx:=eQ h1 hx
 have hy:=fo h1 hy
 have hz2:=h1.ev z
 rw[hz] at hz2
 obtain ⟨uu,hu⟩:∃uu,Go.Proofs.YtdilpodccjlkgaaGreatDoor.ev ρ z=uu:=⟨_,rfl⟩
 rw[hu] at hz2
 obtain ⟨A,B,hp,⟨arr,clock,rfl,he⟩,hback⟩:=hO.rep hL
 have hS2:SL I.k ((b,.map arr clock)::(B++F)) E w:=hS.perm ((hp.append_right F).symm)
 have hb:=hS2.own _ (.head _)
 simp only at hb
 have hc:(Instr.checkKey false 10000 kt (kv k)).run P w=.ok () w:=MapKept.run_checkKey (k:=kv k) hk (nq k) false 9999
 have fin:∀(arr':Array MapEntry) (clock':Nat),iV I (am k v es) (fM arr') →
   (execOp (Go.Proofs.YtdilpodccjlkgaaGreatDoor.ev ρ) (Oper.mk none (.mapUpdate t x y z) ty pos af none)).run P w=.ok .skip { w with heap:=w.heap.setIfInBounds b (.map arr' clock') }→bJ P ops (gS I F E K) (Oper.mk none (.mapUpdate t x y z) ty pos af none::rest) ρ w:=fun arr' clock' he' hrun=>by
  refine qd Z ?_
  unfold ig
  rw[hrun]
  obtain ⟨L',h7,h8⟩:=hback (qb I) (A':=[(b,.map arr' clock')]) ⟨arr',clock',rfl,he'⟩
  have hh:=MapKept.heap_set (o':=.map arr' clock') hb
  have hS3:SL I.k ((b,.map arr' clock')::(B++F)) E { w with heap:=w.heap.setIfInBounds b (.map arr' clock') }:=hS2.turn rfl rfl rfl hh.1 hh.2
  exact kk I F ρ _ h1 ⟨htop,L',h7,hS3.perm (h8.append_right F)⟩
 rcases iV.get (k:=k) 0 he with ⟨g1,_,g3⟩|⟨j,e0,v1,x1,g1,g2,g3,_,_,g6⟩
 ·refine fin (arr.push { key:=kv k,val:=uu,born:=clock }) (clock+1) ?_ ?_
  ·have:=g3 v uu hz2
   unfold fM;simpa using this
  ·simp only[kv] at hc g1
   simp[execOp,hx,hy,hu,Instr.mapUpdate,run_underlying ht,MapKept.run_getObj_map hb,hc,MapKept.run_findKey hk g1,MapKept.run_setObj_map _ hb,Result.andThen,kv]
 ·rw[Nat.zero_add] at g1
  have hj':arr[j]?=some e0:=by rw[←Array.getElem?_toList];exact g2
  refine fin (arr.modify j fun e=>{ e with key:=kv k,val:=uu }) clock ?_ ?_
  ·have hjl:j<arr.toList.length:=(List.getElem?_eq_some_iff.1 g2).1
   have:(arr.modify j fun e=>{ e with key:=kv k,val:=uu }).toList=arr.toList.set j { e0 with key:=kv k,val:=uu }:=by
    apply List.ext_getElem?
    intro q
    rw[Array.getElem?_toList,Array.getElem?_modify]
    by_cases hq:j=q
    ·subst hq
     rw[if_pos rfl,hj',List.getElem?_set_self hjl];rfl
    ·rw[if_neg hq,List.getElem?_set_ne hq,Array.getElem?_toList]
   unfold fM
   rw[this,List.map_set];exact g6 v uu hz2
  ·have hkeep:(Instr.keyThatStays (kv k) (kv k)).run P w=.ok (kv k) w:=MapKept.run_keyThatStays (nq k)
   simp only[kv] at hc g1 g3 hkeep
   simp[execOp,hx,hy,hu,Instr.mapUpdate,run_underlying ht,MapKept.run_getObj_map hb,hc,MapKept.run_findKey hk g1,MapKept.run_setObj_map _ hb,Result.andThen,hj',g3,hkeep,kv]
end
end Go.Proofs.YtdilpodccjlkgaaGreatDoor
namespace Go.Proofs.YtdilpodccjlkgaaGreatDoor
open Go.Proofs.Tryz
open Go.Proofs
theorem aU.lendTo {P:Program} {E:World} {f:FuncId} {ars ars':List AV} {O1 O2:OL} {Q:AV→OL→Prop}
  (has:∀(I J:G) (L:List (Nat × Obj)),I.le J→br I O1 L→(∀y∈L,J.k y.1=some y.2)→∀vs,RepL I ars vs→RepL J ars' vs)
  (hx:∀(I J:G) y O v,Q y O→bg J y v→bg I y v) (hO:∀(I J:G) y O B,Q y O→br J O B→br I O B)
  (h:aU P E f ars' O2 Q):aU P E f ars (O1++O2) fun y O'=>∃O'',Q y O''∧O'=O1++O'':=fun I F w vs h1 h2=>by
 obtain ⟨ht,L,hL,hS⟩:=id h2
 obtain ⟨A,B,rfl,hA,hB⟩:=br.append.1 hL
 rw[qk] at hS
 obtain ⟨K,h3,h4,hf⟩:=SL.freezeAllN hS
 let J:G:=⟨K,I.h⟩
 have hle:I.le J:=⟨h3,fun _ _ h=>h⟩
 refine (h J F w vs (has I J A hle hA hf vs h1) ⟨ht,B,hB.mono hle,h4⟩).mono fun v w' ⟨J2,y,O',a,b,c,d⟩=>?_
 obtain ⟨_,B',hB',hS'⟩:=c
 have hI2:∀b o,I.k b=some o→J2.k b=some o:=fun b o hb=>a.k b o (hle.k b o hb)
 have hA2:∀z∈A,J2.k z.1=some z.2:=fun z hz=>a.k _ _ (hf z hz)
 refine ⟨I,y,_,.refl _,hx I J2 y O' v d b,⟨ht,A++B',br.append.2 ⟨A,B',Z,hA,hO I J2 y O' B' d hB'⟩,?_⟩,O',d,Z⟩
 rw[qk]
 refine ⟨hS'.os,hS'.output,hS'.tape,fun b o hb=>hS'.pers b o (hI2 b o hb),fun z hz=>?_,?_,fun z hz=>?_,hS.base,hS.flat,fun z hz=>?_⟩
 ·rcases List.mem_append.1 hz with hz|hz
  ·exact hS'.pers _ _ (hA2 z hz)
  ·exact hS'.own z hz
 ·have hn:=hS.nodup
  rw[qt,List.nodup_append] at hn ⊢
  refine ⟨hn.1,hS'.nodup,fun p hp q hq e=>?_⟩
  obtain ⟨z,hz,rfl⟩:=List.mem_map.1 hp
  obtain ⟨u,hu,rfl⟩:=List.mem_map.1 hq
  have h5:=hS'.apart u hu
  rw[←e,hA2 z hz] at h5
  cases h5
 ·rcases List.mem_append.1 hz with hz|hz
  ·exact hS.apart z (List.mem_append_left _ hz)
  ·have h5:=hS'.apart z hz
   cases h6:I.k z.1 with
   |none=>rfl
   |some o=>rw[hI2 _ _ h6] at h5;cases h5
 ·rcases List.mem_append.1 hz with hz|hz
  ·exact hS.oflat z (List.mem_append_left _ hz)
  ·exact hS'.oflat z hz
theorem bf.up {env e:aM} {d:Nat} {v:AV}:∀{f:List Nat},f.all (fun t=>!Nat.beq t d)=true→bf env e f→bf env (bi e d v) f
 |[],_,_=>trivial
 |t::f,h,⟨h1,h2⟩=>by
  rw[List.all_cons,qx] at h
  refine ⟨?_,bf.up h.2 h2⟩
  unfold bi
  have h3:Nat.beq t d=false:=by simpa using h.1
  rw[h3];exact h1
theorem iV.ints {I J:G}:∀{es:List (Int × Int)} {hs:List (Value × Value)},iV J (es.map fun p=>(p.1,.int .i64 p.2)) hs→iV I (es.map fun p=>(p.1,.int .i64 p.2)) hs
 |[],_,e=>e
 |_::_,_,⟨v,hs',e,h1,h2⟩=>⟨v,hs',e,h1,iV.ints h2⟩
theorem Ab {I J:G} {b:Nat} {es:List (Int × Int)} {B:List (Nat × Obj)} (h:br J [(0,hZ b (es.map fun p=>(p.1,.int .i64 p.2)))] B):br I [(0,hZ b (es.map fun p=>(p.1,.int .i64 p.2)))] B:=by
 obtain ⟨A,C,e,⟨arr,clock,h1,h2⟩,h3⟩:=h
 exact ⟨A,C,e,⟨arr,clock,h1,h2.ints⟩,h3⟩
end Go.Proofs.YtdilpodccjlkgaaGreatDoor
namespace Go.Proofs.YtdilpodccjlkgaaGreatDoor
open Go.Proofs.Tryz
open Go.Proofs Go.Lib Go.Shelf Go.RowKit
variable {E:World}
set_option maxRecDepth 20000
def kF (f:ad) (t pr:AV) (js jp np:Nat) (a9 a10:AV):List AV:=[.fro 2 (f.vars.map e9),.fro 1 (f.params.map cE),.fro 7 (f.blocks.map bN),t,.fro 2 ((bP f).map eP.row),pr,.po js 0,.int .i64 (dX f),.own jp np,a9,a10]
def gR (f:ad) (t pr a9 a10:AV) (iw js jl jm jp:Nat) (K:KS) (M:List Int):OL:=[(iw,.cells 75 (kF f t pr js jp K.p.length a9 a10)),(js,.cells 136 [.int .i64 ((f.vars.length+1:Nat):Int),.own jl K.l.length,.own jm M.length]),(jl,.grow 3 180 (K.l.map bM).flatten),(jm,.grow 1 3 (cI M)),(jp,.grow 2 187 (K.p.map bO).flatten)]
theorem xh (l:List (Int × List Int)):∀x∈l.map bO,x.length=2:=fun x hx=>by obtain ⟨o,_,rfl⟩:=List.mem_map.1 hx;rfl
theorem uK (K:KS) (a b c:Int):(dQ K a b c).l=k4 K.l a b c:=by unfold dQ k4;split<;>rfl
theorem bZ (K:KS) (a b c:Int):(dQ K a b c).p=K.p:=by unfold dQ;split<;>rfl
theorem l8 (K:KS) (a b:Int) (o:Option Int):(addO K a b o).p=K.p:=by cases o with|none=>rfl|some c=>exact bZ K a b c
theorem l9 {K:KS} {a b:Int} {o:Option Int} (h:o.isSome=true):addO K a b o=dQ K a b (o.getD 0):=by cases o with|none=>cases h|some c=>rfl
theorem ma {K:KS} {a b:Int} {o:Option Int} (h:o.isSome=false):addO K a b o=K:=by cases o with|none=>rfl|some c=>cases h
theorem Dg {x:Int} (h:-6917529027641081856≤x∧x≤6917529027641081856):IntKind.i64.wrap (0 - -x)=x:=by
 rw[tT];omega
section
variable {f:ad} {K:KS} {t pr a9 a10:AV} {iw js jl jm jp:Nat} {M:List Int}
theorem Ac {args:List AV} (I J:G) (L:List (Nat × Obj)) (hle:I.le J) (hL:br I (gR f t pr a9 a10 iw js jl jm jp K M) L) (hf:∀y∈L,J.k y.1=some y.2):∀vs,RepL I (.po iw 0::args) vs→RepL J (uG f K t pr::args) vs:=by
 refine b9 ?_ (tU hle args)
 unfold uG tX
 refine nv hL hf .head ?_
 unfold kF vo
 refine b9 (eR hle _) <| b9 (eR hle _) <| b9 (eR hle _) <| b9 (eR hle _) <| b9 (eR hle _) <| b9 (eR hle _) <| b9 ?_ <| b9 (eR hle _) <| b9 ?_ <| b9 (nw _) <| b9 (nw _) rY
 ·refine nv hL hf .t1 ?_
  refine b9 (eR hle _) <| b9 ?_ <| b9 (nw _) rY
  exact pz hle hL hf .t2 (wo _) (by decide) (qp ..)
 ·exact pz hle hL hf .t4 (xh _) (by decide) (qp ..)
theorem kp {fn:FuncId} {x:AV} {args:List AV} (hx:∀(I J:G) v,bg J x v→bg I x v)
  (h:aI prog E fn (uG f K t pr::args) x):aU prog E fn (.po iw 0::args) (gR f t pr a9 a10 iw js jl jm jp K M) (fun y O=>y=x∧O=gR f t pr a9 a10 iw js jl jm jp K M):=
 aU.lendAll Ac hx h
theorem gd (jl:Nat) (K:KS) (hK:KB f K) {a b:Int} (ha:aO f a) (hb:aO f b) (c:Int) :
  aU prog E 66 [.po js 0,.int .i64 a,.int .i64 b,.int .i64 c] [(js,.cells 136 [.int .i64 ((f.vars.length+1:Nat):Int),.own jl K.l.length,.own jm M.length]),(jl,.grow 3 180 (K.l.map bM).flatten),(jm,.grow 1 3 (cI M))]
   (fun y O=>∃g:Nat × Bool,y=.bool g.2∧O=[(js,.cells 136 [.int .i64 ((f.vars.length+1:Nat):Int),.own g.1 (dQ K a b c).l.length,.own jm M.length]),(g.1,.grow 3 180 ((dQ K a b c).l.map bM).flatten),(jm,.grow 1 3 (cI M))]∧True):=by
 have:=l7 (E:=E) js jl jm (f.vars.length+1) K.l M (eM ha) (eM hb) c hK.len
 rw[uK]
 exact this
variable (hv:f.vars.length≤1000)
include hv
theorem Ej (hK:KB f K) {v:Int} (h:aO f v):aU prog E 117 [.po iw 0,.int .i64 v] (gR f t pr a9 a10 iw js jl jm jp K M) (fun y O=>y=.tup [.int .i64 ((eL f K v (dX f)).getD 0),.bool (eL f K v (dX f)).isSome]∧O=gR f t pr a9 a10 iw js jl jm jp K M):=
 kp (fun _ _ _ h=>rX h) (sb (gI hv hK) (eM h) (eM fv))
theorem Dh (hK:KB f K) {v:Int} (h:aO f v):aU prog E 152 [.po iw 0,.int .i64 v] (gR f t pr a9 a10 iw js jl jm jp K M) (fun y O=>y=.tup [.int .i64 (-(eL f K (dX f) v).getD 0),.bool (eL f K (dX f) v).isSome]∧O=gR f t pr a9 a10 iw js jl jm jp K M):=
 kp (fun _ _ _ h=>rX h) (kJ (gI hv hK) (eM h) (eM fv))
theorem CD (hK:KB f K) {v:Int} (h:aO f v):aU prog E 116 [.po iw 0,.int .i64 v] (gR f t pr a9 a10 iw js jl jm jp K M) (fun y O=>y=.bool (mU f K v)∧O=gR f t pr a9 a10 iw js jl jm jp K M):=
 kp (fun _ _ _ h=>gT h) (wr (gI hv hK) (eM h) (eM fv))
theorem Ek (hK:KB f K) (hP:ta K.p) (op:Int) (l:List Int):aU prog E 112 [.po iw 0,.int .i64 op,.fro 1 (l.map cE)] (gR f t pr a9 a10 iw js jl jm jp K M) (fun y O=>y=.bool (mT K op l)∧O=gR f t pr a9 a10 iw js jl jm jp K M):=
 kp (fun _ _ _ h=>gT h) (pY hv hK hP op l)
theorem Ad (hK:KB f K) (x:aB) (hx:1<x.args.length) (h0:aO f (bB x)) (h1:aO f (cK x)) (k:Nat) (hk:k≤2) (hop:x.op=2+(k:Int)):aU prog E 115 [.po iw 0,.agg (be x)] (gR f t pr a9 a10 iw js jl jm jp K M) (fun y O=>y=.bool (ri f K k (bB x) (cK x))∧O=gR f t pr a9 a10 iw js jl jm jp K M):=
 kp (fun _ _ _ h=>gT h) (lC hv hK x hx h0 h1 k hk (.inl hop))
omit hv in
theorem Di (hv:f.vars.length≤1000) (hK:KB f K) (a b:Int):IntKind.i64.wrap (0 - -(eL f K a b).getD 0)=(eL f K a b).getD 0:=Dg (m5 (gI hv hK))
set_option maxHeartbeats 4000000 in
theorem xi (hK:KB f K) (hP:ta K.p) (x:aB) (hF:cW f x) (hop:x.op=2∨x.op=3) :
  aU prog E 110 [.po iw 0,.agg (be x)] (gR f t pr a9 a10 iw js jl jm jp K M) (fun y O=>∃g:Nat,y=.tup []∧O=gR f t pr a9 a10 iw js g jm jp (mV f K x) M∧True):=by
 refine yz (γ:=Nat) (x:=fun g=>.tup []) (M:=fun g=>gR f t pr a9 a10 iw js g jm jp (mV f K x) M) (p:=fun _=>True) ?_
 have h1:1<x.args.length:=by rcases hop with e|e<;>(rw[hF.cnt e];decide)
 have hd:aO f x.dst:=by rcases hop with e|e<;>exact bY (hF.d e rfl)
 have n0:aO f (bB x):=bY (hF.a0 (by omega))
 have n1:aO f (cK x):=bY (hF.a1 h1)
 have nn:aO f (dX f):=fv
 obtain ⟨kk,hkk,hke⟩:∃k:Nat,k≤2∧x.op=2+(k:Int):=⟨(x.op - 2).toNat,by omega,by omega⟩
 have hke2:(x.op - 2).toNat=kk:=by omega
 have hwas:=Ek (E:=E) (t:=t) (pr:=pr) (a9:=a9) (a10:=a10) (iw:=iw) (js:=js) (jl:=jl) (jm:=jm) (jp:=jp) (M:=M) hv hK hP (21+x.op - 2) x.args
 have hwi:=Ad (E:=E) (t:=t) (pr:=pr) (a9:=a9) (a10:=a10) (iw:=iw) (js:=js) (jl:=jl) (jm:=jm) (jp:=jp) (M:=M) hv hK x h1 n0 n1 kk hkk hke
 have hup:=fun v (h:aO f v)=>Ej (E:=E) (t:=t) (pr:=pr) (a9:=a9) (a10:=a10) (iw:=iw) (js:=js) (jl:=jl) (jm:=jm) (jp:=jp) (M:=M) hv hK h
 have hdn:=fun v (h:aO f v)=>Dh (E:=E) (t:=t) (pr:=pr) (a9:=a9) (a10:=a10) (iw:=iw) (js:=js) (jl:=jl) (jm:=jm) (jp:=jp) (M:=M) hv hK h
 have rk:=fun a b=>Di hv hK a b
 have hsS:¬(mT K (x.op+19) x.args=false∧ri f K kk (bB x) (cK x)=false)→mV f K x=if x.op=3 then addO (addO K x.dst (bB x) (eL f K (dX f) (cK x))) (bB x) x.dst (eL f K (cK x) (dX f))
     else addO (addO (addO (addO K x.dst (bB x) (eL f K (cK x) (dX f))) (bB x) x.dst (eL f K (dX f) (cK x))) x.dst (cK x) (eL f K (bB x) (dX f))) (cK x) x.dst (eL f K (dX f) (bB x)):=fun h=>by
  unfold mV
  rw[hke2,if_neg h]
 have hsN:(mT K (x.op+19) x.args=false∧ri f K kk (bB x) (cK x)=false)→mV f K x=K:=fun h=>by
  unfold mV
  rw[hke2,if_pos h]
 have hup0:=hup _ n0
 have hup1:=hup _ n1
 have hdn0:=hdn _ n0
 have hdn1:=hdn _ n1
 have rk0:=rk (dX f) (bB x)
 have rk1:=rk (dX f) (cK x)
 generalize eL f K (dX f) (bB x)=o0 at *
 generalize eL f K (dX f) (cK x)=o1 at *
 generalize eL f K (bB x) (dX f)=q0 at *
 generalize eL f K (cK x) (dX f)=q1 at *
 generalize mV f K x=KZ at *
 clear hup hdn rk
 have add:=fun jl K hK a b (ha:aO f a) (hb:aO f b) c=>gd (E:=E) (js:=js) (jm:=jm) (M:=M) jl K hK ha hb c
 rw[show 21+x.op - 2=x.op+19 by omega] at hwas
 have hne:21+x.op - 2=x.op+19:=by omega
 unfold gR at *
 refine zo func110 Z (by decide) Z<|ah<|ya (cs:=_) Z Z Z<|z6 ?_
 rw[←hne] at hwas
 refine zd<|zd<|yg (γ:=Bool) [0,3] (fun u=>[(29,.bool u)]) (fun u=>[(iw,.cells 75 (kF f t pr js jp K.p.length a9 a10)),(js,.cells 136 [.int .i64 ((f.vars.length+1:Nat):Int),.own jl K.l.length,.own jm M.length]),(jl,.grow 3 180 (K.l.map bM).flatten),(jm,.grow 1 3 (cI M)),(jp,.grow 2 187 (K.p.map bO).flatten)]) (fun u=>u=(!mT K (x.op+19) x.args&&!ri f K kk (bB x) (cK x))) ?_ (fun _ _ h=>h) ?_
 ·refine aV<|aR Z<|aq wy Z jv Z Z<|ay jy Z<|aC Z Z<|za (Gv.sub Z Z (by unfold oV;omega))<|aq wy Z j5 Z Z<|aH j9 Z<|zr Z (zm (.l (.l (.l (.l (.l (.rest _))))))) (hwas) ?_
  rintro r22 O22 ⟨rfl,rfl⟩
  refine aD Z<|ai Z<|zp (s:=24) Z (fun c1=>?_) (fun c1=>?_)
  ·refine z8 Z Z c1<|aR Z<|z8 Z Z c1<|ac Zn jk Z Z<|z8 Z Z c1<|zr Z (zm (.l (.l (.l (.l (.l (.rest _))))))) (hwi) ?_
   rintro r27 O27 ⟨rfl,rfl⟩
   refine z8 Z Z c1<|aD Z<|ar Z c1 Z<|z6 ?_
   exact ⟨_,(by repeat (first|with_reducible exact y6 _ _|refine bf.up rfl ?_)),aJ,aE,by simp_all⟩
  ·refine z7 Z Z c1<|z7 Z Z c1<|z7 Z Z c1<|z7 Z Z c1<|au Z c1 Z<|z6 ?_
   exact ⟨_,(by repeat (first|with_reducible exact y6 _ _|refine bf.up rfl ?_)),aJ,aE,by simp_all⟩
 ·rintro u hu
  refine zu Z (fun cu=>?_) (fun cu=>?_)
  ·have hS:KZ=K:=hsN (by rw[hu] at cu;simpa using cu)
   refine zh<|yp ?_
   exact ⟨jl,rfl,⟨_,.refl _,by rw[hS]⟩,trivial⟩
  ·have hS:=hsS (by rw[hu] at cu;simpa using cu)
   refine zg<|zd<|zt (fun j=>false) (by kernel_rfl) Z (zm (.rest _))<|aj 0 Z (bK wy Z wz Z Z)<|aj 1 Z (da j6 Z)<|aj 2 Z (bK wy Z j5 Z Z)<|aj 3 Z (eH j9 Z)<|aj 4 Z (bx 0 wx wz Z Z Z (b7 (by omega)))<|aj 5 Z (da j6 Z)<|aj 6 Z (bK wy Z j5 Z Z)<|aj 7 Z (eH j9 Z)<|aj 8 Z (bx 1 wx wz Z Z Z (cO h1))<|aj 9 Z (da j6 Z)<|aj 10 Z (oZ Z)<|aj 11 Z (oZ Z)<|aj 12 Z (oZ Z)<|bV<|ah<|aR Z<|aa Z<|zr Z (zm (.l (.l (.l (.l (.l (.rest _))))))) (hup1) ?_
   rintro r43 O43 ⟨rfl,rfl⟩
   refine za (iW Z)<|za (iJ Z Z)<|za (ij Z Z)<|ao Z<|ab Z<|z6<|ah<|aR Z<|aa Z<|zr Z (zm (.l (.l (.l (.l (.l (.rest _))))))) (hdn1) ?_
   rintro r49 O49 ⟨rfl,rfl⟩
   refine za (iW Z)<|za (iJ Z Z)<|za (ij Z Z)<|ao Z<|ab Z<|z6<|zd<|ah<|aq wy Z jv Z Z<|ay jy Z<|ak Z Z<|z6<|zw Z (fun c3=>?_) (fun c3=>?_)
   ·rw[if_pos (show x.op=3 from c3)] at hS
    rw[hS]
    refine zd<|ah<|ai Z<|z6<|yg (γ:=Nat) [0,4,5,7,8] (fun g=>[]) (fun g=>[(iw,.cells 75 (kF f t pr js jp K.p.length a9 a10)),(js,.cells 136 [.int .i64 ((f.vars.length+1:Nat):Int),.own g (addO K x.dst (bB x) o1).l.length,.own jm M.length]),(g,.grow 3 180 ((addO K x.dst (bB x) o1).l.map bM).flatten),(jm,.grow 1 3 (cI M)),(jp,.grow 2 187 (K.p.map bO).flatten)]) (fun g=>True) ?_ (fun _ _ h=>h) ?_
    ·refine zu Z (fun c=>?_) (fun c=>?_)
     ·refine aV<|aR Z<|az Z<|za (zn j7 Z Z2 (by decide) Z Z)<|za (zq (c:=.po _ _) Z9 Z ⟨_,.head⟩ Z)<|aa Z<|aa Z<|aa Z<|za (Gv.neg Z)<|zr Z (zm (.r (.l (.l (.l (.r (.rest _))))))) (add jl K hK _ _ hd n0 (IntKind.i64.wrap (0 - -o1.getD 0))) ?_
      rintro r64 O64 ⟨⟨j1,u1⟩,rfl,rfl,_⟩
      refine ze (zb (zc .t4))<|ze (zb (zc .t3))<|ze (zb (zc .t3))<|ze (zb (zc .t3))<|ze (zb (zc .t4))<|z6 ?_
      exact ⟨j1,(by repeat (first|with_reducible exact y6 _ _|refine bf.up rfl ?_)),trivial,⟨_,(.refl _),by rw[l9 c,rk1]⟩,trivial⟩
     ·refine zg ?_
      exact ⟨jl,(by repeat (first|with_reducible exact y6 _ _|refine bf.up rfl ?_)),trivial,⟨_,(.refl _),by simp only[ma c,qu]⟩,trivial⟩
    ·rintro jq _
     have hK1:KB f (addO K x.dst (bB x) o1):=hK.addO hd n0
     refine zd<|ah<|ai Z<|z6<|zu Z (fun c=>?_) (fun c=>?_)
     ·refine aV<|aR Z<|az Z<|za (zn j7 Z Z2 (by decide) Z Z)<|za (zq (c:=.po _ _) Z9 Z ⟨_,.head⟩ Z)<|aa Z<|aa Z<|aa Z<|zr Z (zm (.r (.l (.l (.l (.r (.rest _))))))) (add jq _ hK1 _ _ n0 hd (q1.getD 0)) ?_
      rintro r73 O73 ⟨⟨j1,u1⟩,rfl,rfl,_⟩
      refine z6<|zy (zb (zc .t4))<|zy (zb (zc .t3))<|zy (zb (zc .t3))<|zy (zb (zc .t3))<|zy (zb (zc .t4))<|zh<|yp ?_
      exact ⟨j1,rfl,⟨_,.refl _,by rw[l9 c,bZ,l8]⟩,trivial⟩
     ·refine zg<|zh<|yp ?_
      exact ⟨jq,rfl,⟨_,.refl _,by rw[ma c,l8]⟩,trivial⟩
   ·rw[if_neg (show ¬x.op=3 from c3)] at hS
    rw[hS]
    refine zg<|ah<|aR Z<|aa Z<|zr Z (zm (.l (.l (.l (.l (.l (.rest _))))))) (hup0) ?_
    rintro r77 O77 ⟨rfl,rfl⟩
    refine za (iW Z)<|za (iJ Z Z)<|za (ij Z Z)<|ao Z<|ab Z<|z6<|zd<|yg (γ:=Unit) [0,4,5,6,7,8,9,10,11,12] (fun u2=>[(13,.int .i64 (-o0.getD 0)),(14,.bool o0.isSome)]) (fun u2=>[(iw,.cells 75 (kF f t pr js jp K.p.length a9 a10)),(js,.cells 136 [.int .i64 ((f.vars.length+1:Nat):Int),.own jl K.l.length,.own jm M.length]),(jl,.grow 3 180 (K.l.map bM).flatten),(jm,.grow 1 3 (cI M)),(jp,.grow 2 187 (K.p.map bO).flatten)]) (fun u2=>True) ?_ (fun _ _ h=>h) ?_
    ·refine aV<|aR Z<|aa Z<|zr Z (zm (.l (.l (.l (.l (.l (.rest _))))))) (hdn0) ?_
     rintro r83 O83 ⟨rfl,rfl⟩
     refine za (iW Z)<|za (iJ Z Z)<|za (ij Z Z)<|ao Z<|ab Z<|z6 ?_
     exact ⟨(),(by repeat (first|with_reducible exact y6 _ _|refine bf.up rfl ?_)),eZ,⟨_,(.refl _),by simp only[qu]⟩,trivial⟩
    ·rintro u2 _
     refine zd<|ah<|ai Z<|z6<|yg (γ:=Nat) [0,4,5,6,9,10,11,12,13,14] (fun g=>[]) (fun g=>[(iw,.cells 75 (kF f t pr js jp K.p.length a9 a10)),(js,.cells 136 [.int .i64 ((f.vars.length+1:Nat):Int),.own g (addO K x.dst (bB x) q1).l.length,.own jm M.length]),(g,.grow 3 180 ((addO K x.dst (bB x) q1).l.map bM).flatten),(jm,.grow 1 3 (cI M)),(jp,.grow 2 187 (K.p.map bO).flatten)]) (fun g=>True) ?_ (fun _ _ h=>h) ?_
     ·refine zu Z (fun c=>?_) (fun c=>?_)
      ·refine aV<|aR Z<|az Z<|za (zn j7 Z Z2 (by decide) Z Z)<|za (zq (c:=.po _ _) Z9 Z ⟨_,.head⟩ Z)<|aa Z<|aa Z<|aa Z<|zr Z (zm (.r (.l (.l (.l (.r (.rest _))))))) (add jl K hK _ _ hd n0 (q1.getD 0)) ?_
       rintro r94 O94 ⟨⟨j1,u1⟩,rfl,rfl,_⟩
       refine ze (zb (zc .t4))<|ze (zb (zc .t3))<|ze (zb (zc .t3))<|ze (zb (zc .t3))<|ze (zb (zc .t4))<|z6 ?_
       exact ⟨j1,(by repeat (first|with_reducible exact y6 _ _|refine bf.up rfl ?_)),trivial,⟨_,(.refl _),by rw[l9 c]⟩,trivial⟩
      ·refine zg ?_
       exact ⟨jl,(by repeat (first|with_reducible exact y6 _ _|refine bf.up rfl ?_)),trivial,⟨_,(.refl _),by simp only[ma c,qu]⟩,trivial⟩
     ·rintro jq _
      have hK1:KB f (addO K x.dst (bB x) q1):=hK.addO hd n0
      obtain ⟨K1,hk1⟩:∃K1,addO K x.dst (bB x) q1=K1:=⟨_,rfl⟩
      have hp1:K1.p=K.p:=by rw[←hk1,l8]
      rw[hk1] at hK1
      rw[hk1]
      refine zd<|ah<|ai Z<|z6<|yg (γ:=Nat) [0,4,6,11,12,13,14] (fun g=>[]) (fun g=>[(iw,.cells 75 (kF f t pr js jp K.p.length a9 a10)),(js,.cells 136 [.int .i64 ((f.vars.length+1:Nat):Int),.own g (addO K1 (bB x) x.dst o1).l.length,.own jm M.length]),(g,.grow 3 180 ((addO K1 (bB x) x.dst o1).l.map bM).flatten),(jm,.grow 1 3 (cI M)),(jp,.grow 2 187 (K.p.map bO).flatten)]) (fun g=>True) ?_ (fun _ _ h=>h) ?_
      ·refine zu Z (fun c=>?_) (fun c=>?_)
       ·refine aV<|aR Z<|az Z<|za (zn j7 Z Z2 (by decide) Z Z)<|za (zq (c:=.po _ _) Z9 Z ⟨_,.head⟩ Z)<|aa Z<|aa Z<|aa Z<|za (Gv.neg Z)<|zr Z (zm (.r (.l (.l (.l (.r (.rest _))))))) (add jq K1 hK1 _ _ n0 hd (IntKind.i64.wrap (0 - -o1.getD 0))) ?_
        rintro r104 O104 ⟨⟨j1,u1⟩,rfl,rfl,_⟩
        refine ze (zb (zc .t4))<|ze (zb (zc .t3))<|ze (zb (zc .t3))<|ze (zb (zc .t3))<|ze (zb (zc .t4))<|z6 ?_
        exact ⟨j1,(by repeat (first|with_reducible exact y6 _ _|refine bf.up rfl ?_)),trivial,⟨_,(.refl _),by rw[l9 c,rk1]⟩,trivial⟩
       ·refine zg ?_
        exact ⟨jq,(by repeat (first|with_reducible exact y6 _ _|refine bf.up rfl ?_)),trivial,⟨_,(.refl _),by simp only[ma c,qu]⟩,trivial⟩
      ·rintro jr _
       have hK2:=hK1.addO n0 hd (o:=o1)
       obtain ⟨K2,hk2⟩:∃K2,addO K1 (bB x) x.dst o1=K2:=⟨_,rfl⟩
       have hp2:K2.p=K.p:=by rw[←hk2,l8,hp1]
       rw[hk2] at hK2
       rw[hk2]
       refine zd<|ah<|ai Z<|z6<|yg (γ:=Nat) [0,4,6,13,14] (fun g=>[]) (fun g=>[(iw,.cells 75 (kF f t pr js jp K.p.length a9 a10)),(js,.cells 136 [.int .i64 ((f.vars.length+1:Nat):Int),.own g (addO K2 x.dst (cK x) q0).l.length,.own jm M.length]),(g,.grow 3 180 ((addO K2 x.dst (cK x) q0).l.map bM).flatten),(jm,.grow 1 3 (cI M)),(jp,.grow 2 187 (K.p.map bO).flatten)]) (fun g=>True) ?_ (fun _ _ h=>h) ?_
       ·refine zu Z (fun c=>?_) (fun c=>?_)
        ·refine aV<|aR Z<|az Z<|za (zn j7 Z Z2 (by decide) Z Z)<|za (zq (c:=.po _ _) Z9 Z ⟨_,.head⟩ Z)<|aa Z<|aa Z<|aa Z<|zr Z (zm (.r (.l (.l (.l (.r (.rest _))))))) (add jr K2 hK2 _ _ hd n1 (q0.getD 0)) ?_
         rintro r113 O113 ⟨⟨j1,u1⟩,rfl,rfl,_⟩
         refine ze (zb (zc .t4))<|ze (zb (zc .t3))<|ze (zb (zc .t3))<|ze (zb (zc .t3))<|ze (zb (zc .t4))<|z6 ?_
         exact ⟨j1,(by repeat (first|with_reducible exact y6 _ _|refine bf.up rfl ?_)),trivial,⟨_,(.refl _),by rw[l9 c]⟩,trivial⟩
        ·refine zg ?_
         exact ⟨jr,(by repeat (first|with_reducible exact y6 _ _|refine bf.up rfl ?_)),trivial,⟨_,(.refl _),by simp only[ma c,qu]⟩,trivial⟩
       ·rintro js2 _
        have hK3:=hK2.addO hd n1 (o:=q0)
        obtain ⟨K3,hk3⟩:∃K3,addO K2 x.dst (cK x) q0=K3:=⟨_,rfl⟩
        have hp3:K3.p=K.p:=by rw[←hk3,l8,hp2]
        rw[hk3] at hK3
        rw[hk3]
        refine ah<|ai Z<|z6<|zu Z (fun c=>?_) (fun c=>?_)
        ·refine aV<|aR Z<|az Z<|za (zn j7 Z Z2 (by decide) Z Z)<|za (zq (c:=.po _ _) Z9 Z ⟨_,.head⟩ Z)<|aa Z<|aa Z<|aa Z<|za (Gv.neg Z)<|zr Z (zm (.r (.l (.l (.l (.r (.rest _))))))) (add js2 K3 hK3 _ _ n1 hd (IntKind.i64.wrap (0 - -o0.getD 0))) ?_
         rintro r123 O123 ⟨⟨j1,u1⟩,rfl,rfl,_⟩
         refine z6<|yc (zb (zc .t4))<|yc (zb (zc .t3))<|yc (zb (zc .t3))<|yc (zb (zc .t3))<|yc (zb (zc .t4))<|yp ?_
         exact ⟨j1,rfl,⟨_,.refl _,by rw[l9 c,bZ,rk0,hp3]⟩,trivial⟩
        ·refine zg<|yp ?_
         exact ⟨js2,rfl,⟨_,.refl _,by rw[ma c,hp3]⟩,trivial⟩
end
end Go.Proofs.YtdilpodccjlkgaaGreatDoor
namespace Go.Proofs.YtdilpodccjlkgaaGreatDoor
open Go.Proofs.Tryz
open Go.Proofs Go.Lib Go.Shelf Go.RowKit
variable {E:World}
set_option maxRecDepth 20000
section
variable {f:ad} {K:KS} {t pr a9 a10:AV} {iw js jl jm jp:Nat} {M:List Int}
theorem rm (K:KS) (x:aB):(eC f K x).p=K.p:=by
 unfold eC;split
 ·rw[bZ,bZ]
 ·rfl
theorem BT (K:KS) (x:aB):(jP f K x).p=K.p:=by
 unfold jP;split
 ·rw[bZ,rm]
 ·exact rm K x
theorem Dj (K:KS) (x:aB):(mV f K x).p=K.p:=by
 unfold mV;repeat' split
 all_goals simp only[l8]
theorem kq (K:KS) (a b:Int):(hU K a b).p=K.p:=by unfold hU;rw[bZ,bZ]
theorem vM (K:KS) (x:aB):(mA f K x).p=K.p:=by
 unfold mA;repeat' split
 ·rw[bZ,bZ]
 ·exact kq ..
 ·exact kq ..
 ·exact Dj ..
 ·exact BT ..
 ·rfl
theorem BU (hK:KB f K) {x:aB} (hd:aO f x.dst) (h0:aO f (bB x)):KB f (eC f K x):=by
 unfold eC
 split
 ·exact (hK.add fv hd).add hd h0
 ·exact hK
theorem k5 (jl jp np:Nat) (K:KS) (hK:KB f K) {a b:Int} (ha:aO f a) (hb:aO f b) :
  aU prog E 67 [.po iw 0,.int .i64 a,.int .i64 b] [(iw,.cells 75 (kF f t pr js jp np a9 a10)),(js,.cells 136 [.int .i64 ((f.vars.length+1:Nat):Int),.own jl K.l.length,.own jm M.length]),(jl,.grow 3 180 (K.l.map bM).flatten),(jm,.grow 1 3 (cI M))]
   (fun y O=>∃g:Nat,y=.tup []∧O=[(iw,.cells 75 (kF f t pr js jp np a9 a10)),(js,.cells 136 [.int .i64 ((f.vars.length+1:Nat):Int),.own g (hU K a b).l.length,.own jm M.length]),(g,.grow 3 180 ((hU K a b).l.map bM).flatten),(jm,.grow 1 3 (cI M))]∧True):=by
 have:=uJ (E:=E) (.fro 2 (f.vars.map e9)) (.fro 1 (f.params.map cE)) (.fro 7 (f.blocks.map bN)) t (.fro 2 ((bP f).map eP.row)) pr (.own jp np) a9 a10 iw js jl jm (f.vars.length+1) (dX f) K.l M hK.len (eM ha) (eM hb)
 unfold hU
 rw[uK,uK]
 exact this
variable (hv:f.vars.length≤1000)
include hv
set_option maxHeartbeats 4000000 in
theorem uL (hK:KB f K) (x:aB) (hF:cW f x) (hop:x.op=5∨x.op=6) :
  aU prog E 111 [.po iw 0,.agg (be x)] (gR f t pr a9 a10 iw js jl jm jp K M) (fun y O=>∃g:Nat,y=.tup []∧O=gR f t pr a9 a10 iw js g jm jp (jP f K x) M∧True):=by
 refine yz (γ:=Nat) (x:=fun g=>.tup []) (M:=fun g=>gR f t pr a9 a10 iw js g jm jp (jP f K x) M) (p:=fun _=>True) ?_
 have h1:1<x.args.length:=by rcases hop with e|e<;>(rw[hF.cnt e];decide)
 have hd:aO f x.dst:=by rcases hop with e|e<;>exact bY (hF.d e rfl)
 have n0:aO f (bB x):=bY (hF.a0 (by omega))
 have n1:aO f (cK x):=bY (hF.a1 h1)
 have nn:aO f (dX f):=fv
 have hpos:=fun v (h:aO f v)=>CD (E:=E) (t:=t) (pr:=pr) (a9:=a9) (a10:=a10) (iw:=iw) (js:=js) (jl:=jl) (jm:=jm) (jp:=jp) (M:=M) hv hK h
 have add:=fun jl K hK a b (ha:aO f a) (hb:aO f b) c=>gd (E:=E) (js:=js) (jm:=jm) (M:=M) jl K hK ha hb c
 unfold gR at *
 refine zo func111 Z (by decide) Z<|ah<|ya (cs:=_) Z Z Z<|z6<|zd<|zt (fun j=>false) (by kernel_rfl) Z (zm (.rest _))<|aj 0 Z (bK wy Z wz Z Z)<|aj 1 Z (da j6 Z)<|aj 2 Z (bK wy Z j5 Z Z)<|aj 3 Z (eH j9 Z)<|aj 4 Z (bx 0 wx wz Z Z Z (b7 (by omega)))<|aj 5 Z (da j6 Z)<|aj 6 Z (bK wy Z j5 Z Z)<|aj 7 Z (eH j9 Z)<|aj 8 Z (bx 1 wx wz Z Z Z (cO h1))<|aj 9 Z (da j6 Z)<|aj 10 Z (oZ Z)<|aj 11 Z (oZ Z)<|aj 12 Z (oZ Z)<|bV<|ah<|aR Z<|aa Z<|zr Z (zm (.l (.l (.l (.l (.l (.rest _))))))) (hpos _ n0) ?_
 rintro r21 O21 ⟨rfl,rfl⟩
 refine aR Z<|aa Z<|zr Z (zm (.l (.l (.l (.l (.l (.rest _))))))) (hpos _ n1) ?_
 rintro r24 O24 ⟨rfl,rfl⟩
 refine ab Z<|ab Z<|z6<|zd<|zd<|yg (γ:=Bool) [0,3,4,5,6,8] (fun u=>[(33,.bool u)]) (fun u=>[(iw,.cells 75 (kF f t pr js jp K.p.length a9 a10)),(js,.cells 136 [.int .i64 ((f.vars.length+1:Nat):Int),.own jl K.l.length,.own jm M.length]),(jl,.grow 3 180 (K.l.map bM).flatten),(jm,.grow 1 3 (cI M)),(jp,.grow 2 187 (K.p.map bO).flatten)]) (fun u=>u=decide (mU f K (bB x)=true∧(mU f K (cK x)=true∨x.op=6))) ?_ (fun _ _ h=>h) ?_
 ·refine aV<|ai Z<|ai Z<|zp (s:=26) Z (fun c1=>?_) (fun c1=>?_)
  ·refine z8 Z Z c1<|ai Z<|z8 Z Z c1<|ai Z<|zp (s:=28) Z (fun c2=>?_) (fun c2=>?_)
   ·refine z7 Z Z c2<|z7 Z Z c2<|z7 Z Z c2<|z8 Z Z c1<|ar Z c2 Z<|ar Z c1 Z<|z6 ?_
    exact ⟨_,(by repeat (first|with_reducible exact y6 _ _|refine bf.up rfl ?_)),aJ,aE,by simp_all⟩
   ·refine z8 Z Z c2<|aq wy Z jv Z Z<|z8 Z Z c2<|ay jy Z<|z8 Z Z c2<|ak Z Z<|z8 Z Z c1<|au Z c2 Z<|ar Z c1 Z<|z6 ?_
    exact ⟨_,(by repeat (first|with_reducible exact y6 _ _|refine bf.up rfl ?_)),aJ,aE,by simp_all⟩
  ·refine z7 Z Z c1<|z7 Z Z c1<|zi Z Z<|zi Z Z<|zi Z Z<|z7 Z Z c1<|au Z c1 Z<|z6 ?_
   exact ⟨_,(by repeat (first|with_reducible exact y6 _ _|refine bf.up rfl ?_)),aJ,aE,by simp_all⟩
 ·rintro u hu
  refine yg (γ:=Nat) [0,3,4,6,8] (fun g=>[]) (fun g=>[(iw,.cells 75 (kF f t pr js jp K.p.length a9 a10)),(js,.cells 136 [.int .i64 ((f.vars.length+1:Nat):Int),.own g (eC f K x).l.length,.own jm M.length]),(g,.grow 3 180 ((eC f K x).l.map bM).flatten),(jm,.grow 1 3 (cI M)),(jp,.grow 2 187 (K.p.map bO).flatten)]) (fun g=>True) ?_ (fun _ _ h=>h) ?_
  ·refine zu Z (fun c=>?_) (fun c=>?_)
   ·have hA:eC f K x=dQ (dQ K (dX f) x.dst 0) x.dst (bB x) 0:=by unfold eC;rw[if_pos (qz (hu▸c))]
    refine zd<|zt (fun j=>false) (by kernel_rfl) Z (zm (.r (.rest _)))<|aj 0 Z (eF Z)<|aj 1 Z (yb Z)<|aj 2 Z (zn j7 Z Z2 (by decide) Z Z)<|aj 3 Z (zq (c:=.po _ _) Z9 Z ⟨_,.head⟩ Z)<|aj 4 Z (eF Z)<|aj 5 Z (yb Z)<|aj 6 Z (zn j7 Z wz (by decide) Z Z)<|aj 7 Z (zq (c:=.int _ _) j6 Z ⟨_,.head⟩ Z)<|aj 8 Z (dF Z)<|aY 9 Z<|zr Z (zm (.l (.l (.l (.r (.rest _)))))) (add jl K hK _ _ nn hd 0) ?_
    rintro r43 O43 ⟨⟨j1,u1⟩,rfl,rfl,_⟩
    refine z6<|bV<|zy (zb (zc .t4))<|zy (zb (zc .t4))<|zy (zb (zc .t4))<|zy (zb (zc .t4))<|zy (zb (zc .t4))<|aV<|aR Z<|az Z<|za (zn j7 Z Z2 (by decide) Z Z)<|za (zq (c:=.po _ _) Z9 Z ⟨_,.head⟩ Z)<|aa Z<|aa Z<|zr Z (zm (.r (.l (.l (.l (.r (.rest _))))))) (add j1 _ (hK.add nn hd) _ _ hd n0 0) ?_
    rintro r50 O50 ⟨⟨j2,u2⟩,rfl,rfl,_⟩
    refine ze (zb (zc .t4))<|ze (zb (zc .t3))<|ze (zb (zc .t3))<|ze (zb (zc .t3))<|ze (zb (zc .t4))<|z6 ?_
    exact ⟨j2,(by repeat (first|with_reducible exact y6 _ _|refine bf.up rfl ?_)),trivial,⟨_,(.refl _),by rw[hA]⟩,trivial⟩
   ·have hA:eC f K x=K:=by unfold eC;rw[if_neg (of_decide_eq_false (hu▸c))]
    refine zg ?_
    exact ⟨jl,(by repeat (first|with_reducible exact y6 _ _|refine bf.up rfl ?_)),trivial,⟨_,(.refl _),by simp only[hA,qu]⟩,trivial⟩
  ·rintro jq _
   have hK1:=BU hK hd n0
   have hp1:(eC f K x).p=K.p:=rm K x
   refine zd<|yg (γ:=Bool) [0,4,6] (fun w=>[(56,.bool w)]) (fun w=>[(iw,.cells 75 (kF f t pr js jp K.p.length a9 a10)),(js,.cells 136 [.int .i64 ((f.vars.length+1:Nat):Int),.own jq (eC f K x).l.length,.own jm M.length]),(jq,.grow 3 180 ((eC f K x).l.map bM).flatten),(jm,.grow 1 3 (cI M)),(jp,.grow 2 187 (K.p.map bO).flatten)]) (fun w=>w=decide (mU f K (cK x)=true∧x.op=6)) ?_ (fun _ _ h=>h) ?_
   ·refine aV<|ai Z<|ai Z<|zp (s:=52) Z (fun c3=>?_) (fun c3=>?_)
    ·refine z8 Z Z c3<|aq wy Z jv Z Z<|z8 Z Z c3<|ay jy Z<|z8 Z Z c3<|ak Z Z<|ar Z c3 Z<|z6 ?_
     exact ⟨_,(by repeat (first|with_reducible exact y6 _ _|refine bf.up rfl ?_)),aJ,aE,by simp_all⟩
    ·refine z7 Z Z c3<|z7 Z Z c3<|z7 Z Z c3<|au Z c3 Z<|z6 ?_
     exact ⟨_,(by repeat (first|with_reducible exact y6 _ _|refine bf.up rfl ?_)),aJ,aE,by simp_all⟩
   ·rintro w hw
    refine zu Z (fun c=>?_) (fun c=>?_)
    ·have hA:jP f K x=dQ (eC f K x) x.dst (cK x) (-1):=by unfold jP;rw[if_pos (qz (hw▸c))]
     refine aV<|aR Z<|az Z<|za (zn j7 Z Z2 (by decide) Z Z)<|za (zq (c:=.po _ _) Z9 Z ⟨_,.head⟩ Z)<|aa Z<|aa Z<|zr Z (zm (.r (.l (.l (.l (.r (.rest _))))))) (add jq _ hK1 _ _ hd n1 (-1)) ?_
     rintro r63 O63 ⟨⟨j1,u1⟩,rfl,rfl,_⟩
     refine z6<|yc (zb (zc .t4))<|yc (zb (zc .t3))<|yc (zb (zc .t3))<|yc (zb (zc .t3))<|yc (zb (zc .t4))<|yp ?_
     exact ⟨j1,rfl,⟨_,.refl _,by rw[hA,bZ,hp1]⟩,trivial⟩
    ·have hA:jP f K x=eC f K x:=by unfold jP;rw[if_neg (of_decide_eq_false (hw▸c))]
     refine zg<|yp ?_
     exact ⟨jq,rfl,⟨_,.refl _,by rw[hA,hp1]⟩,trivial⟩
set_option maxHeartbeats 4000000 in
theorem uM (hK:KB f K) (hP:ta K.p) (x:aB) (hF:cW f x) (hty:aT f x.dst=true∨¬x.op=1) :
  aU prog E 70 [.po iw 0,.agg (be x)] (gR f t pr a9 a10 iw js jl jm jp K M) (fun y O=>∃g:Nat,y=.tup []∧O=gR f t pr a9 a10 iw js g jm jp (mA f K x) M∧True):=by
 refine yz (γ:=Nat) (x:=fun g=>.tup []) (M:=fun g=>gR f t pr a9 a10 iw js g jm jp (mA f K x) M) (p:=fun _=>True) ?_
 have nn:aO f (dX f):=fv
 have a0:∀{k:Int},x.op=k→0<([0,1,2,2,2,2,2,2,2,2,1,2,1,2,3,1,0,1,2,1,1,2,2,2,1,2,2][k.toNat]?).getD 0→aO f (bB x)∧0<x.args.length:=fun e h=>⟨bY (hF.a0 (by rw[hF.cnt e];exact h)),by rw[hF.cnt e];exact h⟩
 have hsum:=fun h=>xi (E:=E) (t:=t) (pr:=pr) (a9:=a9) (a10:=a10) (iw:=iw) (js:=js) (jl:=jl) (jm:=jm) (jp:=jp) (M:=M) hv hK hP x hF h
 have hrest:=fun h=>uL (E:=E) (t:=t) (pr:=pr) (a9:=a9) (a10:=a10) (iw:=iw) (js:=js) (jl:=jl) (jm:=jm) (jp:=jp) (M:=M) hv hK x hF h
 have add:=fun jl K hK a b (ha:aO f a) (hb:aO f b) c=>gd (E:=E) (js:=js) (jm:=jm) (M:=M) jl K hK ha hb c
 have same:=fun a b (ha:aO f a) (hb:aO f b)=>k5 (E:=E) (t:=t) (pr:=pr) (a9:=a9) (a10:=a10) (iw:=iw) (js:=js) (jm:=jm) (M:=M) jl jp K.p.length K hK ha hb
 have hpm:=vM (f:=f) K x
 unfold gR at *
 refine zo func70 Z (by decide) Z<|ah<|ya (cs:=_) Z Z Z<|z6<|zj<|zd<|yg (γ:=Bool) [0,3] (fun u=>[(4,.bool u)]) (fun u=>[(iw,.cells 75 (kF f t pr js jp K.p.length a9 a10)),(js,.cells 136 [.int .i64 ((f.vars.length+1:Nat):Int),.own jl K.l.length,.own jm M.length]),(jl,.grow 3 180 (K.l.map bM).flatten),(jm,.grow 1 3 (cI M)),(jp,.grow 2 187 (K.p.map bO).flatten)]) (fun u=>u=decide (x.op=0∧-bw≤x.num∧x.num≤bw)) ?_ (fun _ _ h=>h) ?_
 ·refine aV<|aq wy Z jv Z Z<|ay jy Z<|ak Z Z<|ai Z<|zp (s:=8) Z (fun c4=>?_) (fun c4=>?_)
  ·refine z8 Z Z c4<|aq wy Z Zo Z Z<|z8 Z Z c4<|ay Zz Z<|z8 Z Z c4<|za (q3 Z Z)<|ar Z c4 Z<|ai Z<|zp (s:=13) Z (fun c5=>?_) (fun c5=>?_)
   ·refine z8 Z Z c5<|aq wy Z Zo Z Z<|z8 Z Z c5<|ay Zz Z<|z8 Z Z c5<|za (Gv.leq Z Z)<|ar Z c5 Z<|ab Z<|z6 ?_
    exact ⟨_,(by repeat (first|with_reducible exact y6 _ _|refine bf.up rfl ?_)),aJ,aE,by unfold bw;simp_all<;>omega⟩
   ·refine z7 Z Z c5<|z7 Z Z c5<|z7 Z Z c5<|au Z c5 Z<|ab Z<|z6 ?_
    exact ⟨_,(by repeat (first|with_reducible exact y6 _ _|refine bf.up rfl ?_)),aJ,aE,by unfold bw;simp_all<;>omega⟩
  ·refine z7 Z Z c4<|z7 Z Z c4<|z7 Z Z c4<|au Z c4 Z<|ai Z<|z7 Z Z Z<|z7 Z Z Z<|z7 Z Z Z<|au Z Z Z<|ab Z<|z6 ?_
   exact ⟨_,(by repeat (first|with_reducible exact y6 _ _|refine bf.up rfl ?_)),aJ,aE,by unfold bw;simp_all<;>omega⟩
 ·rintro u hu
  unfold mA
  refine zu Z (fun c0=>?_) (fun c0=>?_)
  ·have c0:=qz (hu▸c0)
   rw[if_pos c0]
   unfold bw at c0
   have hd:aO f x.dst:=bY (hF.d c0.1 rfl)
   have hneg:IntKind.i64.wrap (0 - x.num)=-x.num:=by rw[tT];omega
   refine zd<|zt (fun j=>false) (by kernel_rfl) Z (zm (.r (.rest _)))<|aj 0 Z (eF Z)<|aj 1 Z (yb Z)<|aj 2 Z (zn j7 Z Z2 (by decide) Z Z)<|aj 3 Z (zq (c:=.po _ _) Z9 Z ⟨_,.head⟩ Z)<|aj 4 Z (bK wy Z wz Z Z)<|aj 5 Z (da j6 Z)<|aj 6 Z (eF Z)<|aj 7 Z (yb Z)<|aj 8 Z (zn j7 Z wz (by decide) Z Z)<|aj 9 Z (zq (c:=.int _ _) j6 Z ⟨_,.head⟩ Z)<|aj 10 Z (bK wy Z Zo Z Z)<|aj 11 Z (da Zz Z)<|aY 12 Z<|zr Z (zm (.l (.l (.l (.r (.rest _)))))) (add jl K hK _ _ hd nn x.num) ?_
   rintro r30 O30 ⟨⟨j1,u1⟩,rfl,rfl,_⟩
   refine z6<|bV<|zy (zb (zc .t4))<|zy (zb (zc .t4))<|zy (zb (zc .t4))<|zy (zb (zc .t4))<|zy (zb (zc .t4))<|zt (fun j=>false) (by kernel_rfl) Z (zm (.r (.rest _)))<|aj 0 Z (eF Z)<|aj 1 Z (yb Z)<|aj 2 Z (zn j7 Z Z2 (by decide) Z Z)<|aj 3 Z (zq (c:=.po _ _) Z9 Z ⟨_,.head⟩ Z)<|aj 4 Z (eF Z)<|aj 5 Z (yb Z)<|aj 6 Z (zn j7 Z wz (by decide) Z Z)<|aj 7 Z (zq (c:=.int _ _) j6 Z ⟨_,.head⟩ Z)<|aj 8 Z (bK wy Z wz Z Z)<|aj 9 Z (da j6 Z)<|aj 10 Z (bK wy Z Zo Z Z)<|aj 11 Z (da Zz Z)<|aj 12 Z (Gv.neg Z)<|aY 13 Z<|zr Z (zm (.l (.l (.l (.r (.rest _)))))) (add j1 _ (hK.add hd nn) _ _ nn hd (IntKind.i64.wrap (0 - x.num))) ?_
   rintro r44 O44 ⟨⟨j2,u2⟩,rfl,rfl,_⟩
   refine z6<|bV<|yc (zb (zc .t4))<|yc (zb (zc .t4))<|yc (zb (zc .t4))<|yc (zb (zc .t4))<|yc (zb (zc .t4))<|yp ?_
   exact ⟨j2,rfl,⟨_,.refl _,by rw[bZ,bZ,hneg]⟩,trivial⟩
  ·have c0:=of_decide_eq_false (hu▸c0)
   rw[if_neg c0]
   refine zd<|zd<|yg (γ:=Bool) [0,3] (fun z=>[(45,.bool z)]) (fun z=>[(iw,.cells 75 (kF f t pr js jp K.p.length a9 a10)),(js,.cells 136 [.int .i64 ((f.vars.length+1:Nat):Int),.own jl K.l.length,.own jm M.length]),(jl,.grow 3 180 (K.l.map bM).flatten),(jm,.grow 1 3 (cI M)),(jp,.grow 2 187 (K.p.map bO).flatten)]) (fun z=>z=decide (x.op=1∧¬bj f x.dst=1)) ?_ (fun _ _ h=>h) ?_
   ·refine zt (fun j=>false) (by kernel_rfl) Z (zm (.r (.rest _)))<|aj 0 Z (bK wy Z jv Z Z)<|aj 1 Z (da jy Z)<|aj 2 Z (Gv.eqlI Z Z)<|aj 3 Z (m4 Z)<|qe (s:=49) Z (fun c1=>?_) (fun c1=>?_)
    ·have d1:x.op=1:=by simpa using c1
     obtain ⟨vr,hx,hv2,hk⟩:=jE (hty.resolve_right (fun h=>h d1))
     refine cC 4 Z Z Z c1 (eF Z)<|cC 5 Z Z Z c1 (yb Z)<|cC 6 Z Z Z c1 (zn j7 Z jh (by decide) Z Z)<|cC 7 Z Z Z c1 (zn je Z Y5 (by decide) Z Z)<|cC 8 Z Z Z c1 (zq (c:=.fro _ _) Yg Z ⟨_,.head⟩ Z)<|cC 9 Z Z Z c1 (bK wy Z wz Z Z)<|cC 10 Z Z Z c1 (da j6 Z)<|cC 11 Z Z Z c1 (bx x.dst.toNat Z6 Y2 Z Z hv2 hx)<|cC 12 Z Z Z c1 (bK Zf Z Yq Z Z)<|cC 13 Z Z Z c1 (da isAgg59 Z)<|cC 14 Z Z Z c1 (Gv.neqI Z Z)<|aj 15 Z (rR Z c1 Z)<|aj 16 Z (oO Z)<|bV ?_
     exact ⟨_,(by repeat (first|with_reducible exact y6 _ _|refine bf.up rfl ?_)),aJ,aE,by rw[hk,qr];simp[d1]⟩
    ·refine bR 4 Z Z Z c1<|bR 5 Z Z Z c1<|bR 6 Z Z Z c1<|bR 7 Z Z Z c1<|bR 8 Z Z Z c1<|bR 9 Z Z Z c1<|bR 10 Z Z Z c1<|bR 11 Z Z Z c1<|bR 12 Z Z Z c1<|bR 13 Z Z Z c1<|bR 14 Z Z Z c1<|aj 15 Z (qD Z c1 Z)<|aj 16 Z (oO Z)<|bV ?_
     exact ⟨_,(by repeat (first|with_reducible exact y6 _ _|refine bf.up rfl ?_)),aJ,aE,by simp_all⟩
   ·rintro z hz
    refine yg (γ:=Bool) [0,3] (fun z2=>[(45,.bool z2)]) (fun z2=>[(iw,.cells 75 (kF f t pr js jp K.p.length a9 a10)),(js,.cells 136 [.int .i64 ((f.vars.length+1:Nat):Int),.own jl K.l.length,.own jm M.length]),(jl,.grow 3 180 (K.l.map bM).flatten),(jm,.grow 1 3 (cI M)),(jp,.grow 2 187 (K.p.map bO).flatten)]) (fun z2=>z2=decide ((x.op=1∧¬bj f x.dst=1)∨x.op=12∨x.op=15)) ?_ (fun _ _ h=>h) ?_
    ·refine zu Z (fun c6=>?_) (fun c6=>?_)
     ·refine zg ?_
      exact ⟨_,(by repeat (first|with_reducible exact y6 _ _|refine bf.up rfl ?_)),aJ,aE,by simp_all⟩
     ·refine ah<|aq wy Z jv Z Z<|ay jy Z<|ak Z Z<|ab Z<|z6<|zu Z (fun c7=>?_) (fun c7=>?_)
      ·refine zg ?_
       exact ⟨_,(by repeat (first|with_reducible exact y6 _ _|refine bf.up rfl ?_)),aJ,aE,by simp_all⟩
      ·refine aV<|aq wy Z jv Z Z<|ay jy Z<|ak Z Z<|ab Z<|z6 ?_
       exact ⟨_,(by repeat (first|with_reducible exact y6 _ _|refine bf.up rfl ?_)),aJ,aE,by simp_all⟩
    ·rintro z2 hz2
     refine zu Z (fun c=>?_) (fun c=>?_)
     ·have c:=qz (hz2▸c)
      rw[if_pos c]
      have hd:aO f x.dst:=by
       rcases c with e|e|e
       ·exact bY (hF.d e.1 rfl)
       ·exact bY (hF.d e rfl)
       ·exact bY (hF.d e rfl)
      have n0:aO f (bB x)∧0<x.args.length:=by
       rcases c with e|e|e
       ·exact a0 e.1 (by decide)
       ·exact a0 e (by decide)
       ·exact a0 e (by decide)
      refine zt (fun j=>false) (by kernel_rfl) Z (zm (.rest _))<|aj 0 Z (eF Z)<|aj 1 Z (bK wy Z wz Z Z)<|aj 2 Z (da j6 Z)<|aj 3 Z (bK wy Z j5 Z Z)<|aj 4 Z (eH j9 Z)<|aj 5 Z (bx 0 wx wz Z Z Z (b7 n0.2))<|aj 6 Z (da j6 Z)<|aY 7 Z<|zr Z (zm (.l (.l (.l (.l (.r (.rest _))))))) (same _ _ hd n0.1) ?_
      rintro r75 O75 ⟨j1,rfl,rfl,_⟩
      refine z6<|bV<|yc (zb (zc .t4))<|yc (zb (zc .t4))<|yc (zb (zc .t4))<|yc (zb (zc .t4))<|yc (zb (zc .t4))<|yp ?_
      exact ⟨j1,rfl,⟨_,.refl _,by rw[kq]⟩,trivial⟩
     ·have c:=of_decide_eq_false (hz2▸c)
      rw[if_neg c]
      refine ah<|aq wy Z jv Z Z<|ay jy Z<|ak Z Z<|ab Z<|z6<|zw Z (fun c16=>?_) (fun c16=>?_)
      ·have c16:x.op=16:=c16
       rw[if_pos c16]
       refine zt (fun j=>false) (by kernel_rfl) Z (zm (.rest _))<|aj 0 Z (eF Z)<|aj 1 Z (bK wy Z wz Z Z)<|aj 2 Z (da j6 Z)<|aj 3 Z (eF Z)<|aj 4 Z (yb Z)<|aj 5 Z (zn j7 Z wz (by decide) Z Z)<|aY 6 Z<|za (zq (c:=.int _ _) j6 Z ⟨_,.head⟩ Z)<|z6<|aY 7 Z<|zr Z (zm (.l (.l (.l (.l (.r (.rest _))))))) (same _ _ (bY (hF.d c16 Z)) nn) ?_
       rintro r87 O87 ⟨j1,rfl,rfl,_⟩
       refine z6<|bV<|yc (zb (zc .t4))<|yc (zb (zc .t4))<|yc (zb (zc .t4))<|yc (zb (zc .t4))<|yc (zb (zc .t4))<|yp ?_
       exact ⟨j1,rfl,⟨_,.refl _,by rw[kq]⟩,trivial⟩
      ·rw[if_neg (show ¬x.op=16 from c16)]
       refine zd<|ah<|aq wy Z jv Z Z<|ay jy Z<|ak Z Z<|ab Z<|z6<|yg (γ:=Bool) [0,3] (fun z3=>[(88,.bool z3)]) (fun z3=>[(iw,.cells 75 (kF f t pr js jp K.p.length a9 a10)),(js,.cells 136 [.int .i64 ((f.vars.length+1:Nat):Int),.own jl K.l.length,.own jm M.length]),(jl,.grow 3 180 (K.l.map bM).flatten),(jm,.grow 1 3 (cI M)),(jp,.grow 2 187 (K.p.map bO).flatten)]) (fun z3=>z3=decide (x.op=2∨x.op=3)) ?_ (fun _ _ h=>h) ?_
       ·refine zu Z (fun c8=>?_) (fun c8=>?_)
        ·refine zg ?_
         exact ⟨_,(by repeat (first|with_reducible exact y6 _ _|refine bf.up rfl ?_)),aJ,aE,by simp_all⟩
        ·refine aV<|aq wy Z jv Z Z<|ay jy Z<|ak Z Z<|ab Z<|z6 ?_
         exact ⟨_,(by repeat (first|with_reducible exact y6 _ _|refine bf.up rfl ?_)),aJ,aE,by simp_all⟩
       ·rintro z3 hz3
        refine zu Z (fun c2=>?_) (fun c2=>?_)
        ·have c2:=qz (hz3▸c2)
         rw[if_pos c2]
         refine aV<|aR Z<|ac Zn jk Z Z<|zr Z (zm (.l (.l (.l (.l (.l (.rest _))))))) (hsum c2) ?_
         rintro r97 O97 ⟨j1,rfl,rfl,_⟩
         refine z6<|yc (zb (zc .t4))<|yc (zb (zc .t4))<|yc (zb (zc .t4))<|yc (zb (zc .t4))<|yc (zb (zc .t4))<|yp ?_
         exact ⟨j1,rfl,⟨_,.refl _,rfl⟩,trivial⟩
        ·have c2:=of_decide_eq_false (hz3▸c2)
         rw[if_neg c2]
         refine zd<|ah<|aq wy Z jv Z Z<|ay jy Z<|ak Z Z<|ab Z<|z6<|yg (γ:=Bool) [0,3] (fun z4=>[(98,.bool z4)]) (fun z4=>[(iw,.cells 75 (kF f t pr js jp K.p.length a9 a10)),(js,.cells 136 [.int .i64 ((f.vars.length+1:Nat):Int),.own jl K.l.length,.own jm M.length]),(jl,.grow 3 180 (K.l.map bM).flatten),(jm,.grow 1 3 (cI M)),(jp,.grow 2 187 (K.p.map bO).flatten)]) (fun z4=>z4=decide (x.op=5∨x.op=6)) ?_ (fun _ _ h=>h) ?_
         ·refine zu Z (fun c9=>?_) (fun c9=>?_)
          ·refine zg ?_
           exact ⟨_,(by repeat (first|with_reducible exact y6 _ _|refine bf.up rfl ?_)),aJ,aE,by simp_all⟩
          ·refine aV<|aq wy Z jv Z Z<|ay jy Z<|ak Z Z<|ab Z<|z6 ?_
           exact ⟨_,(by repeat (first|with_reducible exact y6 _ _|refine bf.up rfl ?_)),aJ,aE,by simp_all⟩
         ·rintro z4 hz4
          refine zu Z (fun c5=>?_) (fun c5=>?_)
          ·have c5:=qz (hz4▸c5)
           rw[if_pos c5]
           refine aV<|aR Z<|ac Zn jk Z Z<|zr Z (zm (.l (.l (.l (.l (.l (.rest _))))))) (hrest c5) ?_
           rintro r107 O107 ⟨j1,rfl,rfl,_⟩
           refine z6<|yc (zb (zc .t4))<|yc (zb (zc .t4))<|yc (zb (zc .t4))<|yc (zb (zc .t4))<|yc (zb (zc .t4))<|yp ?_
           exact ⟨j1,rfl,⟨_,.refl _,rfl⟩,trivial⟩
          ·have c5:=of_decide_eq_false (hz4▸c5)
           rw[if_neg c5]
           refine zg<|yp ?_
           exact ⟨jl,rfl,⟨_,.refl _,rfl⟩,trivial⟩
end
set_option linter.defProp false
def yh:=@bf.up
end Go.Proofs.YtdilpodccjlkgaaGreatDoor
