/- The walk's facts of what an instruction makes. Of facts of nodes that there are. -/
import Derived.Test.YtdilpodccjlkgaaGreatDoorZc
import Derived.Test.YtdilpodccjlkgaaGreatDoorZo
set_option linter.unusedVariables false
set_option linter.unusedSimpArgs false
set_option linter.unusedSectionVars false
namespace Go.Proofs.YtdilpodccjlkgaaGreatDoor
open Go.Proofs.Tryz
def ag (k:Int):List (Int × AV)→Option AV
 |[]=>none
 |(k',x)::es=>if k=k' then some x else ag k es
def am (k:Int) (x:AV):List (Int × AV)→List (Int × AV)
 |[]=>[(k,x)]
 |(k',x')::es=>if k=k' then (k,x)::es else (k',x')::am k x es
theorem F2 (k k':Int) (x:AV):∀es:List (Int × AV),ag k (am k' x es)=if k=k' then some x else ag k es
 |[]=>by simp only[am,ag]
 |(q,y)::es=>by
  simp only[am]
  by_cases h:k'=q
  ·subst h
   rw[if_pos rfl]
   simp only[ag]
   by_cases h2:k=k'
   ·rw[if_pos h2,if_pos h2]
   ·rw[if_neg h2,if_neg h2,if_neg h2]
  ·rw[if_neg h]
   simp only[ag]
   by_cases h2:k=q
   ·rw[if_pos h2,if_pos h2,if_neg (fun e=>h (by rw[←e,h2]))]
   ·rw[if_neg h2,if_neg h2];exact F2 k k' x es
def ky (I:G):List (Int × AV)→List (Value × Value)→Prop
 |[],hs=>hs=[]
 |(k,x)::es,hs=>∃v hs',hs=(kv k,v)::hs'∧bp I x v∧ky I es hs'
theorem ky.mono {I J:G} (h:I.le J):∀{es:List (Int × AV)} {hs:List (Value × Value)},ky I es hs→ky J es hs
 |[],_,e=>e
 |(_,_)::_,_,⟨v,hs',e,h1,h2⟩=>⟨v,hs',e,bp.mono h _ _ h1,ky.mono h h2⟩
theorem ky.get {I:G} {k:Int}:∀{l:List MapEntry} {es:List (Int × AV)} (i:Nat),ky I es (l.map fun e=>(e.key,e.val)) →
  (Instr.findNow (.int .i64) (kv k) l i=some none∧ag k es=none∧∀y u,bp I y u→ky I (am k y es) ((l.map fun e=>(e.key,e.val))++[(kv k,u)])) ∨
  (∃j e0 v x,Instr.findNow (.int .i64) (kv k) l i=some (some (i+j,v))∧l[j]?=some e0∧e0.key=kv k∧ag k es=some x∧bp I x v∧∀y u,bp I y u→ky I (am k y es) ((l.map fun e=>(e.key,e.val)).set j (kv k,u)))
 |[],[],i,_=>.inl ⟨rfl,rfl,fun y u h=>⟨u,[],rfl,h,rfl⟩⟩
 |_::_,[],_,h=>by cases h
 |[],(_,_)::_,_,⟨_,_,e,_⟩=>by cases e
 |x::l,(k1,r)::es,i,⟨v,hs',e,h1,h2⟩=>by
  simp only[List.map_cons,List.cons.injEq,Prod.mk.injEq] at e
  obtain ⟨⟨hk,hv⟩,rfl⟩:=e
  by_cases e1:k=k1
  ·subst e1
   right
   refine ⟨0,x,v,r,?_,Z,hk,by simp[ag],h1,fun y u h=>?_⟩
   ·unfold Instr.findNow;rw[hk,Ci,w8 rfl];simp[hv]
   ·simp only[am,if_pos,List.map_cons,List.set_cons_zero]
    exact ⟨u,_,rfl,h,h2⟩
  ·have hf:Instr.findNow (.int .i64) (kv k) (x::l) i=Instr.findNow (.int .i64) (kv k) l (i+1):=by
    rw[Instr.findNow,hk,Ci,w9 e1]
   have hg:ag k ((k1,r)::es)=ag k es:=by simp[ag,e1]
   have hms:∀y,am k y ((k1,r)::es)=(k1,r)::am k y es:=fun y=>by simp[am,e1]
   rw[hf,hg]
   rcases ky.get (k:=k) (i+1) h2 with ⟨g1,g2,g3⟩|⟨j,e0,v1,x1,g1,g2,g3,g4,g5,g6⟩
   ·left
    refine ⟨g1,g2,fun y u h=>?_⟩
    rw[hms]
    exact ⟨v,_,by rw[List.map_cons,hk,hv];rfl,h1,g3 y u h⟩
   ·right
    refine ⟨j+1,e0,v1,x1,by rw[g1];congr 3;omega,by simpa using g2,g3,g4,g5,fun y u h=>?_⟩
    rw[hms]
    exact ⟨v,_,by rw[List.map_cons,hk,hv,List.set_cons_succ],h1,g6 y u h⟩
def iZ (b:Nat) (es:List (Int × AV)):bA:=.heapG (fun I L=>∃arr clock,L=[(b,.map arr clock)]∧ky I es (gm arr)) fun I J L h hp=>by
 obtain ⟨arr,clock,h1,h2⟩:=hp;exact ⟨arr,clock,h1,h2.mono h⟩
section
variable {E:World} {P:Program} {ops:Array Oper} {K:aR→OL→Prop} {env:aR} {O O' O'':OL} {rest:List Oper} {n:Nat}
variable {d ty:Nat} {pos:String} {af:Array Edge} {x y z:Operand} {t u e T kt:TypeId} {b:Nat}
theorem az.makeMapA (k:∀b,az P E ops K rest (bq env d (dy b)) ((0,iZ b [])::O)):az P E ops K (Oper.mk (some d) (.makeMap t none) ty pos af none::rest) env O:=fun I F ρ w h1 ⟨ht,L,hL,hS⟩=>by
 refine qn Z ?_
 unfold jH
 have:(execOp (Go.Proofs.YtdilpodccjlkgaaGreatDoor.ev ρ) (Oper.mk (some d) (.makeMap t none) ty pos af none)).run P w=.ok (.value (.map (some w.heap.size))) (w.alloc (.map #[] 0)):=by
  simp only[execOp,Option.map_none]
  rw[Sem.run_bind,run_makeMap_plain];rfl
 rw[this]
 exact k w.heap.size I F _ _ (h1.upd d rfl) ⟨ht,(w.heap.size,.map #[] 0)::L,⟨[_],L,rfl,⟨#[],0,rfl,rfl⟩,hL⟩,hS.alloc _⟩
theorem Gv.lookupA {k:Int} {m:Nat} {es:List (Int × AV)} {zx:AV} {zv:Value} {r:Option AV} (hg:ag k es=r) (ht:P.underlying t=some (.map kt u)) (hk:P.underlying kt=some (.int .i64)) (hz:∀w,(zeroValue u).run P w=.ok zv w) (hzr:∀I,bp I zx zv) (hx:aV env x=dy b) (hy:aV env y=.int .i64 k)
  (hO:nF O m (iZ b es)):Gv P env O (Oper.mk (some d) (.lookup t x y true) ty pos af none) (.tup [r.getD zx,.bool r.isSome]):=fun I L E ρ h1 hL=>by
 subst hg
 obtain ⟨O',hO⟩:=hO
 obtain ⟨A,B,hp,⟨arr,clock,rfl,hM⟩,_⟩:=hO.rep hL
 have hin0:(b,Obj.map arr clock)∈L:=hp.mem_iff.2 (by simp)
 have hx:=fB h1 hx
 have hy:=fK h1 hy
 have hb:∀w J L',I.k.le J→SL J L' E w→(∀y∈L,y∈L')→w.heap[b]?=some (Obj.map arr clock):=fun w J L' hl hS hin=>by
  have:=hS.own _ (hin _ hin0);simpa using this
 have hc:∀w,(Instr.checkKey arr.isEmpty 10000 kt (kv k)).run P w=.ok () w:=fun w=>MapKept.run_checkKey (k:=kv k) hk (o5 k) _ 9999
 rcases ky.get (k:=k) 0 hM with ⟨g1,g2,_⟩|⟨j,e0,v,x1,g1,_,_,g4,g5,_⟩
 ·rw[g2]
  refine ⟨.tuple #[zv,.bool false],⟨[_,_],Z,_,_,Z,hzr I,_,_,Z,Z,Z⟩,fun w J L' hl hS hin=>?_⟩
  have hb:=hb w J L' hl hS hin
  have hc:=hc w
  simp only[kv] at hc g1
  simp[execOp,Instr.lookup,run_underlying ht,hx,hy,MapKept.run_getObj_map hb,hc,MapKept.run_findKey hk g1,hz,Result.andThen]
 ·rw[g4]
  refine ⟨.tuple #[v,.bool true],⟨[_,_],Z,_,_,Z,g5,_,_,Z,Z,Z⟩,fun w J L' hl hS hin=>?_⟩
  have hb:=hb w J L' hl hS hin
  have hc:=hc w
  simp only[kv] at hc g1
  simp[execOp,Instr.lookup,run_underlying ht,hx,hy,MapKept.run_getObj_map hb,hc,MapKept.run_findKey hk g1,Result.andThen]
theorem az.mapSetA {k:Int} {m:Nat} {v:AV} {es:List (Int × AV)} (ht:P.underlying t=some (.map kt u)) (hk:P.underlying kt=some (.int .i64)) (hx:aV env x=dy b) (hy:aV env y=.int .i64 k) (hz:aV env z=v) (hO:fR O m (iZ b es) (iZ b (am k v es)) O')
  (kk:az P E ops K rest env O'):az P E ops K (Oper.mk none (.mapUpdate t x y z) ty pos af none::rest) env O:=fun I F ρ w h1 ⟨htop,L,hL,hS⟩=>by
 have hx:=fB h1 hx
 have hy:=fK h1 hy
 have hz2:=h1.ev z
 rw[hz] at hz2
 obtain ⟨uu,hu⟩:∃uu,Go.Proofs.YtdilpodccjlkgaaGreatDoor.ev ρ z=uu:=⟨_,rfl⟩
 rw[hu] at hz2
 obtain ⟨A,B,hp,⟨arr,clock,rfl,he⟩,hback⟩:=hO.rep hL
 have hS2:SL I.k ((b,.map arr clock)::(B++F)) E w:=hS.perm ((hp.append_right F).symm)
 have hb:=hS2.own _ (.head _)
 simp only at hb
 have hc:(Instr.checkKey false 10000 kt (kv k)).run P w=.ok () w:=MapKept.run_checkKey (k:=kv k) hk (o5 k) false 9999
 have fin:∀(arr':Array MapEntry) (clock':Nat),ky I (am k v es) (gm arr') →
   (execOp (Go.Proofs.YtdilpodccjlkgaaGreatDoor.ev ρ) (Oper.mk none (.mapUpdate t x y z) ty pos af none)).run P w=.ok .skip { w with heap:=w.heap.setIfInBounds b (.map arr' clock') }→bZ P ops (ir I F E K) (Oper.mk none (.mapUpdate t x y z) ty pos af none::rest) ρ w:=fun arr' clock' he' hrun=>by
  refine qn Z ?_
  unfold jH
  rw[hrun]
  obtain ⟨L',h7,h8⟩:=hback (qf I) (A':=[(b,.map arr' clock')]) ⟨arr',clock',rfl,he'⟩
  have hh:=MapKept.heap_set (o':=.map arr' clock') hb
  have hS3:SL I.k ((b,.map arr' clock')::(B++F)) E { w with heap:=w.heap.setIfInBounds b (.map arr' clock') }:=hS2.turn rfl rfl rfl hh.1 hh.2
  exact kk I F ρ _ h1 ⟨htop,L',h7,hS3.perm (h8.append_right F)⟩
 rcases ky.get (k:=k) 0 he with ⟨g1,_,g3⟩|⟨j,e0,v1,x1,g1,g2,g3,_,_,g6⟩
 ·refine fin (arr.push { key:=kv k,val:=uu,born:=clock }) (clock+1) ?_ ?_
  ·have:=g3 v uu hz2
   unfold gm;simpa using this
  ·simp only[kv] at hc g1
   simp[execOp,hx,hy,hu,Instr.mapUpdate,run_underlying ht,MapKept.run_getObj_map hb,hc,MapKept.run_findKey hk g1,MapKept.run_setObj_map _ hb,Result.andThen,kv]
 ·rw[Nat.zero_add] at g1
  have hj':arr[j]?=some e0:=by rw[←Array.getElem?_toList];exact g2
  refine fin (arr.modify j fun e=>{ e with key:=kv k,val:=uu }) clock ?_ ?_
  ·have hjl:j<arr.toList.length:=(List.getElem?_eq_some_iff.1 g2).1
   have:(arr.modify j fun e=>{ e with key:=kv k,val:=uu }).toList=arr.toList.set j { e0 with key:=kv k,val:=uu }:=by
    apply List.ext_getElem?
    intro q
    rw[Array.getElem?_toList,Array.getElem?_modify]
    by_cases hq:j=q
    ·subst hq
     rw[if_pos rfl,hj',List.getElem?_set_self hjl];rfl
    ·rw[if_neg hq,List.getElem?_set_ne hq,Array.getElem?_toList]
   unfold gm
   rw[this,List.map_set];exact g6 v uu hz2
  ·have hkeep:(Instr.keyThatStays (kv k) (kv k)).run P w=.ok (kv k) w:=MapKept.run_keyThatStays (o5 k)
   simp only[kv] at hc g1 g3 hkeep
   simp[execOp,hx,hy,hu,Instr.mapUpdate,run_underlying ht,MapKept.run_getObj_map hb,hc,MapKept.run_findKey hk g1,MapKept.run_setObj_map _ hb,Result.andThen,hj',g3,hkeep,kv]
end
end Go.Proofs.YtdilpodccjlkgaaGreatDoor
namespace Go.Proofs.YtdilpodccjlkgaaGreatDoor
open Go.Proofs.Tryz
open Go.Proofs
theorem aY.lendTo {P:Program} {E:World} {f:FuncId} {ars ars':List AV} {O1 O2:OL} {Q:AV→OL→Prop}
  (has:∀(I J:G) (L:List (Nat × Obj)),I.le J→bw I O1 L→(∀y∈L,J.k y.1=some y.2)→∀vs,RepL I ars vs→RepL J ars' vs)
  (hx:∀(I J:G) y O v,Q y O→bp J y v→bp I y v) (hO:∀(I J:G) y O B,Q y O→bw J O B→bw I O B)
  (h:aY P E f ars' O2 Q):aY P E f ars (O1++O2) fun y O'=>∃O'',Q y O''∧O'=O1++O'':=fun I F w vs h1 h2=>by
 obtain ⟨ht,L,hL,hS⟩:=id h2
 obtain ⟨A,B,rfl,hA,hB⟩:=bw.append.1 hL
 rw[qv] at hS
 obtain ⟨K,h3,h4,hf⟩:=SL.freezeAllN hS
 let J:G:=⟨K,I.h⟩
 have hle:I.le J:=⟨h3,fun _ _ h=>h⟩
 refine (h J F w vs (has I J A hle hA hf vs h1) ⟨ht,B,hB.mono hle,h4⟩).mono fun v w' ⟨J2,y,O',a,b,c,d⟩=>?_
 obtain ⟨_,B',hB',hS'⟩:=c
 have hI2:∀b o,I.k b=some o→J2.k b=some o:=fun b o hb=>a.k b o (hle.k b o hb)
 have hA2:∀z∈A,J2.k z.1=some z.2:=fun z hz=>a.k _ _ (hf z hz)
 refine ⟨I,y,_,.refl _,hx I J2 y O' v d b,⟨ht,A++B',bw.append.2 ⟨A,B',Z,hA,hO I J2 y O' B' d hB'⟩,?_⟩,O',d,Z⟩
 rw[qv]
 refine ⟨hS'.os,hS'.output,hS'.tape,fun b o hb=>hS'.pers b o (hI2 b o hb),fun z hz=>?_,?_,fun z hz=>?_,hS.base,hS.flat,fun z hz=>?_⟩
 ·rcases List.mem_append.1 hz with hz|hz
  ·exact hS'.pers _ _ (hA2 z hz)
  ·exact hS'.own z hz
 ·have hn:=hS.nodup
  rw[w5,List.nodup_append] at hn ⊢
  refine ⟨hn.1,hS'.nodup,fun p hp q hq e=>?_⟩
  obtain ⟨z,hz,rfl⟩:=List.mem_map.1 hp
  obtain ⟨u,hu,rfl⟩:=List.mem_map.1 hq
  have h5:=hS'.apart u hu
  rw[←e,hA2 z hz] at h5
  cases h5
 ·rcases List.mem_append.1 hz with hz|hz
  ·exact hS.apart z (List.mem_append_left _ hz)
  ·have h5:=hS'.apart z hz
   cases h6:I.k z.1 with
   |none=>rfl
   |some o=>rw[hI2 _ _ h6] at h5;cases h5
 ·rcases List.mem_append.1 hz with hz|hz
  ·exact hS.oflat z (List.mem_append_left _ hz)
  ·exact hS'.oflat z hz
theorem bl.up {env e:aR} {d:Nat} {v:AV}:∀{f:List Nat},f.all (fun t=>!Nat.beq t d)=true→bl env e f→bl env (bq e d v) f
 |[],_,_=>trivial
 |t::f,h,⟨h1,h2⟩=>by
  rw[List.all_cons,wa] at h
  refine ⟨?_,bl.up h.2 h2⟩
  unfold bq
  have h3:Nat.beq t d=false:=by simpa using h.1
  rw[h3];exact h1
theorem ky.ints {I J:G}:∀{es:List (Int × Int)} {hs:List (Value × Value)},ky J (es.map fun p=>(p.1,.int .i64 p.2)) hs→ky I (es.map fun p=>(p.1,.int .i64 p.2)) hs
 |[],_,e=>e
 |_::_,_,⟨v,hs',e,h1,h2⟩=>⟨v,hs',e,h1,ky.ints h2⟩
theorem Du {I J:G} {b:Nat} {es:List (Int × Int)} {B:List (Nat × Obj)} (h:bw J [(0,iZ b (es.map fun p=>(p.1,.int .i64 p.2)))] B):bw I [(0,iZ b (es.map fun p=>(p.1,.int .i64 p.2)))] B:=by
 obtain ⟨A,C,e,⟨arr,clock,h1,h2⟩,h3⟩:=h
 exact ⟨A,C,e,⟨arr,clock,h1,h2.ints⟩,h3⟩
end Go.Proofs.YtdilpodccjlkgaaGreatDoor
namespace Go.Proofs.YtdilpodccjlkgaaGreatDoor
open Go.Proofs.Tryz
open Go.Proofs Go.Lib Go.Shelf Go.RowKit
variable {E:World}
set_option maxRecDepth 20000
def lP (f:ac) (t pr:AV) (js jp np:Nat) (a9 a10:AV):List AV:=[.fro 2 (f.vars.map gC),.fro 1 (f.params.map cX),.fro 7 (f.blocks.map dh),t,.fro 2 ((cf f).map eP.row),pr,.po js 0,.int .i64 (dW f),.own jp np,a9,a10]
def iM (f:ac) (t pr a9 a10:AV) (iw js jl jm jp:Nat) (K:KS) (M:List Int):OL:=[(iw,.cells 75 (lP f t pr js jp K.p.length a9 a10)),(js,.cells 136 [.int .i64 ((f.vars.length+1:Nat):Int),.own jl K.l.length,.own jm M.length]),(jl,.grow 3 180 (K.l.map b8).flatten),(jm,.grow 1 3 (cI M)),(jp,.grow 2 187 (K.p.map b9).flatten)]
theorem BC (l:List (Int × List Int)):∀x∈l.map b9,x.length=2:=fun x hx=>by obtain ⟨o,_,rfl⟩:=List.mem_map.1 hx;rfl
theorem xI (K:KS) (a b c:Int):(em K a b c).l=mc K.l a b c:=by unfold em mc;split<;>rfl
theorem cP (K:KS) (a b c:Int):(em K a b c).p=K.p:=by unfold em;split<;>rfl
theorem nw (K:KS) (a b:Int) (o:Option Int):(addO K a b o).p=K.p:=by cases o with|none=>rfl|some c=>exact cP K a b c
theorem nx {K:KS} {a b:Int} {o:Option Int} (h:o.isSome=true):addO K a b o=em K a b (o.getD 0):=by cases o with|none=>cases h|some c=>rfl
theorem ny {K:KS} {a b:Int} {o:Option Int} (h:o.isSome=false):addO K a b o=K:=by cases o with|none=>rfl|some c=>cases h
theorem GM {x:Int} (h:-6917529027641081856≤x∧x≤6917529027641081856):IntKind.i64.wrap (0 - -x)=x:=by
 rw[eE];omega
section
variable {f:ac} {K:KS} {t pr a9 a10:AV} {iw js jl jm jp:Nat} {M:List Int}
theorem Dv {args:List AV} (I J:G) (L:List (Nat × Obj)) (hle:I.le J) (hL:bw I (iM f t pr a9 a10 iw js jl jm jp K M) L) (hf:∀y∈L,J.k y.1=some y.2):∀vs,RepL I (.po iw 0::args) vs→RepL J (xE f K t pr::args) vs:=by
 refine cW ?_ (wK hle args)
 unfold xE wQ
 refine o9 hL hf .head ?_
 unfold lP yO
 refine cW (fC hle _) <| cW (fC hle _) <| cW (fC hle _) <| cW (fC hle _) <| cW (fC hle _) <| cW (fC hle _) <| cW ?_ <| cW (fC hle _) <| cW ?_ <| cW (pa _) <| cW (pa _) uy
 ·refine o9 hL hf .t1 ?_
  refine cW (fC hle _) <| cW ?_ <| cW (pa _) uy
  exact r4 hle hL hf .t2 (AG _) (by decide) (w1 ..)
 ·exact r4 hle hL hf .t4 (BC _) (by decide) (w1 ..)
theorem lz {fn:FuncId} {x:AV} {args:List AV} (hx:∀(I J:G) v,bp J x v→bp I x v)
  (h:aM prog E fn (xE f K t pr::args) x):aY prog E fn (.po iw 0::args) (iM f t pr a9 a10 iw js jl jm jp K M) (fun y O=>y=x∧O=iM f t pr a9 a10 iw js jl jm jp K M):=
 aY.lendAll Dv hx h
theorem gR (jl:Nat) (K:KS) (hK:KB f K) {a b:Int} (ha:aU f a) (hb:aU f b) (c:Int) :
  aY prog E 66 [.po js 0,.int .i64 a,.int .i64 b,.int .i64 c] [(js,.cells 136 [.int .i64 ((f.vars.length+1:Nat):Int),.own jl K.l.length,.own jm M.length]),(jl,.grow 3 180 (K.l.map b8).flatten),(jm,.grow 1 3 (cI M))]
   (fun y O=>∃g:Nat × Bool,y=.bool g.2∧O=[(js,.cells 136 [.int .i64 ((f.vars.length+1:Nat):Int),.own g.1 (em K a b c).l.length,.own jm M.length]),(g.1,.grow 3 180 ((em K a b c).l.map b8).flatten),(jm,.grow 1 3 (cI M))]∧True):=by
 have:=nv (E:=E) js jl jm (f.vars.length+1) K.l M (fx ha) (fx hb) c hK.len
 rw[xI]
 exact this
variable (hv:f.vars.length≤1000)
include hv
theorem HT (hK:KB f K) {v:Int} (h:aU f v):aY prog E 117 [.po iw 0,.int .i64 v] (iM f t pr a9 a10 iw js jl jm jp K M) (fun y O=>y=.tup [.int .i64 ((fl f K v (dW f)).getD 0),.bool (fl f K v (dW f)).isSome]∧O=iM f t pr a9 a10 iw js jl jm jp K M):=
 lz (fun _ _ _ h=>ux h) (uD (iB hv hK) (fx h) (fx fZ))
theorem GN (hK:KB f K) {v:Int} (h:aU f v):aY prog E 152 [.po iw 0,.int .i64 v] (iM f t pr a9 a10 iw js jl jm jp K M) (fun y O=>y=.tup [.int .i64 (-(fl f K (dW f) v).getD 0),.bool (fl f K (dW f) v).isSome]∧O=iM f t pr a9 a10 iw js jl jm jp K M):=
 lz (fun _ _ _ h=>ux h) (lV (iB hv hK) (fx h) (fx fZ))
theorem F3 (hK:KB f K) {v:Int} (h:aU f v):aY prog E 116 [.po iw 0,.int .i64 v] (iM f t pr a9 a10 iw js jl jm jp K M) (fun y O=>y=.bool (nu f K v)∧O=iM f t pr a9 a10 iw js jl jm jp K M):=
 lz (fun _ _ _ h=>iO h) (AJ (iB hv hK) (fx h) (fx fZ))
theorem HU (hK:KB f K) (hP:vG K.p) (op:Int) (l:List Int):aY prog E 112 [.po iw 0,.int .i64 op,.fro 1 (l.map cX)] (iM f t pr a9 a10 iw js jl jm jp K M) (fun y O=>y=.bool (qF K op l)∧O=iM f t pr a9 a10 iw js jl jm jp K M):=
 lz (fun _ _ _ h=>iO h) (sK hv hK hP op l)
theorem Dw (hK:KB f K) (x:aF) (hx:1<x.args.length) (h0:aU f (bj x)) (h1:aU f (b7 x)) (k:Nat) (hk:k≤2) (hop:x.op=2+(k:Int)):aY prog E 115 [.po iw 0,.agg (bH x)] (iM f t pr a9 a10 iw js jl jm jp K M) (fun y O=>y=.bool (mM f K k (bj x) (b7 x))∧O=iM f t pr a9 a10 iw js jl jm jp K M):=
 lz (fun _ _ _ h=>iO h) (mR hv hK x hx h0 h1 k hk (.inl hop))
omit hv in
theorem GO (hv:f.vars.length≤1000) (hK:KB f K) (a b:Int):IntKind.i64.wrap (0 - -(fl f K a b).getD 0)=(fl f K a b).getD 0:=GM (oG (iB hv hK))
set_option maxHeartbeats 4000000 in
theorem BD (hK:KB f K) (hP:vG K.p) (x:aF) (hF:bM f x) (hop:x.op=2∨x.op=3) :
  aY prog E 110 [.po iw 0,.agg (bH x)] (iM f t pr a9 a10 iw js jl jm jp K M) (fun y O=>∃g:Nat,y=.tup []∧O=iM f t pr a9 a10 iw js g jm jp (mN f K x) M∧True):=by
 refine qa (γ:=Nat) (x:=fun g=>.tup []) (M:=fun g=>iM f t pr a9 a10 iw js g jm jp (mN f K x) M) (p:=fun _=>True) ?_
 have h1:1<x.args.length:=by rcases hop with e|e<;>(rw[hF.cnt e];decide)
 have hd:aU f x.dst:=by rcases hop with e|e<;>exact cO (hF.d e rfl)
 have n0:aU f (bj x):=cO (hF.a0 (by omega))
 have n1:aU f (b7 x):=cO (hF.a1 h1)
 have nn:aU f (dW f):=fZ
 obtain ⟨kk,hkk,hke⟩:∃k:Nat,k≤2∧x.op=2+(k:Int):=⟨(x.op - 2).toNat,by omega,by omega⟩
 have hke2:(x.op - 2).toNat=kk:=by omega
 have hwas:=HU (E:=E) (t:=t) (pr:=pr) (a9:=a9) (a10:=a10) (iw:=iw) (js:=js) (jl:=jl) (jm:=jm) (jp:=jp) (M:=M) hv hK hP (21+x.op - 2) x.args
 have hwi:=Dw (E:=E) (t:=t) (pr:=pr) (a9:=a9) (a10:=a10) (iw:=iw) (js:=js) (jl:=jl) (jm:=jm) (jp:=jp) (M:=M) hv hK x h1 n0 n1 kk hkk hke
 have hup:=fun v (h:aU f v)=>HT (E:=E) (t:=t) (pr:=pr) (a9:=a9) (a10:=a10) (iw:=iw) (js:=js) (jl:=jl) (jm:=jm) (jp:=jp) (M:=M) hv hK h
 have hdn:=fun v (h:aU f v)=>GN (E:=E) (t:=t) (pr:=pr) (a9:=a9) (a10:=a10) (iw:=iw) (js:=js) (jl:=jl) (jm:=jm) (jp:=jp) (M:=M) hv hK h
 have rk:=fun a b=>GO hv hK a b
 have hsS:¬(qF K (x.op+19) x.args=false∧mM f K kk (bj x) (b7 x)=false)→mN f K x=if x.op=3 then addO (addO K x.dst (bj x) (fl f K (dW f) (b7 x))) (bj x) x.dst (fl f K (b7 x) (dW f))
     else addO (addO (addO (addO K x.dst (bj x) (fl f K (b7 x) (dW f))) (bj x) x.dst (fl f K (dW f) (b7 x))) x.dst (b7 x) (fl f K (bj x) (dW f))) (b7 x) x.dst (fl f K (dW f) (bj x)):=fun h=>by
  unfold mN
  rw[hke2,if_neg h]
 have hsN:(qF K (x.op+19) x.args=false∧mM f K kk (bj x) (b7 x)=false)→mN f K x=K:=fun h=>by
  unfold mN
  rw[hke2,if_pos h]
 have hup0:=hup _ n0
 have hup1:=hup _ n1
 have hdn0:=hdn _ n0
 have hdn1:=hdn _ n1
 have rk0:=rk (dW f) (bj x)
 have rk1:=rk (dW f) (b7 x)
 generalize fl f K (dW f) (bj x)=o0 at *
 generalize fl f K (dW f) (b7 x)=o1 at *
 generalize fl f K (bj x) (dW f)=q0 at *
 generalize fl f K (b7 x) (dW f)=q1 at *
 generalize mN f K x=KZ at *
 clear hup hdn rk
 have add:=fun jl K hK a b (ha:aU f a) (hb:aU f b) c=>gR (E:=E) (js:=js) (jm:=jm) (M:=M) jl K hK ha hb c
 rw[show 21+x.op - 2=x.op+19 by omega] at hwas
 have hne:21+x.op - 2=x.op+19:=by omega
 unfold iM at *
 refine zp func110 Z (by decide) Z<|ai<|ya (cs:=_) Z Z Z<|z6 ?_
 rw[←hne] at hwas
 refine zd<|zd<|ye (γ:=Bool) [0,3] (fun u=>[(29,.bool u)]) (fun u=>[(iw,.cells 75 (lP f t pr js jp K.p.length a9 a10)),(js,.cells 136 [.int .i64 ((f.vars.length+1:Nat):Int),.own jl K.l.length,.own jm M.length]),(jl,.grow 3 180 (K.l.map b8).flatten),(jm,.grow 1 3 (cI M)),(jp,.grow 2 187 (K.p.map b9).flatten)]) (fun u=>u=(!qF K (x.op+19) x.args&&!mM f K kk (bj x) (b7 x))) ?_ (fun _ _ h=>h) ?_
 ·refine aW<|aJ Z<|au j5 Z Z2 Z Z<|aA Z4 Z<|aE Z Z<|za (Gv.sub Z Z (by unfold lE;omega))<|au j5 Z j7 Z Z<|aI jf Z<|zu Z (zj (.l (.l (.l (.l (.l (.rest _))))))) (hwas) ?_
  rintro r22 O22 ⟨rfl,rfl⟩
  refine aC Z<|aj Z<|zq (s:=24) Z (fun c1=>?_) (fun c1=>?_)
  ·refine z8 Z Z c1<|aJ Z<|z8 Z Z c1<|ae Zz jy Z Z<|z8 Z Z c1<|zu Z (zj (.l (.l (.l (.l (.l (.rest _))))))) (hwi) ?_
   rintro r27 O27 ⟨rfl,rfl⟩
   refine z8 Z Z c1<|aC Z<|aw Z c1 Z<|z6 ?_
   exact ⟨_,(by repeat (first|with_reducible exact y5 _ _|refine bl.up rfl ?_)),aK,aH,by simp_all⟩
  ·refine z7 Z Z c1<|z7 Z Z c1<|z7 Z Z c1<|z7 Z Z c1<|ax Z c1 Z<|z6 ?_
   exact ⟨_,(by repeat (first|with_reducible exact y5 _ _|refine bl.up rfl ?_)),aK,aH,by simp_all⟩
 ·rintro u hu
  refine zy Z (fun cu=>?_) (fun cu=>?_)
  ·have hS:KZ=K:=hsN (by rw[hu] at cu;simpa using cu)
   refine zg<|yl ?_
   exact ⟨jl,rfl,⟨_,.refl _,by rw[hS]⟩,trivial⟩
  ·have hS:=hsS (by rw[hu] at cu;simpa using cu)
   refine zi<|zd<|zr (fun j=>false) (by kernel_rfl) Z (zj (.rest _))<|ad 0 Z (bK j5 Z wz Z Z)<|ad 1 Z (cQ j6 Z)<|ad 2 Z (bK j5 Z j7 Z Z)<|ad 3 Z (e9 jf Z)<|ad 4 Z (bv 0 wy wz Z Z Z (cU (by omega)))<|ad 5 Z (cQ j6 Z)<|ad 6 Z (bK j5 Z j7 Z Z)<|ad 7 Z (e9 jf Z)<|ad 8 Z (bv 1 wy wz Z Z Z (du h1))<|ad 9 Z (cQ j6 Z)<|ad 10 Z (mY Z)<|ad 11 Z (mY Z)<|ad 12 Z (mY Z)<|bI<|ai<|aJ Z<|aa Z<|zu Z (zj (.l (.l (.l (.l (.l (.rest _))))))) (hup1) ?_
   rintro r43 O43 ⟨rfl,rfl⟩
   refine za (ke Z)<|za (iN Z Z)<|za (jJ Z Z)<|ao Z<|ab Z<|z6<|ai<|aJ Z<|aa Z<|zu Z (zj (.l (.l (.l (.l (.l (.rest _))))))) (hdn1) ?_
   rintro r49 O49 ⟨rfl,rfl⟩
   refine za (ke Z)<|za (iN Z Z)<|za (jJ Z Z)<|ao Z<|ab Z<|z6<|zd<|ai<|au j5 Z Z2 Z Z<|aA Z4 Z<|ak Z Z<|z6<|zt Z (fun c3=>?_) (fun c3=>?_)
   ·rw[if_pos (show x.op=3 from c3)] at hS
    rw[hS]
    refine zd<|ai<|aj Z<|z6<|ye (γ:=Nat) [0,4,5,7,8] (fun g=>[]) (fun g=>[(iw,.cells 75 (lP f t pr js jp K.p.length a9 a10)),(js,.cells 136 [.int .i64 ((f.vars.length+1:Nat):Int),.own g (addO K x.dst (bj x) o1).l.length,.own jm M.length]),(g,.grow 3 180 ((addO K x.dst (bj x) o1).l.map b8).flatten),(jm,.grow 1 3 (cI M)),(jp,.grow 2 187 (K.p.map b9).flatten)]) (fun g=>True) ?_ (fun _ _ h=>h) ?_
    ·refine zy Z (fun c=>?_) (fun c=>?_)
     ·refine aW<|aJ Z<|ap Z<|za (zf j9 Z Z7 (by decide) Z Z)<|za (zo (c:=.po _ _) Zf Z ⟨_,.head⟩ Z)<|aa Z<|aa Z<|aa Z<|za (Gv.neg Z)<|zu Z (zj (.r (.l (.l (.l (.r (.rest _))))))) (add jl K hK _ _ hd n0 (IntKind.i64.wrap (0 - -o1.getD 0))) ?_
      rintro r64 O64 ⟨⟨j1,u1⟩,rfl,rfl,_⟩
      refine ze (zb (zc .t4))<|ze (zb (zc .t3))<|ze (zb (zc .t3))<|ze (zb (zc .t3))<|ze (zb (zc .t4))<|z6 ?_
      exact ⟨j1,(by repeat (first|with_reducible exact y5 _ _|refine bl.up rfl ?_)),trivial,⟨_,(.refl _),by rw[nx c,rk1]⟩,trivial⟩
     ·refine zi ?_
      exact ⟨jl,(by repeat (first|with_reducible exact y5 _ _|refine bl.up rfl ?_)),trivial,⟨_,(.refl _),by simp only[ny c,w6]⟩,trivial⟩
    ·rintro jq _
     have hK1:KB f (addO K x.dst (bj x) o1):=hK.addO hd n0
     refine zd<|ai<|aj Z<|z6<|zy Z (fun c=>?_) (fun c=>?_)
     ·refine aW<|aJ Z<|ap Z<|za (zf j9 Z Z7 (by decide) Z Z)<|za (zo (c:=.po _ _) Zf Z ⟨_,.head⟩ Z)<|aa Z<|aa Z<|aa Z<|zu Z (zj (.r (.l (.l (.l (.r (.rest _))))))) (add jq _ hK1 _ _ n0 hd (q1.getD 0)) ?_
      rintro r73 O73 ⟨⟨j1,u1⟩,rfl,rfl,_⟩
      refine z6<|zz (zb (zc .t4))<|zz (zb (zc .t3))<|zz (zb (zc .t3))<|zz (zb (zc .t3))<|zz (zb (zc .t4))<|zg<|yl ?_
      exact ⟨j1,rfl,⟨_,.refl _,by rw[nx c,cP,nw]⟩,trivial⟩
     ·refine zi<|zg<|yl ?_
      exact ⟨jq,rfl,⟨_,.refl _,by rw[ny c,nw]⟩,trivial⟩
   ·rw[if_neg (show ¬x.op=3 from c3)] at hS
    rw[hS]
    refine zi<|ai<|aJ Z<|aa Z<|zu Z (zj (.l (.l (.l (.l (.l (.rest _))))))) (hup0) ?_
    rintro r77 O77 ⟨rfl,rfl⟩
    refine za (ke Z)<|za (iN Z Z)<|za (jJ Z Z)<|ao Z<|ab Z<|z6<|zd<|ye (γ:=Unit) [0,4,5,6,7,8,9,10,11,12] (fun u2=>[(13,.int .i64 (-o0.getD 0)),(14,.bool o0.isSome)]) (fun u2=>[(iw,.cells 75 (lP f t pr js jp K.p.length a9 a10)),(js,.cells 136 [.int .i64 ((f.vars.length+1:Nat):Int),.own jl K.l.length,.own jm M.length]),(jl,.grow 3 180 (K.l.map b8).flatten),(jm,.grow 1 3 (cI M)),(jp,.grow 2 187 (K.p.map b9).flatten)]) (fun u2=>True) ?_ (fun _ _ h=>h) ?_
    ·refine aW<|aJ Z<|aa Z<|zu Z (zj (.l (.l (.l (.l (.l (.rest _))))))) (hdn0) ?_
     rintro r83 O83 ⟨rfl,rfl⟩
     refine za (ke Z)<|za (iN Z Z)<|za (jJ Z Z)<|ao Z<|ab Z<|z6 ?_
     exact ⟨(),(by repeat (first|with_reducible exact y5 _ _|refine bl.up rfl ?_)),eo,⟨_,(.refl _),by simp only[w6]⟩,trivial⟩
    ·rintro u2 _
     refine zd<|ai<|aj Z<|z6<|ye (γ:=Nat) [0,4,5,6,9,10,11,12,13,14] (fun g=>[]) (fun g=>[(iw,.cells 75 (lP f t pr js jp K.p.length a9 a10)),(js,.cells 136 [.int .i64 ((f.vars.length+1:Nat):Int),.own g (addO K x.dst (bj x) q1).l.length,.own jm M.length]),(g,.grow 3 180 ((addO K x.dst (bj x) q1).l.map b8).flatten),(jm,.grow 1 3 (cI M)),(jp,.grow 2 187 (K.p.map b9).flatten)]) (fun g=>True) ?_ (fun _ _ h=>h) ?_
     ·refine zy Z (fun c=>?_) (fun c=>?_)
      ·refine aW<|aJ Z<|ap Z<|za (zf j9 Z Z7 (by decide) Z Z)<|za (zo (c:=.po _ _) Zf Z ⟨_,.head⟩ Z)<|aa Z<|aa Z<|aa Z<|zu Z (zj (.r (.l (.l (.l (.r (.rest _))))))) (add jl K hK _ _ hd n0 (q1.getD 0)) ?_
       rintro r94 O94 ⟨⟨j1,u1⟩,rfl,rfl,_⟩
       refine ze (zb (zc .t4))<|ze (zb (zc .t3))<|ze (zb (zc .t3))<|ze (zb (zc .t3))<|ze (zb (zc .t4))<|z6 ?_
       exact ⟨j1,(by repeat (first|with_reducible exact y5 _ _|refine bl.up rfl ?_)),trivial,⟨_,(.refl _),by rw[nx c]⟩,trivial⟩
      ·refine zi ?_
       exact ⟨jl,(by repeat (first|with_reducible exact y5 _ _|refine bl.up rfl ?_)),trivial,⟨_,(.refl _),by simp only[ny c,w6]⟩,trivial⟩
     ·rintro jq _
      have hK1:KB f (addO K x.dst (bj x) q1):=hK.addO hd n0
      obtain ⟨K1,hk1⟩:∃K1,addO K x.dst (bj x) q1=K1:=⟨_,rfl⟩
      have hp1:K1.p=K.p:=by rw[←hk1,nw]
      rw[hk1] at hK1
      rw[hk1]
      refine zd<|ai<|aj Z<|z6<|ye (γ:=Nat) [0,4,6,11,12,13,14] (fun g=>[]) (fun g=>[(iw,.cells 75 (lP f t pr js jp K.p.length a9 a10)),(js,.cells 136 [.int .i64 ((f.vars.length+1:Nat):Int),.own g (addO K1 (bj x) x.dst o1).l.length,.own jm M.length]),(g,.grow 3 180 ((addO K1 (bj x) x.dst o1).l.map b8).flatten),(jm,.grow 1 3 (cI M)),(jp,.grow 2 187 (K.p.map b9).flatten)]) (fun g=>True) ?_ (fun _ _ h=>h) ?_
      ·refine zy Z (fun c=>?_) (fun c=>?_)
       ·refine aW<|aJ Z<|ap Z<|za (zf j9 Z Z7 (by decide) Z Z)<|za (zo (c:=.po _ _) Zf Z ⟨_,.head⟩ Z)<|aa Z<|aa Z<|aa Z<|za (Gv.neg Z)<|zu Z (zj (.r (.l (.l (.l (.r (.rest _))))))) (add jq K1 hK1 _ _ n0 hd (IntKind.i64.wrap (0 - -o1.getD 0))) ?_
        rintro r104 O104 ⟨⟨j1,u1⟩,rfl,rfl,_⟩
        refine ze (zb (zc .t4))<|ze (zb (zc .t3))<|ze (zb (zc .t3))<|ze (zb (zc .t3))<|ze (zb (zc .t4))<|z6 ?_
        exact ⟨j1,(by repeat (first|with_reducible exact y5 _ _|refine bl.up rfl ?_)),trivial,⟨_,(.refl _),by rw[nx c,rk1]⟩,trivial⟩
       ·refine zi ?_
        exact ⟨jq,(by repeat (first|with_reducible exact y5 _ _|refine bl.up rfl ?_)),trivial,⟨_,(.refl _),by simp only[ny c,w6]⟩,trivial⟩
      ·rintro jr _
       have hK2:=hK1.addO n0 hd (o:=o1)
       obtain ⟨K2,hk2⟩:∃K2,addO K1 (bj x) x.dst o1=K2:=⟨_,rfl⟩
       have hp2:K2.p=K.p:=by rw[←hk2,nw,hp1]
       rw[hk2] at hK2
       rw[hk2]
       refine zd<|ai<|aj Z<|z6<|ye (γ:=Nat) [0,4,6,13,14] (fun g=>[]) (fun g=>[(iw,.cells 75 (lP f t pr js jp K.p.length a9 a10)),(js,.cells 136 [.int .i64 ((f.vars.length+1:Nat):Int),.own g (addO K2 x.dst (b7 x) q0).l.length,.own jm M.length]),(g,.grow 3 180 ((addO K2 x.dst (b7 x) q0).l.map b8).flatten),(jm,.grow 1 3 (cI M)),(jp,.grow 2 187 (K.p.map b9).flatten)]) (fun g=>True) ?_ (fun _ _ h=>h) ?_
       ·refine zy Z (fun c=>?_) (fun c=>?_)
        ·refine aW<|aJ Z<|ap Z<|za (zf j9 Z Z7 (by decide) Z Z)<|za (zo (c:=.po _ _) Zf Z ⟨_,.head⟩ Z)<|aa Z<|aa Z<|aa Z<|zu Z (zj (.r (.l (.l (.l (.r (.rest _))))))) (add jr K2 hK2 _ _ hd n1 (q0.getD 0)) ?_
         rintro r113 O113 ⟨⟨j1,u1⟩,rfl,rfl,_⟩
         refine ze (zb (zc .t4))<|ze (zb (zc .t3))<|ze (zb (zc .t3))<|ze (zb (zc .t3))<|ze (zb (zc .t4))<|z6 ?_
         exact ⟨j1,(by repeat (first|with_reducible exact y5 _ _|refine bl.up rfl ?_)),trivial,⟨_,(.refl _),by rw[nx c]⟩,trivial⟩
        ·refine zi ?_
         exact ⟨jr,(by repeat (first|with_reducible exact y5 _ _|refine bl.up rfl ?_)),trivial,⟨_,(.refl _),by simp only[ny c,w6]⟩,trivial⟩
       ·rintro js2 _
        have hK3:=hK2.addO hd n1 (o:=q0)
        obtain ⟨K3,hk3⟩:∃K3,addO K2 x.dst (b7 x) q0=K3:=⟨_,rfl⟩
        have hp3:K3.p=K.p:=by rw[←hk3,nw,hp2]
        rw[hk3] at hK3
        rw[hk3]
        refine ai<|aj Z<|z6<|zy Z (fun c=>?_) (fun c=>?_)
        ·refine aW<|aJ Z<|ap Z<|za (zf j9 Z Z7 (by decide) Z Z)<|za (zo (c:=.po _ _) Zf Z ⟨_,.head⟩ Z)<|aa Z<|aa Z<|aa Z<|za (Gv.neg Z)<|zu Z (zj (.r (.l (.l (.l (.r (.rest _))))))) (add js2 K3 hK3 _ _ n1 hd (IntKind.i64.wrap (0 - -o0.getD 0))) ?_
         rintro r123 O123 ⟨⟨j1,u1⟩,rfl,rfl,_⟩
         refine z6<|y9 (zb (zc .t4))<|y9 (zb (zc .t3))<|y9 (zb (zc .t3))<|y9 (zb (zc .t3))<|y9 (zb (zc .t4))<|yl ?_
         exact ⟨j1,rfl,⟨_,.refl _,by rw[nx c,cP,rk0,hp3]⟩,trivial⟩
        ·refine zi<|yl ?_
         exact ⟨js2,rfl,⟨_,.refl _,by rw[ny c,hp3]⟩,trivial⟩
end
end Go.Proofs.YtdilpodccjlkgaaGreatDoor
namespace Go.Proofs.YtdilpodccjlkgaaGreatDoor
open Go.Proofs.Tryz
open Go.Proofs Go.Lib Go.Shelf Go.RowKit
variable {E:World}
set_option maxRecDepth 20000
section
variable {f:ac} {K:KS} {t pr a9 a10:AV} {iw js jl jm jp:Nat} {M:List Int}
theorem tI (K:KS) (x:aF):(eU f K x).p=K.p:=by
 unfold eU;split
 ·rw[cP,cP]
 ·rfl
theorem Ff (K:KS) (x:aF):(iX f K x).p=K.p:=by
 unfold iX;split
 ·rw[cP,tI]
 ·exact tI K x
theorem GP (K:KS) (x:aF):(mN f K x).p=K.p:=by
 unfold mN;repeat' split
 all_goals simp only[nw]
theorem lA (K:KS) (a b:Int):(iz K a b).p=K.p:=by unfold iz;rw[cP,cP]
theorem zV (K:KS) (x:aF):(lM f K x).p=K.p:=by
 unfold lM;repeat' split
 ·rw[cP,cP]
 ·exact lA ..
 ·exact lA ..
 ·exact GP ..
 ·exact Ff ..
 ·rfl
theorem Fg (hK:KB f K) {x:aF} (hd:aU f x.dst) (h0:aU f (bj x)):KB f (eU f K x):=by
 unfold eU
 split
 ·exact (hK.add fZ hd).add hd h0
 ·exact hK
theorem md (jl jp np:Nat) (K:KS) (hK:KB f K) {a b:Int} (ha:aU f a) (hb:aU f b) :
  aY prog E 67 [.po iw 0,.int .i64 a,.int .i64 b] [(iw,.cells 75 (lP f t pr js jp np a9 a10)),(js,.cells 136 [.int .i64 ((f.vars.length+1:Nat):Int),.own jl K.l.length,.own jm M.length]),(jl,.grow 3 180 (K.l.map b8).flatten),(jm,.grow 1 3 (cI M))]
   (fun y O=>∃g:Nat,y=.tup []∧O=[(iw,.cells 75 (lP f t pr js jp np a9 a10)),(js,.cells 136 [.int .i64 ((f.vars.length+1:Nat):Int),.own g (iz K a b).l.length,.own jm M.length]),(g,.grow 3 180 ((iz K a b).l.map b8).flatten),(jm,.grow 1 3 (cI M))]∧True):=by
 have:=xH (E:=E) (.fro 2 (f.vars.map gC)) (.fro 1 (f.params.map cX)) (.fro 7 (f.blocks.map dh)) t (.fro 2 ((cf f).map eP.row)) pr (.own jp np) a9 a10 iw js jl jm (f.vars.length+1) (dW f) K.l M hK.len (fx ha) (fx hb)
 unfold iz
 rw[xI,xI]
 exact this
variable (hv:f.vars.length≤1000)
include hv
set_option maxHeartbeats 4000000 in
theorem xJ (hK:KB f K) (x:aF) (hF:bM f x) (hop:x.op=5∨x.op=6) :
  aY prog E 111 [.po iw 0,.agg (bH x)] (iM f t pr a9 a10 iw js jl jm jp K M) (fun y O=>∃g:Nat,y=.tup []∧O=iM f t pr a9 a10 iw js g jm jp (iX f K x) M∧True):=by
 refine qa (γ:=Nat) (x:=fun g=>.tup []) (M:=fun g=>iM f t pr a9 a10 iw js g jm jp (iX f K x) M) (p:=fun _=>True) ?_
 have h1:1<x.args.length:=by rcases hop with e|e<;>(rw[hF.cnt e];decide)
 have hd:aU f x.dst:=by rcases hop with e|e<;>exact cO (hF.d e rfl)
 have n0:aU f (bj x):=cO (hF.a0 (by omega))
 have n1:aU f (b7 x):=cO (hF.a1 h1)
 have nn:aU f (dW f):=fZ
 have hpos:=fun v (h:aU f v)=>F3 (E:=E) (t:=t) (pr:=pr) (a9:=a9) (a10:=a10) (iw:=iw) (js:=js) (jl:=jl) (jm:=jm) (jp:=jp) (M:=M) hv hK h
 have add:=fun jl K hK a b (ha:aU f a) (hb:aU f b) c=>gR (E:=E) (js:=js) (jm:=jm) (M:=M) jl K hK ha hb c
 unfold iM at *
 refine zp func111 Z (by decide) Z<|ai<|ya (cs:=_) Z Z Z<|z6<|zd<|zr (fun j=>false) (by kernel_rfl) Z (zj (.rest _))<|ad 0 Z (bK j5 Z wz Z Z)<|ad 1 Z (cQ j6 Z)<|ad 2 Z (bK j5 Z j7 Z Z)<|ad 3 Z (e9 jf Z)<|ad 4 Z (bv 0 wy wz Z Z Z (cU (by omega)))<|ad 5 Z (cQ j6 Z)<|ad 6 Z (bK j5 Z j7 Z Z)<|ad 7 Z (e9 jf Z)<|ad 8 Z (bv 1 wy wz Z Z Z (du h1))<|ad 9 Z (cQ j6 Z)<|ad 10 Z (mY Z)<|ad 11 Z (mY Z)<|ad 12 Z (mY Z)<|bI<|ai<|aJ Z<|aa Z<|zu Z (zj (.l (.l (.l (.l (.l (.rest _))))))) (hpos _ n0) ?_
 rintro r21 O21 ⟨rfl,rfl⟩
 refine aJ Z<|aa Z<|zu Z (zj (.l (.l (.l (.l (.l (.rest _))))))) (hpos _ n1) ?_
 rintro r24 O24 ⟨rfl,rfl⟩
 refine ab Z<|ab Z<|z6<|zd<|zd<|ye (γ:=Bool) [0,3,4,5,6,8] (fun u=>[(33,.bool u)]) (fun u=>[(iw,.cells 75 (lP f t pr js jp K.p.length a9 a10)),(js,.cells 136 [.int .i64 ((f.vars.length+1:Nat):Int),.own jl K.l.length,.own jm M.length]),(jl,.grow 3 180 (K.l.map b8).flatten),(jm,.grow 1 3 (cI M)),(jp,.grow 2 187 (K.p.map b9).flatten)]) (fun u=>u=decide (nu f K (bj x)=true∧(nu f K (b7 x)=true∨x.op=6))) ?_ (fun _ _ h=>h) ?_
 ·refine aW<|aj Z<|aj Z<|zq (s:=26) Z (fun c1=>?_) (fun c1=>?_)
  ·refine z8 Z Z c1<|aj Z<|z8 Z Z c1<|aj Z<|zq (s:=28) Z (fun c2=>?_) (fun c2=>?_)
   ·refine z7 Z Z c2<|z7 Z Z c2<|z7 Z Z c2<|z8 Z Z c1<|aw Z c2 Z<|aw Z c1 Z<|z6 ?_
    exact ⟨_,(by repeat (first|with_reducible exact y5 _ _|refine bl.up rfl ?_)),aK,aH,by simp_all⟩
   ·refine z8 Z Z c2<|au j5 Z Z2 Z Z<|z8 Z Z c2<|aA Z4 Z<|z8 Z Z c2<|ak Z Z<|z8 Z Z c1<|ax Z c2 Z<|aw Z c1 Z<|z6 ?_
    exact ⟨_,(by repeat (first|with_reducible exact y5 _ _|refine bl.up rfl ?_)),aK,aH,by simp_all⟩
  ·refine z7 Z Z c1<|z7 Z Z c1<|zk Z Z<|zk Z Z<|zk Z Z<|z7 Z Z c1<|ax Z c1 Z<|z6 ?_
   exact ⟨_,(by repeat (first|with_reducible exact y5 _ _|refine bl.up rfl ?_)),aK,aH,by simp_all⟩
 ·rintro u hu
  refine ye (γ:=Nat) [0,3,4,6,8] (fun g=>[]) (fun g=>[(iw,.cells 75 (lP f t pr js jp K.p.length a9 a10)),(js,.cells 136 [.int .i64 ((f.vars.length+1:Nat):Int),.own g (eU f K x).l.length,.own jm M.length]),(g,.grow 3 180 ((eU f K x).l.map b8).flatten),(jm,.grow 1 3 (cI M)),(jp,.grow 2 187 (K.p.map b9).flatten)]) (fun g=>True) ?_ (fun _ _ h=>h) ?_
  ·refine zy Z (fun c=>?_) (fun c=>?_)
   ·have hA:eU f K x=em (em K (dW f) x.dst 0) x.dst (bj x) 0:=by unfold eU;rw[if_pos (wd (hu▸c))]
    refine zd<|zr (fun j=>false) (by kernel_rfl) Z (zj (.r (.rest _)))<|ad 0 Z (cJ Z)<|ad 1 Z (zw Z)<|ad 2 Z (zf j9 Z Z7 (by decide) Z Z)<|ad 3 Z (zo (c:=.po _ _) Zf Z ⟨_,.head⟩ Z)<|ad 4 Z (cJ Z)<|ad 5 Z (zw Z)<|ad 6 Z (zf j9 Z wz (by decide) Z Z)<|ad 7 Z (zo (c:=.int _ _) j6 Z ⟨_,.head⟩ Z)<|ad 8 Z (cD Z)<|aQ 9 Z<|zu Z (zj (.l (.l (.l (.r (.rest _)))))) (add jl K hK _ _ nn hd 0) ?_
    rintro r43 O43 ⟨⟨j1,u1⟩,rfl,rfl,_⟩
    refine z6<|bI<|zz (zb (zc .t4))<|zz (zb (zc .t4))<|zz (zb (zc .t4))<|zz (zb (zc .t4))<|zz (zb (zc .t4))<|aW<|aJ Z<|ap Z<|za (zf j9 Z Z7 (by decide) Z Z)<|za (zo (c:=.po _ _) Zf Z ⟨_,.head⟩ Z)<|aa Z<|aa Z<|zu Z (zj (.r (.l (.l (.l (.r (.rest _))))))) (add j1 _ (hK.add nn hd) _ _ hd n0 0) ?_
    rintro r50 O50 ⟨⟨j2,u2⟩,rfl,rfl,_⟩
    refine ze (zb (zc .t4))<|ze (zb (zc .t3))<|ze (zb (zc .t3))<|ze (zb (zc .t3))<|ze (zb (zc .t4))<|z6 ?_
    exact ⟨j2,(by repeat (first|with_reducible exact y5 _ _|refine bl.up rfl ?_)),trivial,⟨_,(.refl _),by rw[hA]⟩,trivial⟩
   ·have hA:eU f K x=K:=by unfold eU;rw[if_neg (we (hu▸c))]
    refine zi ?_
    exact ⟨jl,(by repeat (first|with_reducible exact y5 _ _|refine bl.up rfl ?_)),trivial,⟨_,(.refl _),by simp only[hA,w6]⟩,trivial⟩
  ·rintro jq _
   have hK1:=Fg hK hd n0
   have hp1:(eU f K x).p=K.p:=tI K x
   refine zd<|ye (γ:=Bool) [0,4,6] (fun w=>[(56,.bool w)]) (fun w=>[(iw,.cells 75 (lP f t pr js jp K.p.length a9 a10)),(js,.cells 136 [.int .i64 ((f.vars.length+1:Nat):Int),.own jq (eU f K x).l.length,.own jm M.length]),(jq,.grow 3 180 ((eU f K x).l.map b8).flatten),(jm,.grow 1 3 (cI M)),(jp,.grow 2 187 (K.p.map b9).flatten)]) (fun w=>w=decide (nu f K (b7 x)=true∧x.op=6)) ?_ (fun _ _ h=>h) ?_
   ·refine aW<|aj Z<|aj Z<|zq (s:=52) Z (fun c3=>?_) (fun c3=>?_)
    ·refine z8 Z Z c3<|au j5 Z Z2 Z Z<|z8 Z Z c3<|aA Z4 Z<|z8 Z Z c3<|ak Z Z<|aw Z c3 Z<|z6 ?_
     exact ⟨_,(by repeat (first|with_reducible exact y5 _ _|refine bl.up rfl ?_)),aK,aH,by simp_all⟩
    ·refine z7 Z Z c3<|z7 Z Z c3<|z7 Z Z c3<|ax Z c3 Z<|z6 ?_
     exact ⟨_,(by repeat (first|with_reducible exact y5 _ _|refine bl.up rfl ?_)),aK,aH,by simp_all⟩
   ·rintro w hw
    refine zy Z (fun c=>?_) (fun c=>?_)
    ·have hA:iX f K x=em (eU f K x) x.dst (b7 x) (-1):=by unfold iX;rw[if_pos (wd (hw▸c))]
     refine aW<|aJ Z<|ap Z<|za (zf j9 Z Z7 (by decide) Z Z)<|za (zo (c:=.po _ _) Zf Z ⟨_,.head⟩ Z)<|aa Z<|aa Z<|zu Z (zj (.r (.l (.l (.l (.r (.rest _))))))) (add jq _ hK1 _ _ hd n1 (-1)) ?_
     rintro r63 O63 ⟨⟨j1,u1⟩,rfl,rfl,_⟩
     refine z6<|y9 (zb (zc .t4))<|y9 (zb (zc .t3))<|y9 (zb (zc .t3))<|y9 (zb (zc .t3))<|y9 (zb (zc .t4))<|yl ?_
     exact ⟨j1,rfl,⟨_,.refl _,by rw[hA,cP,hp1]⟩,trivial⟩
    ·have hA:iX f K x=eU f K x:=by unfold iX;rw[if_neg (we (hw▸c))]
     refine zi<|yl ?_
     exact ⟨jq,rfl,⟨_,.refl _,by rw[hA,hp1]⟩,trivial⟩
set_option maxHeartbeats 4000000 in
theorem xK (hK:KB f K) (hP:vG K.p) (x:aF) (hF:bM f x) (hty:bc f x.dst=true∨¬x.op=1) :
  aY prog E 70 [.po iw 0,.agg (bH x)] (iM f t pr a9 a10 iw js jl jm jp K M) (fun y O=>∃g:Nat,y=.tup []∧O=iM f t pr a9 a10 iw js g jm jp (lM f K x) M∧True):=by
 refine qa (γ:=Nat) (x:=fun g=>.tup []) (M:=fun g=>iM f t pr a9 a10 iw js g jm jp (lM f K x) M) (p:=fun _=>True) ?_
 have nn:aU f (dW f):=fZ
 have a0:∀{k:Int},x.op=k→0<([0,1,2,2,2,2,2,2,2,2,1,2,1,2,3,1,0,1,2,1,1,2,2,2,1,2,2][k.toNat]?).getD 0→aU f (bj x)∧0<x.args.length:=fun e h=>⟨cO (hF.a0 (by rw[hF.cnt e];exact h)),by rw[hF.cnt e];exact h⟩
 have hsum:=fun h=>BD (E:=E) (t:=t) (pr:=pr) (a9:=a9) (a10:=a10) (iw:=iw) (js:=js) (jl:=jl) (jm:=jm) (jp:=jp) (M:=M) hv hK hP x hF h
 have hrest:=fun h=>xJ (E:=E) (t:=t) (pr:=pr) (a9:=a9) (a10:=a10) (iw:=iw) (js:=js) (jl:=jl) (jm:=jm) (jp:=jp) (M:=M) hv hK x hF h
 have add:=fun jl K hK a b (ha:aU f a) (hb:aU f b) c=>gR (E:=E) (js:=js) (jm:=jm) (M:=M) jl K hK ha hb c
 have same:=fun a b (ha:aU f a) (hb:aU f b)=>md (E:=E) (t:=t) (pr:=pr) (a9:=a9) (a10:=a10) (iw:=iw) (js:=js) (jm:=jm) (M:=M) jl jp K.p.length K hK ha hb
 have hpm:=zV (f:=f) K x
 unfold iM at *
 refine zp func70 Z (by decide) Z<|ai<|ya (cs:=_) Z Z Z<|z6<|zm<|zd<|ye (γ:=Bool) [0,3] (fun u=>[(4,.bool u)]) (fun u=>[(iw,.cells 75 (lP f t pr js jp K.p.length a9 a10)),(js,.cells 136 [.int .i64 ((f.vars.length+1:Nat):Int),.own jl K.l.length,.own jm M.length]),(jl,.grow 3 180 (K.l.map b8).flatten),(jm,.grow 1 3 (cI M)),(jp,.grow 2 187 (K.p.map b9).flatten)]) (fun u=>u=decide (x.op=0∧-bL≤x.num∧x.num≤bL)) ?_ (fun _ _ h=>h) ?_
 ·refine aW<|au j5 Z Z2 Z Z<|aA Z4 Z<|ak Z Z<|aj Z<|zq (s:=8) Z (fun c4=>?_) (fun c4=>?_)
  ·refine z8 Z Z c4<|au j5 Z Z5 Z Z<|z8 Z Z c4<|aA Zx Z<|z8 Z Z c4<|za (q5 Z Z)<|aw Z c4 Z<|aj Z<|zq (s:=13) Z (fun c5=>?_) (fun c5=>?_)
   ·refine z8 Z Z c5<|au j5 Z Z5 Z Z<|z8 Z Z c5<|aA Zx Z<|z8 Z Z c5<|za (Gv.leq Z Z)<|aw Z c5 Z<|ab Z<|z6 ?_
    exact ⟨_,(by repeat (first|with_reducible exact y5 _ _|refine bl.up rfl ?_)),aK,aH,by unfold bL;simp_all<;>omega⟩
   ·refine z7 Z Z c5<|z7 Z Z c5<|z7 Z Z c5<|ax Z c5 Z<|ab Z<|z6 ?_
    exact ⟨_,(by repeat (first|with_reducible exact y5 _ _|refine bl.up rfl ?_)),aK,aH,by unfold bL;simp_all<;>omega⟩
  ·refine z7 Z Z c4<|z7 Z Z c4<|z7 Z Z c4<|ax Z c4 Z<|aj Z<|z7 Z Z Z<|z7 Z Z Z<|z7 Z Z Z<|ax Z Z Z<|ab Z<|z6 ?_
   exact ⟨_,(by repeat (first|with_reducible exact y5 _ _|refine bl.up rfl ?_)),aK,aH,by unfold bL;simp_all<;>omega⟩
 ·rintro u hu
  unfold lM
  refine zy Z (fun c0=>?_) (fun c0=>?_)
  ·have c0:=wd (hu▸c0)
   rw[if_pos c0]
   unfold bL at c0
   have hd:aU f x.dst:=cO (hF.d c0.1 rfl)
   have hneg:IntKind.i64.wrap (0 - x.num)=-x.num:=by rw[eE];omega
   refine zd<|zr (fun j=>false) (by kernel_rfl) Z (zj (.r (.rest _)))<|ad 0 Z (cJ Z)<|ad 1 Z (zw Z)<|ad 2 Z (zf j9 Z Z7 (by decide) Z Z)<|ad 3 Z (zo (c:=.po _ _) Zf Z ⟨_,.head⟩ Z)<|ad 4 Z (bK j5 Z wz Z Z)<|ad 5 Z (cQ j6 Z)<|ad 6 Z (cJ Z)<|ad 7 Z (zw Z)<|ad 8 Z (zf j9 Z wz (by decide) Z Z)<|ad 9 Z (zo (c:=.int _ _) j6 Z ⟨_,.head⟩ Z)<|ad 10 Z (bK j5 Z Z5 Z Z)<|ad 11 Z (cQ Zx Z)<|aQ 12 Z<|zu Z (zj (.l (.l (.l (.r (.rest _)))))) (add jl K hK _ _ hd nn x.num) ?_
   rintro r30 O30 ⟨⟨j1,u1⟩,rfl,rfl,_⟩
   refine z6<|bI<|zz (zb (zc .t4))<|zz (zb (zc .t4))<|zz (zb (zc .t4))<|zz (zb (zc .t4))<|zz (zb (zc .t4))<|zr (fun j=>false) (by kernel_rfl) Z (zj (.r (.rest _)))<|ad 0 Z (cJ Z)<|ad 1 Z (zw Z)<|ad 2 Z (zf j9 Z Z7 (by decide) Z Z)<|ad 3 Z (zo (c:=.po _ _) Zf Z ⟨_,.head⟩ Z)<|ad 4 Z (cJ Z)<|ad 5 Z (zw Z)<|ad 6 Z (zf j9 Z wz (by decide) Z Z)<|ad 7 Z (zo (c:=.int _ _) j6 Z ⟨_,.head⟩ Z)<|ad 8 Z (bK j5 Z wz Z Z)<|ad 9 Z (cQ j6 Z)<|ad 10 Z (bK j5 Z Z5 Z Z)<|ad 11 Z (cQ Zx Z)<|ad 12 Z (Gv.neg Z)<|aQ 13 Z<|zu Z (zj (.l (.l (.l (.r (.rest _)))))) (add j1 _ (hK.add hd nn) _ _ nn hd (IntKind.i64.wrap (0 - x.num))) ?_
   rintro r44 O44 ⟨⟨j2,u2⟩,rfl,rfl,_⟩
   refine z6<|bI<|y9 (zb (zc .t4))<|y9 (zb (zc .t4))<|y9 (zb (zc .t4))<|y9 (zb (zc .t4))<|y9 (zb (zc .t4))<|yl ?_
   exact ⟨j2,rfl,⟨_,.refl _,by rw[cP,cP,hneg]⟩,trivial⟩
  ·have c0:=we (hu▸c0)
   rw[if_neg c0]
   refine zd<|zd<|ye (γ:=Bool) [0,3] (fun z=>[(45,.bool z)]) (fun z=>[(iw,.cells 75 (lP f t pr js jp K.p.length a9 a10)),(js,.cells 136 [.int .i64 ((f.vars.length+1:Nat):Int),.own jl K.l.length,.own jm M.length]),(jl,.grow 3 180 (K.l.map b8).flatten),(jm,.grow 1 3 (cI M)),(jp,.grow 2 187 (K.p.map b9).flatten)]) (fun z=>z=decide (x.op=1∧¬bg f x.dst=1)) ?_ (fun _ _ h=>h) ?_
   ·refine zr (fun j=>false) (by kernel_rfl) Z (zj (.r (.rest _)))<|ad 0 Z (bK j5 Z Z2 Z Z)<|ad 1 Z (cQ Z4 Z)<|ad 2 Z (Gv.eqlI Z Z)<|ad 3 Z (m5 Z)<|qj (s:=49) Z (fun c1=>?_) (fun c1=>?_)
    ·have d1:x.op=1:=by simpa using c1
     obtain ⟨vr,hx,hv2,hk⟩:=kL (hty.resolve_right (fun h=>h d1))
     refine cG 4 Z Z Z c1 (cJ Z)<|cG 5 Z Z Z c1 (zw Z)<|cG 6 Z Z Z c1 (zf j9 Z jj (by decide) Z Z)<|cG 7 Z Z Z c1 (zf jg Z Yc (by decide) Z Z)<|cG 8 Z Z Z c1 (zo (c:=.fro _ _) Yn Z ⟨_,.head⟩ Z)<|cG 9 Z Z Z c1 (bK j5 Z wz Z Z)<|cG 10 Z Z Z c1 (cQ j6 Z)<|cG 11 Z Z Z c1 (bv x.dst.toNat Z9 Yd Z Z hv2 hx)<|cG 12 Z Z Z c1 (bK Zm Z X2 Z Z)<|cG 13 Z Z Z c1 (cQ Xh Z)<|cG 14 Z Z Z c1 (Gv.neqI Z Z)<|ad 15 Z (sX Z c1 Z)<|ad 16 Z (ms Z)<|bI ?_
     exact ⟨_,(by repeat (first|with_reducible exact y5 _ _|refine bl.up rfl ?_)),aK,aH,by rw[hk,w3];simp[d1]⟩
    ·refine bX 4 Z Z Z c1<|bX 5 Z Z Z c1<|bX 6 Z Z Z c1<|bX 7 Z Z Z c1<|bX 8 Z Z Z c1<|bX 9 Z Z Z c1<|bX 10 Z Z Z c1<|bX 11 Z Z Z c1<|bX 12 Z Z Z c1<|bX 13 Z Z Z c1<|bX 14 Z Z Z c1<|ad 15 Z (rz Z c1 Z)<|ad 16 Z (ms Z)<|bI ?_
     exact ⟨_,(by repeat (first|with_reducible exact y5 _ _|refine bl.up rfl ?_)),aK,aH,by simp_all⟩
   ·rintro z hz
    refine ye (γ:=Bool) [0,3] (fun z2=>[(45,.bool z2)]) (fun z2=>[(iw,.cells 75 (lP f t pr js jp K.p.length a9 a10)),(js,.cells 136 [.int .i64 ((f.vars.length+1:Nat):Int),.own jl K.l.length,.own jm M.length]),(jl,.grow 3 180 (K.l.map b8).flatten),(jm,.grow 1 3 (cI M)),(jp,.grow 2 187 (K.p.map b9).flatten)]) (fun z2=>z2=decide ((x.op=1∧¬bg f x.dst=1)∨x.op=12∨x.op=15)) ?_ (fun _ _ h=>h) ?_
    ·refine zy Z (fun c6=>?_) (fun c6=>?_)
     ·refine zi ?_
      exact ⟨_,(by repeat (first|with_reducible exact y5 _ _|refine bl.up rfl ?_)),aK,aH,by simp_all⟩
     ·refine ai<|au j5 Z Z2 Z Z<|aA Z4 Z<|ak Z Z<|ab Z<|z6<|zy Z (fun c7=>?_) (fun c7=>?_)
      ·refine zi ?_
       exact ⟨_,(by repeat (first|with_reducible exact y5 _ _|refine bl.up rfl ?_)),aK,aH,by simp_all⟩
      ·refine aW<|au j5 Z Z2 Z Z<|aA Z4 Z<|ak Z Z<|ab Z<|z6 ?_
       exact ⟨_,(by repeat (first|with_reducible exact y5 _ _|refine bl.up rfl ?_)),aK,aH,by simp_all⟩
    ·rintro z2 hz2
     refine zy Z (fun c=>?_) (fun c=>?_)
     ·have c:=wd (hz2▸c)
      rw[if_pos c]
      have hd:aU f x.dst:=by
       rcases c with e|e|e
       ·exact cO (hF.d e.1 rfl)
       ·exact cO (hF.d e rfl)
       ·exact cO (hF.d e rfl)
      have n0:aU f (bj x)∧0<x.args.length:=by
       rcases c with e|e|e
       ·exact a0 e.1 (by decide)
       ·exact a0 e (by decide)
       ·exact a0 e (by decide)
      refine zr (fun j=>false) (by kernel_rfl) Z (zj (.rest _))<|ad 0 Z (cJ Z)<|ad 1 Z (bK j5 Z wz Z Z)<|ad 2 Z (cQ j6 Z)<|ad 3 Z (bK j5 Z j7 Z Z)<|ad 4 Z (e9 jf Z)<|ad 5 Z (bv 0 wy wz Z Z Z (cU n0.2))<|ad 6 Z (cQ j6 Z)<|aQ 7 Z<|zu Z (zj (.l (.l (.l (.l (.r (.rest _))))))) (same _ _ hd n0.1) ?_
      rintro r75 O75 ⟨j1,rfl,rfl,_⟩
      refine z6<|bI<|y9 (zb (zc .t4))<|y9 (zb (zc .t4))<|y9 (zb (zc .t4))<|y9 (zb (zc .t4))<|y9 (zb (zc .t4))<|yl ?_
      exact ⟨j1,rfl,⟨_,.refl _,by rw[lA]⟩,trivial⟩
     ·have c:=we (hz2▸c)
      rw[if_neg c]
      refine ai<|au j5 Z Z2 Z Z<|aA Z4 Z<|ak Z Z<|ab Z<|z6<|zt Z (fun c16=>?_) (fun c16=>?_)
      ·have c16:x.op=16:=c16
       rw[if_pos c16]
       refine zr (fun j=>false) (by kernel_rfl) Z (zj (.rest _))<|ad 0 Z (cJ Z)<|ad 1 Z (bK j5 Z wz Z Z)<|ad 2 Z (cQ j6 Z)<|ad 3 Z (cJ Z)<|ad 4 Z (zw Z)<|ad 5 Z (zf j9 Z wz (by decide) Z Z)<|aQ 6 Z<|za (zo (c:=.int _ _) j6 Z ⟨_,.head⟩ Z)<|z6<|aQ 7 Z<|zu Z (zj (.l (.l (.l (.l (.r (.rest _))))))) (same _ _ (cO (hF.d c16 Z)) nn) ?_
       rintro r87 O87 ⟨j1,rfl,rfl,_⟩
       refine z6<|bI<|y9 (zb (zc .t4))<|y9 (zb (zc .t4))<|y9 (zb (zc .t4))<|y9 (zb (zc .t4))<|y9 (zb (zc .t4))<|yl ?_
       exact ⟨j1,rfl,⟨_,.refl _,by rw[lA]⟩,trivial⟩
      ·rw[if_neg (show ¬x.op=16 from c16)]
       refine zd<|ai<|au j5 Z Z2 Z Z<|aA Z4 Z<|ak Z Z<|ab Z<|z6<|ye (γ:=Bool) [0,3] (fun z3=>[(88,.bool z3)]) (fun z3=>[(iw,.cells 75 (lP f t pr js jp K.p.length a9 a10)),(js,.cells 136 [.int .i64 ((f.vars.length+1:Nat):Int),.own jl K.l.length,.own jm M.length]),(jl,.grow 3 180 (K.l.map b8).flatten),(jm,.grow 1 3 (cI M)),(jp,.grow 2 187 (K.p.map b9).flatten)]) (fun z3=>z3=decide (x.op=2∨x.op=3)) ?_ (fun _ _ h=>h) ?_
       ·refine zy Z (fun c8=>?_) (fun c8=>?_)
        ·refine zi ?_
         exact ⟨_,(by repeat (first|with_reducible exact y5 _ _|refine bl.up rfl ?_)),aK,aH,by simp_all⟩
        ·refine aW<|au j5 Z Z2 Z Z<|aA Z4 Z<|ak Z Z<|ab Z<|z6 ?_
         exact ⟨_,(by repeat (first|with_reducible exact y5 _ _|refine bl.up rfl ?_)),aK,aH,by simp_all⟩
       ·rintro z3 hz3
        refine zy Z (fun c2=>?_) (fun c2=>?_)
        ·have c2:=wd (hz3▸c2)
         rw[if_pos c2]
         refine aW<|aJ Z<|ae Zz jy Z Z<|zu Z (zj (.l (.l (.l (.l (.l (.rest _))))))) (hsum c2) ?_
         rintro r97 O97 ⟨j1,rfl,rfl,_⟩
         refine z6<|y9 (zb (zc .t4))<|y9 (zb (zc .t4))<|y9 (zb (zc .t4))<|y9 (zb (zc .t4))<|y9 (zb (zc .t4))<|yl ?_
         exact ⟨j1,rfl,⟨_,.refl _,rfl⟩,trivial⟩
        ·have c2:=we (hz3▸c2)
         rw[if_neg c2]
         refine zd<|ai<|au j5 Z Z2 Z Z<|aA Z4 Z<|ak Z Z<|ab Z<|z6<|ye (γ:=Bool) [0,3] (fun z4=>[(98,.bool z4)]) (fun z4=>[(iw,.cells 75 (lP f t pr js jp K.p.length a9 a10)),(js,.cells 136 [.int .i64 ((f.vars.length+1:Nat):Int),.own jl K.l.length,.own jm M.length]),(jl,.grow 3 180 (K.l.map b8).flatten),(jm,.grow 1 3 (cI M)),(jp,.grow 2 187 (K.p.map b9).flatten)]) (fun z4=>z4=decide (x.op=5∨x.op=6)) ?_ (fun _ _ h=>h) ?_
         ·refine zy Z (fun c9=>?_) (fun c9=>?_)
          ·refine zi ?_
           exact ⟨_,(by repeat (first|with_reducible exact y5 _ _|refine bl.up rfl ?_)),aK,aH,by simp_all⟩
          ·refine aW<|au j5 Z Z2 Z Z<|aA Z4 Z<|ak Z Z<|ab Z<|z6 ?_
           exact ⟨_,(by repeat (first|with_reducible exact y5 _ _|refine bl.up rfl ?_)),aK,aH,by simp_all⟩
         ·rintro z4 hz4
          refine zy Z (fun c5=>?_) (fun c5=>?_)
          ·have c5:=wd (hz4▸c5)
           rw[if_pos c5]
           refine aW<|aJ Z<|ae Zz jy Z Z<|zu Z (zj (.l (.l (.l (.l (.l (.rest _))))))) (hrest c5) ?_
           rintro r107 O107 ⟨j1,rfl,rfl,_⟩
           refine z6<|y9 (zb (zc .t4))<|y9 (zb (zc .t4))<|y9 (zb (zc .t4))<|y9 (zb (zc .t4))<|y9 (zb (zc .t4))<|yl ?_
           exact ⟨j1,rfl,⟨_,.refl _,rfl⟩,trivial⟩
          ·have c5:=we (hz4▸c5)
           rw[if_neg c5]
           refine zi<|yl ?_
           exact ⟨jl,rfl,⟨_,.refl _,rfl⟩,trivial⟩
end
set_option linter.defProp false
def yn:=@bl.up
end Go.Proofs.YtdilpodccjlkgaaGreatDoor
