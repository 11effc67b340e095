/- What an operation comes to that looks into memory, or that makes a block, over a heap told exactly. No conditions. -/
import Derived.Test.YthphijnnbfjikaaGreatDoorJe
import Derived.Test.YthphijnnbfjikaaGreatDoorJd
import Derived.WideKeyRuns
set_option linter.unusedVariables false
set_option linter.unusedSimpArgs false
set_option linter.unusedSectionVars false
namespace Go.Proofs.YthphijnnbfjikaaGreatDoor
section
variable {α:Type}
theorem d4.inv {c:dn α} {e:TypeId} {r:List α} {rs:List (List α)} {hs:List Value} {L:List (Nat × Obj)} (h:d4 c e (r::rs) hs L) :
  ∃a n cap hs' A B,hs=.slice a n cap::hs'∧L=A++B∧dM c.k e a n cap (c.vs r) A∧d4 c e rs hs' B:=by
 cases h with
 |cons h1 h2=>exact ⟨_,_,_,_,_,_,rfl,rfl,h1,h2⟩
def wr (c:dn α) (T e:TypeId) (b:Nat) (rows:List (List α)) (k:Nat):bm:=.heap fun L=>∃(hs:List Value) (B:List (Nat × Obj)),L=(b,.cells hs.toArray T (0,0))::B∧hs.length=rows.length∧d4 c e (rows.drop k) (hs.drop k) B
section
variable {E:World} {P:Program} {ops:Array Oper} {K:aH→OL→Prop} {env:aH} {O O' O'':OL} {rest:List Oper} {n:Nat}
variable {d ty:Nat} {pos:String} {af:Array Edge} {x y z:Operand} {t u e T:TypeId}
theorem aN.nestTail {c:dn α} {b m:Nat} {rows:List (List α)} (hO:eR O m (cu c T e b rows) (wr c T e b rows 0) O'):aN E env O env O':=fun I F ρ w h1 h2=>by
 obtain ⟨htop,L,hL,hS⟩:=h2
 obtain ⟨A,B,hp,⟨hs,B0,rfl,hN⟩,hback⟩:=hO.rep hL
 obtain ⟨L',h5,h6⟩:=hback (G.le.refl I) (A':=(b,.cells hs.toArray T (0,0))::B0) ⟨hs,B0,rfl,hN.len,hN⟩
 exact ⟨I,.refl _,h1,htop,L',h5,hS.perm ((h6.trans hp.symm).append_right F)⟩
theorem ai.nestShift {c:dn α} {b k m:Nat} {rows:List (List α)} {r:List α} (ha:∀w,(isAgg t).run P w=.ok false w) (hx:aP env x=DK b k) (hr:rows[k]?=some r)
  (hO:eR O m (wr c T e b rows k) (wr c T e b rows (k+1)) O') (kk:∀i,ai P E ops K rest (bp env d (.own i r.length)) ((i,.grow c.k e (c.av r))::O')) :
  ai P E ops K (Oper.mk (some d) (.load t x) ty pos af none::rest) env O:=fun I F ρ w h1 h2=>by
 obtain ⟨i,hi⟩:=h2.name
 obtain ⟨htop,L,hL,hS⟩:=h2
 have hx:=fA h1 hx
 obtain ⟨A,B,hp,⟨hs,B0,rfl,hl,hN⟩,hback⟩:=hO.rep hL
 obtain ⟨hlt,hrk⟩:=List.getElem?_eq_some_iff.1 hr
 rw[List.drop_eq_getElem_cons hlt,hrk] at hN
 obtain ⟨a,n,cap,hs',A1,B1,g0,rfl,g2,g3⟩:=hN.inv
 have hlt2:k<hs.length:=by omega
 have g0':=g0
 rw[List.drop_eq_getElem_cons hlt2] at g0'
 simp only[List.cons.injEq] at g0'
 obtain ⟨g1,rfl⟩:=g0'
 have g1:hs[k]?=some (.slice a n cap):=by rw[qj hlt2,g1]
 obtain ⟨b1,rfl⟩:=g2.adr
 have hn:n=r.length:=by have:=g2.1;rw[c.vs_len] at this;exact (Nat.eq_of_mul_eq_mul_right c.pos this).symm
 subst hn
 obtain ⟨J,e1,hle,e2,htop'⟩:=hi (b1,cap)
 have hS2:SL I.k ((b,.cells hs.toArray T (0,0))::(A1++B1++(B++F))) E w:=hS.perm (by
  have:=hp.append_right F
  simpa using this.symm)
 obtain ⟨L',h5,h6⟩:=hback hle (A':=(b,.cells hs.toArray T (0,0))::B1) ⟨hs,B1,rfl,hl,g3⟩
 refine bx.load1 (I:=I.k) (O:=(b,.cells hs.toArray T (0,0))::(A1++B1++(B++F))) ha hS2 hx (.inr ⟨_,_,_,.head _,by rw[List.getElem?_toArray];exact g1⟩) ?_
 refine yt (fun _ _=>qe hle) _ _ _ (kk i J F _ _ ((h1.mono hle).upd d ⟨b1,cap,e2,Z⟩) ⟨htop',A1++L',⟨A1,L',Z,⟨b1,cap,_,c.vs r,e2,by rw[c.av_eq];exact dA J _,c.vs_one r,g2⟩,h5⟩,?_⟩)
 rw[e1]
 refine hS2.perm ?_
 have h7:(A1++L'++F).Perm (A1++((b,Obj.cells hs.toArray T (0,0))::(B1++B))++F):=(h6.append_left A1).append_right F
 refine h7.trans ?_
 simp only[ql,List.cons_append]
 exact List.perm_middle
end
end
section
variable {α:Type}
def mg (k:Int):List (Int × List α)→List α
 |[]=>[]
 |(k',r)::es=>if k=k' then r else mg k es
def ms (k:Int) (r:List α):List (Int × List α)→List (Int × List α)
 |[]=>[(k,r)]
 |(k',r')::es=>if k=k' then (k,r)::es else (k',r')::ms k r es
theorem EQ (k k':Int) (r:List α):∀es:List (Int × List α),mg k (ms k' r es)=if k=k' then r else mg k es
 |[]=>by simp only[ms,mg]
 |(q,r')::es=>by
  simp only[ms]
  by_cases h:k'=q
  ·subst h
   rw[if_pos rfl]
   simp only[mg]
   by_cases h2:k=k'
   ·rw[if_pos h2,if_pos h2]
   ·rw[if_neg h2,if_neg h2,if_neg h2]
  ·rw[if_neg h]
   simp only[mg]
   by_cases h2:k=q
   ·rw[if_pos h2,if_pos h2,if_neg (fun e=>h (by rw[←e,h2]))]
   ·rw[if_neg h2,if_neg h2];exact EQ k k' r es
def kv (k:Int):Value:=.int .i64 k
theorem oa (k:Int):MapKept.IsKey (.int .i64) (kv k):=rfl
theorem rm (k k':Int):Instr.sameNow (.int .i64) (kv k) (kv k')=some (decide (k=k')):=by
 simp[Instr.sameNow,kv];by_cases h:k=k'<;>simp[h]
def BM (arr:Array MapEntry):List (Value × Value):=arr.toList.map fun e=>(e.key,e.val)
inductive j5 (c:dn α) (e:TypeId):List (Int × List α)→List (Value × Value)→List (Nat × Obj)→Prop
 |nil:j5 c e [] [] []
 |cons {k r es a n cap hs A B}:dM c.k e a n cap (c.vs r) A→j5 c e es hs B→j5 c e ((k,r)::es) ((kv k,.slice a n cap)::hs) (A++B)
def GM (c:dn α) (e:TypeId) (es:List (Int × List α)) (k:Int) (l:List MapEntry) (B:List (Nat × Obj)):Prop:=
 (Instr.findNow (.int .i64) (kv k) l 0=some none∧∀r' a' n' c' A',dM c.k e a' n' c' (c.vs r') A'→∃L',j5 c e (ms k r' es) (l.map (fun e=>(e.key,e.val))++[(kv k,.slice a' n' c')]) L'∧L'.Perm (A'++B)) ∨
 (∃j v e0,Instr.findNow (.int .i64) (kv k) l 0=some (some (j,v))∧l[j]?=some e0∧e0.key=kv k∧∀r' a' n' c' A',dM c.k e a' n' c' (c.vs r') A'→∃L',j5 c e (ms k r' es) ((l.map fun e=>(e.key,e.val)).set j (kv k,.slice a' n' c')) L'∧L'.Perm (A'++B))
theorem j5.get {c:dn α} {e:TypeId} {k:Int}:∀{l:List MapEntry} {es:List (Int × List α)} {L:List (Nat × Obj)} (i:Nat),j5 c e es (l.map fun e=>(e.key,e.val)) L →
  (Instr.findNow (.int .i64) (kv k) l i=some none∧mg k es=[]∧∀r' a' n' c' A',dM c.k e a' n' c' (c.vs r') A'→∃L',j5 c e (ms k r' es) (l.map (fun e=>(e.key,e.val))++[(kv k,.slice a' n' c')]) L'∧L'.Perm (A'++L)) ∨
  (∃j e0 a n cap A B,Instr.findNow (.int .i64) (kv k) l i=some (some (i+j,.slice a n cap))∧l[j]?=some e0∧e0.key=kv k∧dM c.k e a n cap (c.vs (mg k es)) A∧L.Perm (A++B) ∧
   ∀r' a' n' c' A',dM c.k e a' n' c' (c.vs r') A'→∃L',j5 c e (ms k r' es) ((l.map fun e=>(e.key,e.val)).set j (kv k,.slice a' n' c')) L'∧L'.Perm (A'++B))
 |[],es,L,i,h=>by
  cases h
  exact .inl ⟨rfl,rfl,fun r' a' n' c' A' h=>⟨_,by simpa [ms] using j5.cons (k:=k) h .nil,by simp⟩⟩
 |x::l,es,L,i,h=>by
  generalize hl:((x::l).map fun e=>(e.key,e.val))=hs0 at h
  cases h with
  |nil=>simp at hl
  |@cons k1 r es a n cap hs A B h1 h2=>
   simp only[List.map_cons,List.cons.injEq,Prod.mk.injEq] at hl
   obtain ⟨⟨hk,hv⟩,rfl⟩:=hl
   by_cases e1:k=k1
   ·subst e1
    right
    refine ⟨0,x,a,n,cap,A,B,?_,Z,hk,by simpa [mg] using h1,.refl _,fun r' a' n' c' A' h=>⟨A'++B,?_,.refl _⟩⟩
    ·unfold Instr.findNow;rw[hk,rm,decide_eq_true rfl];simp[hv]
    ·simp only[ms,if_pos,List.map_cons,List.set_cons_zero]
     exact .cons h h2
   ·have hf:Instr.findNow (.int .i64) (kv k) (x::l) i=Instr.findNow (.int .i64) (kv k) l (i+1):=by
     rw[Instr.findNow,hk,rm,decide_eq_false e1]
    have hg:mg k ((k1,r)::es)=mg k es:=by simp[mg,e1]
    have hms:∀r',ms k r' ((k1,r)::es)=(k1,r)::ms k r' es:=fun r'=>by simp[ms,e1]
    rw[hf,hg]
    rcases j5.get (k:=k) (i+1) h2 with ⟨g1,g2,g3⟩|⟨j,e0,a1,n1,c1,A1,B1,g1,g2,g3,g4,g5,g6⟩
    ·left
     refine ⟨g1,g2,fun r' a' n' c' A' h=>?_⟩
     obtain ⟨L',q1,q2⟩:=g3 r' a' n' c' A' h
     refine ⟨A++L',?_,?_⟩
     ·rw[hms,List.cons_append];exact .cons h1 q1
     ·refine (q2.append_left A).trans ?_
      rw[←ql,←ql]
      exact List.perm_append_comm.append_right B
    ·right
     refine ⟨j+1,e0,a1,n1,c1,A1,A++B1,by rw[g1];congr 3;omega,by simpa using g2,g3,g4,?_,fun r' a' n' c' A' h=>?_⟩
     ·refine (g5.append_left A).trans ?_
      rw[←ql,←ql]
      exact List.perm_append_comm.append_right B1
     ·obtain ⟨L',q1,q2⟩:=g6 r' a' n' c' A' h
      refine ⟨A++L',?_,?_⟩
      ·rw[hms,List.set_cons_succ];exact .cons h1 q1
      ·refine (q2.append_left A).trans ?_
       rw[←ql,←ql]
       exact List.perm_append_comm.append_right B1
def jA (c:dn α) (e:TypeId) (b:Nat) (es:List (Int × List α)):bm:=.heap fun L=>∃arr clock B,L=(b,.map arr clock)::B∧j5 c e es (BM arr) B
def BN (c:dn α) (e:TypeId) (b:Nat) (es:List (Int × List α)) (k:Int):bm:=.heap fun L=>∃arr clock B,L=(b,.map arr clock)::B∧GM c e es k arr.toList B
section
variable {E:World} {P:Program} {ops:Array Oper} {K:aH→OL→Prop} {env:aH} {O O' O'':OL} {rest:List Oper} {n:Nat}
variable {d ty:Nat} {pos:String} {af:Array Edge} {x y z:Operand} {t u e T kt:TypeId} {b:Nat}
theorem ai.makeMapN (c:dn α) (e:TypeId) (k:∀b,ai P E ops K rest (bp env d (gE b)) ((0,jA c e b [])::O)):ai P E ops K (Oper.mk (some d) (.makeMap t none) ty pos af none::rest) env O:=fun I F ρ w h1 ⟨ht,L,hL,hS⟩=>by
 refine qi Z ?_
 unfold dQ
 have:(execOp (Go.Proofs.YthphijnnbfjikaaGreatDoor.ev ρ) (Oper.mk (some d) (.makeMap t none) ty pos af none)).run P w=.ok (.value (.map (some w.heap.size))) (w.alloc (.map #[] 0)):=by
  simp only[execOp,Option.map_none]
  rw[Sem.run_bind,run_makeMap_plain];rfl
 rw[this]
 exact k w.heap.size I F _ _ (h1.upd d rfl) ⟨ht,(w.heap.size,.map #[] 0)::L,⟨[_],L,rfl,⟨#[],0,[],rfl,.nil⟩,hL⟩,hS.alloc _⟩
theorem ai.mapTake {c:dn α} {k:Int} {m:Nat} {es:List (Int × List α)} (ht:P.underlying t=some (.map kt u)) (hk:P.underlying kt=some (.int .i64)) (hz:∀w,(zeroValue u).run P w=.ok (.slice none 0 0) w) (hx:aP env x=gE b) (hy:aP env y=.int .i64 k)
  (hO:eR O m (jA c e b es) (BN c e b es k) O') (kk:∀i,ai P E ops K rest (bp env d (.own i (mg k es).length)) ((i,.grow c.k e (c.av (mg k es)))::O')) :
  ai P E ops K (Oper.mk (some d) (.lookup t x y false) ty pos af none::rest) env O:=fun I F ρ w h1 h2=>by
 obtain ⟨i,hi⟩:=h2.name
 obtain ⟨htop,L,hL,hS⟩:=h2
 have hx:=fA h1 hx
 have hy:=fz h1 hy
 obtain ⟨A,B,hp,⟨arr,clock,B0,rfl,hN⟩,hback⟩:=hO.rep hL
 have hS2:SL I.k ((b,.map arr clock)::(B0++(B++F))) E w:=hS.perm (by
  have:=hp.append_right F
  simpa using this.symm)
 have hb:=hS2.own _ (.head _)
 simp only at hb
 have hc:(Instr.checkKey arr.isEmpty 10000 kt (kv k)).run P w=.ok () w:=MapKept.run_checkKey (k:=kv k) hk (oa k) _ 9999
 rcases j5.get (k:=k) 0 hN with ⟨g1,g2,g3⟩|⟨j,e0,a,n1,cap,A1,B1,g1,g2,g3,g4,g5,g6⟩
 ·obtain ⟨J,e1,hle,e2,htop'⟩:=hi (none,0)
  refine qi Z ?_
  unfold dQ
  have hrun:(execOp (Go.Proofs.YthphijnnbfjikaaGreatDoor.ev ρ) (Oper.mk (some d) (.lookup t x y false) ty pos af none)).run P w=.ok (.value (.slice none 0 0)) w:=by
   simp only[kv] at hc g1
   simp[execOp,Instr.lookup,run_underlying ht,hx,hy,MapKept.run_getObj_map hb,hc,MapKept.run_findKey hk g1,hz,Result.andThen]
  rw[hrun]
  obtain ⟨L',h5,h6⟩:=hback hle (A':=(b,.map arr clock)::B0) ⟨arr,clock,B0,rfl,.inl ⟨g1,g3⟩⟩
  rw[g2] at kk
  refine yt (fun _ _=>qe hle) _ _ _ (kk i J F _ _ ((h1.mono hle).upd d ⟨none,0,e2,Z⟩) ⟨htop',L',⟨[],L',Z,⟨none,0,0,[],e2,Z,fun _ h=>(by cases h),dM.nil _ _⟩,h5⟩,?_⟩)
  rw[e1]
  refine hS2.perm<|(h6.append_right F).trans ?_
  simp
 ·obtain ⟨b1,rfl⟩:=g4.adr
  have hn:n1=(mg k es).length:=by have:=g4.1;rw[c.vs_len] at this;exact (Nat.eq_of_mul_eq_mul_right c.pos this).symm
  subst hn
  obtain ⟨J,e1,hle,e2,htop'⟩:=hi (b1,cap)
  rw[Nat.zero_add] at g1
  refine qi Z ?_
  unfold dQ
  have hrun:(execOp (Go.Proofs.YthphijnnbfjikaaGreatDoor.ev ρ) (Oper.mk (some d) (.lookup t x y false) ty pos af none)).run P w=.ok (.value (.slice (adr b1) (mg k es).length cap)) w:=by
   simp only[kv] at hc g1
   simp[execOp,Instr.lookup,run_underlying ht,hx,hy,MapKept.run_getObj_map hb,hc,MapKept.run_findKey hk g1,Result.andThen]
  rw[hrun]
  obtain ⟨L',h5,h6⟩:=hback hle (A':=(b,.map arr clock)::B1) ⟨arr,clock,B1,rfl,.inr ⟨j,_,e0,g1,g2,g3,g6⟩⟩
  refine yt (fun _ _=>qe hle) _ _ _ (kk i J F _ _ ((h1.mono hle).upd d ⟨b1,cap,e2,Z⟩) ⟨htop',A1++L',⟨A1,L',Z,⟨b1,cap,_,c.vs (mg k es),e2,by rw[c.av_eq];exact dA J _,c.vs_one _,g4⟩,h5⟩,?_⟩)
  rw[e1]
  refine hS2.perm<|List.Perm.trans ?_ (List.Perm.cons _ ((g5.append_right (B++F)).symm))
  have h7:(A1++L'++F).Perm (A1++((b,Obj.map arr clock)::(B1++B))++F):=(h6.append_left A1).append_right F
  refine h7.trans ?_
  simp only[ql,List.cons_append]
  exact List.perm_middle
theorem ai.mapPut {c:dn α} {k:Int} {m i n1 q:Nat} {es:List (Int × List α)} {r:List α} {cs:List AV} (ht:P.underlying t=some (.map kt u)) (hk:P.underlying kt=some (.int .i64)) (hx:aP env x=gE b) (hy:aP env y=.int .i64 k) (hz:aP env z=.own i n1)
  (hP0:cz O i (.grow q e cs) O') (hO:eR O' m (BN c e b es k) (jA c e b (ms k r es)) O'') (hq:q=c.k) (hcs:cs=c.av r) (hn1:r.length=n1) (kk:ai P E ops K rest env O'') :
  ai P E ops K (Oper.mk none (.mapUpdate t x y z) ty pos af none::rest) env O:=fun I F ρ w h1 h2=>by
 obtain ⟨htop,L,hL,hS⟩:=h2
 have hP:cz O i (.grow c.k e (c.av r)) O':=by subst hq hcs;exact hP0
 have hx:=fA h1 hx
 have hy:=fz h1 hy
 have h3:=h1.ev z
 rw[hz] at h3
 obtain ⟨b1,c1,e1,ez⟩:=h3
 obtain ⟨A,B,hp,⟨b1',c1',n',vs,e2,hvs,hvc,hown⟩,hB⟩:=hP.rep hL
 simp only at e2
 rw[e1] at e2
 simp only[Option.some.injEq,Prod.mk.injEq] at e2
 obtain ⟨rfl,rfl⟩:=e2
 have hv:=c.av_un hvs
 subst hv
 have hnn:n'=n1:=by have:=hown.1;rw[c.vs_len,hn1] at this;exact (Nat.eq_of_mul_eq_mul_right c.pos this).symm
 subst hnn
 obtain ⟨A2,B2,hp2,⟨arr,clock,B0,rfl,hole⟩,hback⟩:=hO.rep hB
 have hS2:SL I.k ((b,.map arr clock)::(A++(B0++(B2++F)))) E w:=hS.perm (by
  refine List.Perm.trans ?_ ((hp.append_right F).symm)
  refine List.Perm.trans ?_ (((hp2.append_left A).append_right F).symm)
  simp only[ql,List.cons_append]
  exact (List.perm_middle).symm)
 have hb:=hS2.own _ (.head _)
 simp only at hb
 have hc:(Instr.checkKey false 10000 kt (kv k)).run P w=.ok () w:=MapKept.run_checkKey (k:=kv k) hk (oa k) false 9999
 have fin:∀(arr':Array MapEntry) (clock':Nat) (L':List (Nat × Obj)),j5 c e (ms k r es) (BM arr') L'→L'.Perm (A++B0) →
   (execOp (Go.Proofs.YthphijnnbfjikaaGreatDoor.ev ρ) (Oper.mk none (.mapUpdate t x y z) ty pos af none)).run P w=.ok .skip { w with heap:=w.heap.setIfInBounds b (.map arr' clock') }→bx P ops (eS I F E K) (Oper.mk none (.mapUpdate t x y z) ty pos af none::rest) ρ w:=fun arr' clock' L' hM hpe hrun=>by
  refine qi Z ?_
  unfold dQ
  rw[hrun]
  obtain ⟨L2,h7,h8⟩:=hback (G.le.refl I) (A':=(b,.map arr' clock')::L') ⟨arr',clock',L',rfl,hM⟩
  have hh:=MapKept.heap_set (o':=.map arr' clock') hb
  have hS3:SL I.k ((b,.map arr' clock')::(A++(B0++(B2++F)))) E { w with heap:=w.heap.setIfInBounds b (.map arr' clock') }:=hS2.turn rfl rfl rfl hh.1 hh.2
  refine kk I F ρ _ h1 ⟨htop,L2,h7,hS3.perm ?_⟩
  refine (h8.append_right F).trans ?_
  simp only[List.cons_append,ql]
  refine List.Perm.cons _ ?_
  have:=hpe.append_right (B2++F)
  simpa [ql] using this
 rcases hole with ⟨g1,g3⟩|⟨j,v0,e0,g1,g2,g3,g6⟩
 ·obtain ⟨L',k1,k2⟩:=g3 r _ _ _ A hown
  refine fin (arr.push { key:=kv k,val:=.slice (adr b1) n' c1,born:=clock }) (clock+1) L' ?_ k2 ?_
  ·unfold BM;simpa using k1
  ·simp only[kv] at hc g1
   simp[execOp,hx,hy,ez,Instr.mapUpdate,run_underlying ht,MapKept.run_getObj_map hb,hc,MapKept.run_findKey hk g1,MapKept.run_setObj_map _ hb,Result.andThen,kv]
 ·obtain ⟨L',k1,k2⟩:=g6 r _ _ _ A hown
  have hj':arr[j]?=some e0:=by rw[←Array.getElem?_toList];exact g2
  refine fin (arr.modify j fun e=>{ e with key:=kv k,val:=.slice (adr b1) n' c1 }) clock L' ?_ k2 ?_
  ·have hjl:j<arr.toList.length:=(List.getElem?_eq_some_iff.1 g2).1
   have:(arr.modify j fun e=>{ e with key:=kv k,val:=.slice (adr b1) n' c1 }).toList=arr.toList.set j { e0 with key:=kv k,val:=.slice (adr b1) n' c1 }:=by
    apply List.ext_getElem?
    intro q
    rw[Array.getElem?_toList,Array.getElem?_modify]
    by_cases hq:j=q
    ·subst hq
     rw[if_pos rfl,hj',List.getElem?_set_self hjl];rfl
    ·rw[if_neg hq,List.getElem?_set_ne hq,Array.getElem?_toList]
   unfold BM
   rw[this,List.map_set];exact k1
  ·have hkeep:(Instr.keyThatStays (kv k) (kv k)).run P w=.ok (kv k) w:=MapKept.run_keyThatStays (oa k)
   simp only[kv] at hc g1 g3 hkeep
   simp[execOp,hx,hy,ez,Instr.mapUpdate,run_underlying ht,MapKept.run_getObj_map hb,hc,MapKept.run_findKey hk g1,MapKept.run_setObj_map _ hb,Result.andThen,hj',g3,hkeep,kv]
def ob (c:dn α) (I:G):List (Int × List α)→List (Value × Value)→Prop
 |[],hs=>hs=[]
 |(k,r)::es,hs=>∃v hs',hs=(kv k,v)::hs'∧br I (.fro c.k (r.map c.row)) v∧ob c I es hs'
theorem ob.mono {c:dn α} {I J:G} (h:I.le J):∀{es:List (Int × List α)} {hs:List (Value × Value)},ob c I es hs→ob c J es hs
 |[],_,e=>e
 |(_,_)::_,_,⟨v,hs',e,h1,h2⟩=>⟨v,hs',e,br.mono h _ _ h1,ob.mono h h2⟩
theorem j5.fro {c:dn α} {I:G} {e:TypeId} {es:List (Int × List α)} {hs:List (Value × Value)} {B:List (Nat × Obj)} (h:j5 c e es hs B) (hI:∀x∈B,I.k x.1=some x.2):ob c I es hs:=by
 induction h with
 |nil=>rfl
 |cons h1 _ ih=>exact ⟨_,_,rfl,h1.fro fun x hx=>hI x (List.mem_append_left _ hx),ih fun x hx=>hI x (List.mem_append_right _ hx)⟩
theorem ob.get {c:dn α} {I:G} {k:Int}:∀{l:List MapEntry} {es:List (Int × List α)} (i:Nat),ob c I es (l.map fun e=>(e.key,e.val)) →
  (Instr.findNow (.int .i64) (kv k) l i=some none∧mg k es=[])∨(∃j v,Instr.findNow (.int .i64) (kv k) l i=some (some (j,v))∧br I (.fro c.k ((mg k es).map c.row)) v)
 |[],[],i,_=>.inl ⟨rfl,rfl⟩
 |_::_,[],_,h=>by cases h
 |[],(_,_)::_,_,⟨_,_,e,_⟩=>by cases e
 |x::l,(k1,r)::es,i,⟨v,hs',e,h1,h2⟩=>by
  simp only[List.map_cons,List.cons.injEq,Prod.mk.injEq] at e
  obtain ⟨⟨hk,hv⟩,rfl⟩:=e
  by_cases e1:k=k1
  ·subst e1
   right
   refine ⟨i,v,?_,by simpa [mg] using h1⟩
   unfold Instr.findNow;rw[hk,rm,decide_eq_true rfl];simp[hv]
  ·have hf:Instr.findNow (.int .i64) (kv k) (x::l) i=Instr.findNow (.int .i64) (kv k) l (i+1):=by
    rw[Instr.findNow,hk,rm,decide_eq_false e1]
   rw[hf,show mg k ((k1,r)::es)=mg k es by simp[mg,e1]]
   exact ob.get (i+1) h2
def l6 (c:dn α) (b:Nat) (es:List (Int × List α)):bm:=.heapG (fun I L=>∃arr clock,L=[(b,.map arr clock)]∧ob c I es (BM arr)) fun I J L h hp=>by
 obtain ⟨arr,clock,h1,h2⟩:=hp;exact ⟨arr,clock,h1,h2.mono h⟩
theorem aN.mapKnow {c:dn α} {m:Nat} {es:List (Int × List α)} (hO:eR O m (jA c e b es) (l6 c b es) O'):aN E env O env O':=fun I F ρ w h1 h2=>by
 obtain ⟨htop,L,hL,hS⟩:=h2
 obtain ⟨A,B,hp,⟨arr,clock,B0,rfl,hN⟩,hback⟩:=hO.rep hL
 have hS2:SL I.k (B0++((b,.map arr clock)::(B++F))) E w:=hS.perm (by
  refine List.Perm.trans ?_ ((hp.append_right F).symm)
  simp only[List.cons_append,ql]
  exact List.perm_middle)
 obtain ⟨J,g1,g2,g3⟩:=SL.freezeAllN hS2
 have hle:I.le ⟨J,I.h⟩:=⟨g1,fun _ _ h=>h⟩
 obtain ⟨L',h5,h6⟩:=hback hle (A':=[(b,.map arr clock)]) ⟨arr,clock,rfl,hN.fro fun x hx=>g3 x hx⟩
 refine ⟨⟨J,I.h⟩,hle,h1.mono hle,htop,L',h5,g2.perm ?_⟩
 exact h6.append_right F
theorem Gv.lookupF {c:dn α} {k:Int} {m:Nat} {es:List (Int × List α)} (ht:P.underlying t=some (.map kt u)) (hk:P.underlying kt=some (.int .i64)) (hz:∀w,(zeroValue u).run P w=.ok (.slice none 0 0) w) (hx:aP env x=gE b) (hy:aP env y=.int .i64 k)
  (hO:o6 O m (l6 c b es)):Gv P env O (Oper.mk (some d) (.lookup t x y false) ty pos af none) (.fro c.k ((mg k es).map c.row)):=fun I L E ρ h1 hL=>by
 obtain ⟨O',hO⟩:=hO
 obtain ⟨A,B,hp,⟨arr,clock,rfl,hM⟩,_⟩:=hO.rep hL
 have hin0:(b,Obj.map arr clock)∈L:=hp.mem_iff.2 (by simp)
 have hx:=fA h1 hx
 have hy:=fz h1 hy
 rcases ob.get (k:=k) 0 hM with ⟨g1,g2⟩|⟨j,v,g1,g2⟩
 ·refine ⟨.slice none 0 0,by rw[g2];exact ⟨none,0,0,rfl,rfl,Nat.le_refl _,fun _=>rfl,trivial⟩,fun w J L' hl hS hin=>?_⟩
  have hb:=hS.own _ (hin _ hin0)
  simp only at hb
  have hc:(Instr.checkKey arr.isEmpty 10000 kt (kv k)).run P w=.ok () w:=MapKept.run_checkKey (k:=kv k) hk (oa k) _ 9999
  simp only[kv] at hc g1
  simp[execOp,Instr.lookup,run_underlying ht,hx,hy,MapKept.run_getObj_map hb,hc,MapKept.run_findKey hk g1,hz,Result.andThen]
 ·refine ⟨v,g2,fun w J L' hl hS hin=>?_⟩
  have hb:=hS.own _ (hin _ hin0)
  simp only at hb
  have hc:(Instr.checkKey arr.isEmpty 10000 kt (kv k)).run P w=.ok () w:=MapKept.run_checkKey (k:=kv k) hk (oa k) _ 9999
  simp only[kv] at hc g1
  simp[execOp,Instr.lookup,run_underlying ht,hx,hy,MapKept.run_getObj_map hb,hc,MapKept.run_findKey hk g1,Result.andThen]
end
end
section
def ky (h:aA × Bool) (n:Int) (fits:Bool) (e:Int):aA × Bool:=(aI h.1 (mz (if fits then n else e)),h.2||!fits)
def h4 (h:aA × Bool) (a b:aA) (n:Int→Int→Int) (fit:Int→Int→Bool) (e:Int→Int→Int):aA × Bool:=
 ky (ky (ky (ky h (n a.1 b.1) (fit a.1 b.1) (e a.1 b.1)) (n a.1 b.2) (fit a.1 b.2) (e a.1 b.2)) (n a.2 b.1) (fit a.2 b.1) (e a.2 b.1)) (n a.2 b.2) (fit a.2 b.2) (e a.2 b.2)
instance (k:Nat) (x y:Int):Decidable (dU k x y):=by unfold dU aK;infer_instance
instance (k:Nat) (a b:aA):Decidable (gC k a b):=by unfold gC;infer_instance
def oc (k:Nat) (a b:aA):aA × Bool:=h4 (bw,false) a b (pD k) (fun x y=>decide (dU k x y)) (j6 k)
theorem BO (k:Nat) (a b:aA):oc k a b=(fR k a b,!decide (gC k a b)):=by
 rw[←Dm]
 unfold oc h4 ky EI gC eZ
 simp only[Bool.false_or,qv]
 refine Prod.ext Z ?_
 dsimp only
 by_cases h1:dU k a.1 b.1<;>by_cases h2:dU k a.1 b.2<;>by_cases h3:dU k a.2 b.1<;>by_cases h4:dU k a.2 b.2<;>simp[h1,h2,h3,h4]
def lM (k:Nat) (a b:aA) (chk:Bool):aA:=if chk then (oc k a b).1 else if (oc k a b).2 then iW else (oc k a b).1
theorem wt (k:Nat) (a b:aA) (chk:Bool):lM k a b chk=lD k a b chk:=by
 unfold lM lD
 rw[BO]
 cases chk
 ·by_cases h:gC k a b<;>simp[h]
 ·simp
def eB (x y:Int):Bool:=decide (x≠dy)||decide (y≠-1)
def ld (a p:aA) (h:aA × Bool):aA × Bool:=if p.2<p.1 then h else h4 h a p Int.tdiv eB (fun _ _=>dz)
def pR (a b:aA):aA:=
 let h:=ld a (aR b (1,dz)) (ld a (aR b (dy,-1)) (bw,false))
 if h.2 then iW else h.1
theorem uV {lo hi:Int} (h:lo≤hi) (p q r s:Int):aI (aI (aI (aI (lo,hi) (mz p)) (mz q)) (mz r)) (mz s)=du (lo,hi) (du (de p q) (de r s)):=by
 obtain ⟨e1,g1⟩:=e8 h p
 obtain ⟨e2,g2⟩:=e8 g1 q
 obtain ⟨e3,g3⟩:=e8 g2 r
 obtain ⟨e4,_⟩:=e8 g3 s
 rw[e1,e2,e3,e4]
 unfold du de b5 bK
 refine Prod.ext ?_ ?_<;>dsimp only<;>(repeat' split)<;>(try dsimp only)<;>(repeat' split)<;>omega
theorem uW {h:aA × Bool} {a p:aA} (hf:eB a.1 p.1=true∧eB a.1 p.2=true∧eB a.2 p.1=true∧eB a.2 p.2=true) :
  h4 h a p Int.tdiv eB (fun _ _=>dz)=(aI (aI (aI (aI h.1 (mz (a.1.tdiv p.1))) (mz (a.1.tdiv p.2))) (mz (a.2.tdiv p.1))) (mz (a.2.tdiv p.2)),h.2):=by
 unfold h4 ky
 simp[hf.1,hf.2.1,hf.2.2.1,hf.2.2.2]
theorem BP {h:aA × Bool} {a p:aA} (n:Int→Int→Int) (fit:Int→Int→Bool) (e:Int→Int→Int) :
  (h4 h a p n fit e).2=(h.2||!(fit a.1 p.1&&fit a.1 p.2&&fit a.2 p.1&&fit a.2 p.2)):=by
 unfold h4 ky
 cases fit a.1 p.1<;>cases fit a.1 p.2<;>cases fit a.2 p.1<;>cases fit a.2 p.2<;>simp
theorem DL (a p:aA):(iC a p).1≤(iC a p).2:=by
 unfold iC du de
 (repeat' split)<;>(try dsimp only at *)<;>omega
theorem BQ {a b:aA} (ha:bb a) (hb:bb b) (na:a.1≤a.2) (nb:b.1≤b.2):pR a b=dV a b:=by
 obtain ⟨a1,a2⟩:=a
 obtain ⟨b1,b2⟩:=b
 have ha1:=ha.1;have ha2:=ha.2;have hb1:=hb.1;have hb2:=hb.2
 unfold aK at ha1 ha2 hb1 hb2
 dsimp only at ha1 ha2 hb1 hb2 na nb
 have hM:dz=9223372036854775807:=rfl
 have hm:dy=-9223372036854775808:=rfl
 have hneg:aR (b1,b2) (dy,-1)=if b1<0 then (b1,if -1<b2 then -1 else b2) else bw:=by
  unfold aR cG b5 bK
  dsimp only
  rw[hm]
  (repeat' split)<;>first|rfl|omega|(refine Prod.ext ?_ ?_<;>dsimp only<;>omega)
 have hpos:aR (b1,b2) (1,dz)=if 0<b2 then (if b1<1 then 1 else b1,b2) else bw:=by
  unfold aR cG b5 bK
  dsimp only
  rw[hM]
  (repeat' split)<;>first|rfl|omega|(refine Prod.ext ?_ ?_<;>dsimp only<;>omega)
 have hno:(bw).2<(bw).1:=by decide
 unfold pR
 rw[hneg,hpos]
 have fitPos:∀x y:Int,0<y→eB x y=true:=fun x y h=>by unfold eB;simp;right;omega
 have hposF:0<b2→(eB a1 (if b1<1 then 1 else b1)=true∧eB a1 b2=true∧eB a2 (if b1<1 then 1 else b1)=true∧eB a2 b2=true):=fun h=>
  ⟨fitPos _ _ (by split<;>omega),fitPos _ _ h,fitPos _ _ (by split<;>omega),fitPos _ _ h⟩
 by_cases cN:b1<0
 ·rw[if_pos cN]
  have hnp:¬((b1,if -1<b2 then -1 else b2):aA).2<((b1,if -1<b2 then -1 else b2):aA).1:=by dsimp only;split<;>omega
  rw[ld.eq_1 _ (b1,_),if_neg hnp]
  by_cases cW:a1=dy∧-1≤b2
  ·
   have hw:(h4 (bw,false) (a1,a2) (b1,if -1<b2 then -1 else b2) Int.tdiv eB (fun _ _=>dz)).2=true:=by
    rw[BP]
    have:eB a1 (if -1<b2 then -1 else b2)=false:=by unfold eB;simp;exact ⟨cW.1,by omega⟩
    dsimp only
    rw[this];simp
   have hw2:(ld (a1,a2) (if 0<b2 then (if b1<1 then 1 else b1,b2) else bw) (h4 (bw,false) (a1,a2) (b1,if -1<b2 then -1 else b2) Int.tdiv eB (fun _ _=>dz))).2=true:=by
    generalize (if 0<b2 then (if b1<1 then 1 else b1,b2) else bw:aA)=q
    generalize h4 (bw,false) (a1,a2) (b1,if -1<b2 then -1 else b2) Int.tdiv eB (fun _ _=>dz)=h at hw ⊢
    unfold ld
    by_cases c:q.2<q.1
    ·rw[if_pos c];exact hw
    ·rw[if_neg c,BP,hw];rfl
   dsimp only
   rw[if_pos hw2]
   unfold dV
   rw[if_pos ⟨cW.1,by dsimp only;omega,cW.2⟩];rfl
  ·have hF:eB a1 b1=true∧eB a1 (if -1<b2 then -1 else b2)=true∧eB a2 b1=true∧eB a2 (if -1<b2 then -1 else b2)=true:=by
    unfold eB
    simp only[ne_eq,Bool.or_eq_true,qv]
    refine ⟨?_,?_,?_,?_⟩<;>(try split)<;>omega
   have e1:=uW (h:=(bw,false)) (a:=(a1,a2)) (p:=(b1,if -1<b2 then -1 else b2)) hF
   dsimp only at e1
   rw[e1,AU]
   by_cases cP:0<b2
   ·rw[if_pos cP]
    have hpp:¬((if b1<1 then 1 else b1,b2):aA).2<((if b1<1 then 1 else b1,b2):aA).1:=by dsimp only;split<;>omega
    unfold ld
    rw[if_neg hpp]
    have e2:=uW (h:=(du (de (a1.tdiv b1) (a1.tdiv (if -1<b2 then -1 else b2))) (de (a2.tdiv b1) (a2.tdiv (if -1<b2 then -1 else b2))),false)) (a:=(a1,a2)) (p:=(if b1<1 then 1 else b1,b2)) (hposF cP)
    dsimp only at e2
    rw[e2]
    have ho:=DL (a1,a2) (b1,if -1<b2 then -1 else b2)
    unfold iC at ho
    dsimp only at ho ⊢
    rw[if_neg (by simp)]
    refine (uV ho _ _ _ _).trans ?_
    have hx:(if -1<b2 then -1 else b2)=-1:=if_pos (by omega)
    have hy:(if b1<1 then 1 else b1)=1:=if_pos (by omega)
    have hd:dV (a1,a2) (b1,b2)=du (iC (a1,a2) (b1,-1)) (iC (a1,a2) (1,b2)):=by
     unfold dV
     dsimp only
     rw[if_neg (by omega),if_neg (by omega),if_neg (by omega),if_neg (by omega)]
    rw[hx,hy,hd]
    rfl
   ·rw[if_neg cP]
    unfold ld
    rw[if_pos hno]
    dsimp only
    rw[if_neg (by simp)]
    have hx:(if -1<b2 then -1 else b2)=if b2=0 then -1 else b2:=by (repeat' split)<;>omega
    have hd:dV (a1,a2) (b1,b2)=iC (a1,a2) (b1,if b2=0 then -1 else b2):=by
     unfold dV
     dsimp only
     rw[if_neg (by omega),if_neg (by omega),if_neg (by omega),if_pos (by omega)]
    rw[hx,hd];rfl
 ·rw[if_neg cN]
  rw[ld.eq_1 _ bw,if_pos hno]
  by_cases cP:0<b2
  ·rw[if_pos cP]
   have hpp:¬((if b1<1 then 1 else b1,b2):aA).2<((if b1<1 then 1 else b1,b2):aA).1:=by dsimp only;split<;>omega
   unfold ld
   rw[if_neg hpp]
   have e2:=uW (h:=(bw,false)) (a:=(a1,a2)) (p:=(if b1<1 then 1 else b1,b2)) (hposF cP)
   dsimp only at e2 ⊢
   rw[e2,AU,if_neg (by simp)]
   have hy:(if b1<1 then 1 else b1)=if b1=0 then 1 else b1:=by (repeat' split)<;>omega
   have hd:dV (a1,a2) (b1,b2)=iC (a1,a2) (if b1=0 then 1 else b1,b2):=by
    unfold dV
    dsimp only
    rw[if_neg (by omega),if_neg (by omega),if_pos (by omega)]
   rw[hy,hd];rfl
  ·rw[if_neg cP]
   unfold ld
   rw[if_pos hno]
   have hd:dV (a1,a2) (b1,b2)=bw:=by
    unfold dV
    dsimp only
    rw[if_neg (by omega),if_pos (by omega)]
   rw[hd];rfl
def l7 (a b:aA):aA:=
 if b=(0,0) then bw else
  let k:=if 0<b.2 then bK (if b.1<0 then -(b.1+1) else 0) (b.2 - 1) else (if b.1<0 then -(b.1+1) else 0)
  (if a.1<0 then bK a.1 (-k) else 0,if 0<a.2 then b5 a.2 k else 0)
theorem BR {a b:aA} (nb:b.1≤b.2):l7 a b=qO a b:=by
 obtain ⟨b1,b2⟩:=b
 unfold l7 qO
 dsimp only at *
 by_cases h:b1=0∧b2=0
 ·rw[if_pos h,if_pos (by rw[h.1,h.2])]
 ·rw[if_neg h,if_neg (by intro e;cases e;exact h ⟨rfl,rfl⟩)]
  have:(if 0<b2 then bK (if b1<0 then -(b1+1) else 0) (b2 - 1) else (if b1<0 then -(b1+1) else 0))=Ax (b1,b2):=by
   unfold Ax bK;dsimp only;(repeat' split)<;>omega
  rw[this]
  refine Prod.ext ?_ ?_
  ·dsimp only;unfold bK;(repeat' split)<;>omega
  ·dsimp only;unfold b5;(repeat' split)<;>omega
def yV (always never:Bool):aA:=if always then (1,1) else if never then (0,0) else (0,1)
theorem rn {al ne no ye:Bool} (h1:no=!al) (h2:ye=!ne) (h:¬(al=true∧ne=true)):yV al ne=kZ no ye:=by
 subst h1 h2
 cases al<;>cases ne<;>simp_all[yV,kZ]
def gU (op:Int) (a b:aA):aA:=
 if a.2<a.1∨b.2<b.1 then bw else
 if op=7 then yV (decide (a.1=a.2)&&decide (a=b)) (decide ((aR a b).2<(aR a b).1)) else
 if op=8 then yV (decide (a.2<b.1)) (decide (b.2≤a.1)) else
 if op=9 then yV (decide (a.2≤b.1)) (decide (b.2<a.1)) else (0,1)
theorem Fu {a b:aA} (na:a.1≤a.2) (nb:b.1≤b.2):gU 7 a b=HW a b:=by
 unfold gU
 rw[if_neg (by omega),if_pos rfl]
 refine rn Z Z ?_
 rintro ⟨h1,h2⟩
 simp only[qu,qv,qP] at h1 h2
 obtain ⟨h1,rfl⟩:=h1
 unfold b5 bK at h2
 (repeat' split at h2)<;>omega
theorem Fv {a b:aA} (na:a.1≤a.2) (nb:b.1≤b.2):gU 8 a b=GA a b:=by
 unfold gU
 rw[if_neg (by omega),if_neg (by decide),if_pos rfl]
 refine rn (by rw[←decide_not];exact decide_eq_decide.2 (by omega)) (by rw[←decide_not];exact decide_eq_decide.2 (by omega)) ?_
 simp only[qv];omega
theorem Fw {a b:aA} (na:a.1≤a.2) (nb:b.1≤b.2):gU 9 a b=HX a b:=by
 unfold gU
 rw[if_neg (by omega),if_neg (by decide),if_neg (by decide),if_pos rfl]
 refine rn (by rw[←decide_not];exact decide_eq_decide.2 (by omega)) (by rw[←decide_not];exact decide_eq_decide.2 (by omega)) ?_
 simp only[qv];omega
theorem DM {a:aA} (na:a.1≤a.2) (h0:0≤a.1) (h1:a.2≤1):((1 - a.2,1 - a.1):aA)=A6 a:=by
 unfold A6 kZ
 refine Prod.ext ?_ ?_<;>simp only[qv]<;>split<;>omega
theorem DN {a b:aA} (na:a.1≤a.2) (nb:b.1≤b.2) (h0:0≤a.1) (h1:a.2≤1) (g0:0≤b.1) (g1:b.2≤1):((b5 a.1 b.1,b5 a.2 b.2):aA)=A7 a b:=by
 unfold A7 kZ b5
 refine Prod.ext ?_ ?_<;>simp only[Bool.or_eq_true,qu,qv]<;>(repeat' split)<;>omega
def uX (num:Int) (a b:aA):aA:=
 if a.2<a.1∨b.2<b.1 then bw else
 if num=0 then (if b.2=dy then bw else cG a.1 (b5 a.2 (b.2 - 1))) else
 if num=1 then cG a.1 (b5 a.2 b.2) else
 if num=2 then aR a b else
 if num=3 then cG (bK a.1 b.1) a.2 else
 if num=4 then (if b.1=dz then bw else cG (bK a.1 (b.1+1)) a.2) else a
theorem wu {num:Int} {a b:aA} (ha:bb a) (na:a.1≤a.2) (nb:b.1≤b.2):uX num a b=nJ num a b:=by
 have h1:=ha.1;have h2:=ha.2
 unfold aK at h1 h2
 have e1:bK a.1 dy=a.1:=by unfold bK dy;split<;>omega
 have e2:b5 a.2 dz=a.2:=by unfold b5 dz;split<;>omega
 unfold uX nJ aR
 rw[if_neg (by omega)]
 dsimp only
 rw[e1,e2]
end
section
open Go.Proofs
theorem eH {z:Int} (h:aK z):IntKind.i64.wrap z=z:=by
 unfold aK at h
 unfold IntKind.wrap;simp[IntKind.bits,IntKind.signed];omega
def cX (a:aA) (i:Nat):Int:=if i=0 then a.1 else a.2
theorem uY {a:aA} (h:bb a) (i:Nat):aK (cX a i):=by unfold cX;split;exact h.1;exact h.2
theorem m1 {a:aA} {i:Nat} (h:i<2):([AV.int .i64 a.1,AV.int .i64 a.2]:List AV)[i]?=some (.int .i64 (cX a i)):=by
 rcases (by omega:i=0∨i=1) with rfl|rfl<;>rfl
def GB (n:Int→Int→Int) (fit:Int→Int→Bool) (e:Int→Int→Int) (h0:aA × Bool) (a b:aA):Nat→aA × Bool
 |0=>h0
 |m+1=>ky (GB n fit e h0 a b m) (n (cX a (m / 2)) (cX b (m % 2))) (fit (cX a (m / 2)) (cX b (m % 2))) (e (cX a (m / 2)) (cX b (m % 2)))
theorem sX {n:Int→Int→Int} {fit:Int→Int→Bool} {e:Int→Int→Int} {h0:aA × Bool} {a b:aA} (i:Nat) {j:Nat} (hj:j<2) :
  GB n fit e h0 a b (2*i+(j+1))=ky (GB n fit e h0 a b (2*i+j)) (n (cX a i) (cX b j)) (fit (cX a i) (cX b j)) (e (cX a i) (cX b j)):=by
 rw[←Nat.add_assoc,GB,show (2*i+j) / 2=i by omega,show (2*i+j) % 2=j by omega]
theorem jB {h:aA × Bool} {n n':Int} {fits:Bool} {e e':Int} (h1:fits=true→n=n') (h2:e=e'):ky h n fits e=ky h n' fits e':=by
 cases fits
 ·unfold ky;simp[h2]
 ·rw[h1 rfl,h2]
theorem DO {x y:Int}:decide (dU 0 x y)=true→IntKind.i64.wrap (x+y)=pD 0 x y:=fun h=>eH (of_decide_eq_true h)
theorem DP {x y:Int}:decide (dU 1 x y)=true→IntKind.i64.wrap (x - y)=pD 1 x y:=fun h=>eH (of_decide_eq_true h)
theorem BS {x y:Int}:decide (dU 2 x y)=true→IntKind.i64.wrap (x*y)=pD 2 x y:=fun h=>eH (of_decide_eq_true h)
theorem Ia {x y:Int} (hx:aK x) (hy:aK y):(!(decide (x<0) == decide (y<0))||(decide (IntKind.i64.wrap (x+y)<0) == decide (x<0)))=decide (dU 0 x y):=by
 have hw:IntKind.i64.wrap (x+y)=(if x+y < -9223372036854775808 then x+y+18446744073709551616 else if 9223372036854775807<x+y then x+y - 18446744073709551616 else x+y):=by
  unfold aK at hx hy
  unfold IntKind.wrap;simp[IntKind.bits,IntKind.signed];(repeat' split)<;>omega
 rw[hw,Bool.eq_iff_iff,qv]
 show _↔aK (x+y)
 unfold aK at *
 simp only[Bool.or_eq_true,Bool.not_eq_true',beq_eq_false_iff_ne,beq_iff_eq,decide_eq_decide,ne_eq]
 (repeat' split)<;>omega
theorem Ib {x y:Int} (hx:aK x) (hy:aK y):((decide (x<0) == decide (y<0))||(decide (IntKind.i64.wrap (x - y)<0) == decide (x<0)))=decide (dU 1 x y):=by
 have hw:IntKind.i64.wrap (x - y)=(if x - y < -9223372036854775808 then x - y+18446744073709551616 else if 9223372036854775807<x - y then x - y - 18446744073709551616 else x - y):=by
  unfold aK at hx hy
  unfold IntKind.wrap;simp[IntKind.bits,IntKind.signed];(repeat' split)<;>omega
 rw[hw,Bool.eq_iff_iff,qv]
 show _↔aK (x - y)
 unfold aK at *
 simp only[Bool.or_eq_true,beq_iff_eq,decide_eq_decide]
 (repeat' split)<;>omega
theorem BT {x:Int} (h:aK x):(if x<0 then IntKind.u64.wrap (0 - IntKind.u64.wrap x) else IntKind.u64.wrap x)=((x.natAbs:Nat):Int):=by
 unfold aK at h
 unfold IntKind.wrap;simp[IntKind.bits,IntKind.signed];split<;>omega
theorem BU {x:Int} (h:aK x):x.natAbs<18446744073709551616:=by unfold aK at h;omega
theorem Ic {x y:Int}:(decide (((x.natAbs*y.natAbs / 18446744073709551616:Nat):Int)=0)&&decide (((x.natAbs*y.natAbs % 18446744073709551616:Nat):Int)≤(if (!(decide (x<0) == decide (y<0)))=true then 9223372036854775808 else 9223372036854775807)))=decide (dU 2 x y):=by
 have hm:=Int.natAbs_mul x y
 rw[Bool.eq_iff_iff,qv (p:=dU 2 x y)]
 show _↔aK (x*y)
 unfold aK
 rw[←hm]
 have hs:(x<0↔y<0)→0≤x*y:=fun h=>by
  by_cases hx:x<0
  ·exact Int.le_of_lt (Int.mul_pos_of_neg_of_neg hx (h.1 hx))
  ·exact Int.mul_nonneg (by omega) (by have:=mt h.2 hx;omega)
 have hd:¬(x<0↔y<0)→x*y≤0:=fun h=>by
  by_cases hx:x<0
  ·have hy:¬y<0:=fun hy=>h ⟨fun _=>hy,fun _=>hx⟩
   exact Int.mul_nonpos_of_nonpos_of_nonneg (by omega) (by omega)
  ·have hy:y<0:=Classical.byContradiction fun hy=>h ⟨fun h=>absurd h hx,fun h=>absurd h hy⟩
   exact Int.mul_nonpos_of_nonneg_of_nonpos (by omega) (by omega)
 generalize x*y=z at *
 simp only[qu,qv,Bool.not_eq_true',beq_eq_false_iff_ne,decide_eq_decide,ne_eq]
 by_cases c:(x<0↔y<0)
 ·have:=hs c
  rw[if_neg (by simp[c])];omega
 ·have:=hd c
  rw[if_pos c];omega
theorem Fx (x y:Int):(if decide (x<0)=true then dy else dz)=j6 0 x y:=rfl
theorem Fy (x y:Int):(if decide (x<0)=true then dy else dz)=j6 1 x y:=rfl
theorem Fz (x y:Int):(if (!(decide (x<0) == decide (y<0)))=true then dy else dz)=j6 2 x y:=rfl
theorem wv {x y:Int} (hx:aK x) (hy:y≠0) (h:eB x y=true):IntKind.i64.wrap (x.tdiv y)=x.tdiv y:=by
 refine eH ?_
 have h1:(x.tdiv y).natAbs=x.natAbs / y.natAbs:=Int.natAbs_tdiv x y
 have h2:x.natAbs / y.natAbs≤x.natAbs:=Nat.div_le_self _ _
 unfold aK at *
 by_cases e:x=-9223372036854775808
 ·subst e
  have hy1:y≠-1:=by unfold eB dy at h;simpa using h
  by_cases h3:y=1
  ·subst h3;rw[Int.tdiv_one];omega
  ·have h4:2≤y.natAbs:=by omega
   have h5:(-9223372036854775808:Int).natAbs / y.natAbs≤(-9223372036854775808:Int).natAbs / 2:=Nat.div_le_div_left h4 (by omega)
   have h6:(-9223372036854775808:Int).natAbs / 2=4611686018427387904:=by decide
   omega
 ·omega
def l8 (b:aA) (q:Nat):aA:=if q=0 then aR b (dy,-1) else aR b (1,dz)
def o9 (a b:aA):Nat→aA × Bool
 |0=>(bw,false)
 |q+1=>ld a (l8 b q) (o9 a b q)
theorem BV (a b:aA):pR a b=if (o9 a b 2).2 then iW else (o9 a b 2).1:=rfl
theorem DQ {b:aA} {q j:Nat} (h:¬(l8 b q).2<(l8 b q).1):cX (l8 b q) j≠0:=by
 unfold l8 at *
 unfold cX
 split at h
 ·rename_i hq
  rw[if_pos hq]
  unfold aR cG b5 bK bw at *
  dsimp only at *
  (repeat' split at h)<;>(repeat' split)<;>(try dsimp only at *)<;>omega
 ·rename_i hq
  rw[if_neg hq]
  unfold aR cG b5 bK bw at *
  dsimp only at *
  (repeat' split at h)<;>(repeat' split)<;>(try dsimp only at *)<;>omega
def bk (r:aA):List AV:=[.int .i64 r.1,.int .i64 r.2]
def rp (h:aA × Bool):List AV:=[.int .i64 h.1.1,.int .i64 h.1.2,.bool h.2]
theorem DR {r:aA} {x y:Int} (h1:x=r.1) (h2:y=r.2):AV.agg [.int .i64 x,.int .i64 y]=AV.agg (bk r):=by subst h1 h2;rfl
theorem BW {b:aA} {q:Nat} (h:q<2):((bk (aR b (dy,-1))++bk (aR b (1,dz))).drop (q*2)).take 2=bk (l8 b q):=by
 rcases (by omega:q=0∨q=1) with rfl|rfl<;>rfl
end
section
open Go.Proofs
end
section
open Go.Proofs
def lC (l:List aA):List AV:=eP.av l
theorem rq (l:List aA):(lC l).length=l.length*2:=eP.av_len l
theorem ww (l:List aA) (r:aA):lC l++bk r=lC (l++[r]):=eP.av_push l r
theorem m2 (r:aA) (l:List aA):lC (r::l)=.int .i64 r.1::.int .i64 r.2::lC l:=rfl
theorem rt:∀(l:List aA) (j:Nat),(lC l).drop (j*2)=lC (l.drop j)
 |l,0=>by simp
 |[],j+1=>by simp[lC,dn.av]
 |r::l,j+1=>by
  rw[show (j+1)*2=j*2+1+1 by omega,m2,List.drop_succ_cons,List.drop_succ_cons,rt l j,List.drop_succ_cons]
theorem FA {l:List aA} {j:Nat} {r:aA} (h:l[j]?=some r):(lC l).drop (j*2)=.int .i64 r.1::.int .i64 r.2::lC (l.drop (j+1)):=by
 obtain ⟨hj,e⟩:=List.getElem?_eq_some_iff.1 h
 rw[rt,List.drop_eq_getElem_cons hj,e,m2]
theorem wx:∀(l:List aA) (j:Nat),(lC l).take (j*2)=lC (l.take j)
 |l,0=>by simp[lC,dn.av]
 |[],j+1=>by simp[lC,dn.av]
 |r::l,j+1=>by
  rw[show (j+1)*2=j*2+1+1 by omega,m2,List.take_succ_cons,List.take_succ_cons,wx l j,List.take_succ_cons,m2]
theorem FB {l:List aA} {j:Nat} (h:j<l.length) (r:aA):(lC l).take (j*2)++bk r++(lC l).drop (j*2+2)=lC (l.set j r):=by
 rw[show j*2+2=(j+1)*2 by omega,wx,rt,ww,List.set_eq_take_append_cons_drop,if_pos h]
 unfold lC
 rw[eP.av_app];simp
theorem ER {l:List aA} {j:Nat} (h:j<l.length):lC l≠[]:=fun e=>by have:=rq l;rw[e] at this;simp at this;omega
section
variable {E:World} {P:Program} {ops:Array Oper} {K:aH→OL→Prop} {env:aH} {O O' O'':OL} {rest:List Oper} {n:Nat}
variable {d ty:Nat} {pos:String} {af:Array Edge} {x y z:Operand} {t u e T:TypeId}
theorem Gv.idxR {i n j:Nat} {a:Int} {T:TypeId} {l:List aA} (ht:P.underlying t=some (.slice e)) (hs:∀w,(sizeOf e).run P w=.ok 2 w) (hx:aP env x=.own i n) (hy:aP env y=.int .i64 a) (hi:a=(j:Int)) (hO:o6 O i (.grow 2 T (lC l))) (hn:l.length=n) (hj:j<n) :
  Gv P env O (Oper.mk (some d) (.indexAddr t x y) ty pos af none) (.po i (j*2)):=Gv.idxO ht hs hx hy hi hO (ER (j:=j) (by omega)) hj
theorem Gv.loadR {i j:Nat} {T:TypeId} {l:List aA} {r:aA} (ha:∀w,(isAgg t).run P w=.ok true w) (hs:∀w,(sizeOf t).run P w=.ok 2 w) (hx:aP env x=.po i (j*2)) (hO:o6 O i (.grow 2 T (lC l))) (hv:l[j]?=some r) :
  Gv P env O (Oper.mk (some d) (.load t x) ty pos af none) (.agg (bk r)):=by
 have hj:=(List.getElem?_eq_some_iff.1 hv).1
 exact Gv.loadAG ha hs hx hO (ER hj) (by rw[rq];omega) (by rw[FA hv];rfl)
theorem ai.storeR {i j:Nat} {T:TypeId} {l:List aA} {r:aA} (hs:∀w,(sizeOf t).run P w=.ok 2 w) (hx:aP env x=.po i (j*2)) (hy:aP env y=.agg (bk r)) (hO:eR O i (.grow 2 T (lC l)) (.grow 2 T (lC (l.set j r))) O') (hb:j<l.length)
  (kk:ai P E ops K rest env O'):ai P E ops K (Oper.mk none (.store t x y) ty pos af none::rest) env O:=
 ai.storeG hs hx hy rfl rfl rfl rfl hO (by rw[rq];omega) (by decide) (FB hb r) kk
theorem aN.knowR {t i m:Nat} {T:TypeId} {l:List aA} (hv:env t=.own i m) (hO:cz O i (.grow 2 T (lC l)) O') (hm:l.length=m):aN E env O (bp env t (.fro 2 (l.map bk))) O':=
 aN.know hv (rows:=l.map bk) (by
  have:(l.map bk).flatten=lC l:=by unfold lC dn.av;rw[List.flatMap];rfl
  rw[this];exact hO) (fun r hr=>by obtain ⟨_,_,rfl⟩:=List.mem_map.1 hr;rfl) (by decide) (by rw[qq];exact hm)
end
def ru:bm:=.heap fun L=>L=[]
theorem aU.ofEmpty {P:Program} {E:World} {f:FuncId} {args:List AV} {x:AV} {i:Nat} (h:aU P E f args [(i,ru)] fun r O=>r=x∧O=[(i,ru)]):aF P E f args x:=fun I F w vs h1 ⟨ht,L,hL,hS⟩=>
 (h I F w vs h1 ⟨ht,L,⟨[],L,rfl,rfl,hL⟩,hS⟩).mono fun _ _ ⟨J,y,O',a,b,c,d⟩=>⟨J,y,O',a,b,c,d.1⟩
end
section
open Go.Proofs
theorem BX {α:Type} [Inhabited α] (c:dn α):∀(l:List α) (t:Nat),t<l.length*c.k→(c.vs l)[t]?=some (c.val l[t / c.k]!)[t % c.k]!
 |[],t,h=>by simp at h
 |x::l,t,h=>by
  have e:c.vs (x::l)=c.val x++c.vs l:=by unfold dn.vs;rw[List.flatMap_cons]
  rw[e]
  by_cases ht:t<c.k
  ·rw[List.getElem?_append_left (by rw[c.len];exact ht),Nat.div_eq_of_lt ht,Nat.mod_eq_of_lt ht,List.getElem!_cons_zero,qj (by rw[c.len];exact ht),getElem!_pos (c.val x) t (by rw[c.len];exact ht)]
  ·obtain ⟨s,rfl⟩:∃s,t=s+c.k:=⟨t - c.k,by omega⟩
   rw[List.getElem?_append_right (by rw[c.len];omega),c.len,Nat.add_sub_cancel,Nat.add_div_right _ c.pos,Nat.add_mod_right,List.getElem!_cons_succ]
   exact BX c l s (by rw[List.length_cons,Nat.add_mul,Nat.one_mul] at h;omega)
theorem jC (zl:List Value) (m:Nat) (h0:0<zl.length) (h1:∀u∈zl,u.oneCell'=true):madeCells zl.toArray (m*zl.length)=(List.replicate m zl).flatten.toArray:=by
 let c:dn Unit:=⟨zl.length,fun _=>zl,h0,fun _=>rfl,fun _=>h1⟩
 have e:(List.replicate m zl).flatten=c.vs (List.replicate m ()):=by
  show _=(List.replicate m ()).flatMap fun _=>zl
  rw[List.flatMap,List.map_replicate]
 rw[e]
 apply Array.ext_getElem?
 intro t
 have e3:(c.vs (List.replicate m ())).toArray[t]?=(c.vs (List.replicate m ()))[t]?:=List.getElem?_toArray
 rw[e3]
 by_cases ht:t<m*zl.length
 ·rw[BX c _ t (by rw[List.length_replicate];exact ht)]
  unfold madeCells
  rw[Array.getElem?_map,Array.getElem?_range,if_pos ht]
  show some (zl.toArray[t % zl.toArray.size]!)=some (zl[t % zl.length]!)
  simp
 ·rw[Array.getElem?_eq_none (by rw[size_madeCells];omega),List.getElem?_eq_none (by rw[c.vs_len,List.length_replicate];show m*zl.length≤t;omega)]
section
variable {E:World} {P:Program} {ops:Array Oper} {K:aH→OL→Prop} {env:aH} {O:OL} {rest:List Oper} {d ty:Nat} {pos:String} {af:Array Edge} {x y:Operand} {t e:TypeId}
end
end
section
def oW {α β:Type} (f:α→Option β):List α→Option (List β)
 |[]=>some []
 |x::l=>match f x,oW f l with
  |some y,some m=>some (y::m)
  |_,_=>none
theorem jW {φ:b7} {α:Type} {f:α→Option EV} {g:α→Value} (h:∀x a,f x=some a→aS φ a (g x)):∀(l:List α) (m:List EV),oW f l=some m→RelVs φ m (l.map g)
 |[],m,e=>by cases e;rfl
 |x::l,m,e=>by
  unfold oW at e
  split at e
  ·rename_i y m' h1 h2
   cases e
   exact ⟨_,_,rfl,h x y h1,jW h l m' h2⟩
  ·cases e
def yW:Nat→Value→Option EV
 |0,_=>none
 |n+1,v=>match v with
  |.bool b=>some (.b b)
  |.int k i=>some (.i k i)
  |.string s=>some (.s s)
  |.pointer none=>some .np
  |.slice none 0 0=>some .ns
  |.map none=>some .nm
  |.nilFunc=>some .nf
  |.nilIface=>some .ni
  |.agg cs=>(oW (yW n) cs.toList).map EV.ag
  |_=>none
theorem m3 {φ:b7}:∀(n:Nat) (v:Value) (a:EV),yW n v=some a→aS φ a v
 |0,_,_,h=>by cases h
 |n+1,v,a,h=>by
  unfold yW at h
  split at h
  case h_9 cs=>
   obtain ⟨m,hm,rfl⟩:=Option.map_eq_some_iff.1 h
   have:=jW (φ:=φ) (g:=id) (m3 n) cs.toList m hm
   exact ⟨cs.toList,by simp,by simpa using this⟩
  all_goals first|(cases h;rfl)|cases h
noncomputable def bR (g:Nat→EV):Operand→Option EV
 |.tmp t=>some (g t)
 |.const v=>yW 5 v
 |.func f=>some (.fn f [] [])
 |.global _=>none
section
variable {φ:b7} {g:Nat→EV} {ρ:bG}
theorem aG (hg:eA φ g ρ) {x:Operand} {a:EV} (h:bR g x=some a):aS φ a (ev ρ x):=by
 cases x<;>simp only[bR] at h
 ·cases h;exact hg _
 ·exact m3 _ _ _ h
 ·cases h
 ·cases h;exact ⟨[],[],rfl,rfl,rfl⟩
theorem m4 (hg:eA φ g ρ) {l:List Operand} {m:List EV} (h:oW (bR g) l=some m):RelVs φ m (l.map (ev ρ)):=jW (fun _ _=>aG hg) l m h
end
noncomputable def sY (g:Nat→EV):Option Operand→Option (Option Nat)
 |none=>some none
 |some x=>match bR g x with
  |some (.i _ n)=>(je n).map some
  |_=>none
theorem rv {φ:b7} {g:Nat→EV} {ρ:bG} (hg:eA φ g ρ) {x:Option Operand} {n:Option Nat} (h:sY g x=some n):uT (x.map (ev ρ)) n:=by
 cases x with
 |none=>cases h;trivial
 |some x=>
  unfold sY at h
  dsimp only at h
  split at h
  ·rename_i k i hx
   obtain ⟨j,hj,rfl⟩:=Option.map_eq_some_iff.1 h
   have:=aG hg hx
   exact ⟨k,by rw[show ev ρ x=.int k i from this,fW hj]⟩
  ·cases h
noncomputable def lN (T:TT):Nat→TypeId→EV→EV→Option Bool
 |0,_,_,_=>none
 |n+1,t,x,y=>match T t with
  |some i=>match i.d,x,y with
   |.bool,.b a,.b c=>some (a == c)
   |.int _,.i k a,.i k' c=>if k=k' then some (a == c) else none
   |.string,.s a,.s c=>some (rg a c)
   |.array len e,.ag xs,.ag ys=>match T e with
    |some ie=>(oW (fun j=>match dG T e xs (j*ie.size),dG T e ys (j*ie.size) with
     |some a,some c=>lN T n e a c
     |_,_=>none) (List.range len)).map fun l=>l.all id
    |none=>none
   |.struct fs,.ag xs,.ag ys=>bif i.q then (oW (fun f:Field=>match dG T f.type xs f.offset,dG T f.type ys f.offset with
     |some a,some c=>lN T n f.type a c
     |_,_=>none) fs.toList).map fun l=>l.all id
    else none
   |_,_,_=>none
  |none=>none
theorem lO {P:Program} {α:Type} {body:α→Option Bool × Unit→Sem (ForInStep (Option Bool × Unit))} {w:World}:∀(l:List α) (bs:List Bool),bs.length=l.length →
  (∀(j:Nat) (i:α) b,l[j]?=some i→bs[j]?=some b→(body i (none,())).run P w=.ok (if b=true then .yield (none,()) else .done (some false,())) w) →
  (forIn l ((none,()):Option Bool × Unit) body).run P w=.ok (if bs.all id=true then (none,()) else (some false,())) w
 |[],bs,hl,_=>by
  have:bs=[]:=List.eq_nil_of_length_eq_zero hl
  subst this
  rfl
 |i::l,[],hl,_=>by cases hl
 |i::l,b::bs,hl,h=>by
  rw[List.forIn_cons,Sem.run_bind,h 0 i b rfl rfl]
  cases b with
  |true=>
   simp only[if_pos,Result.andThen_ok]
   rw[lO l bs (by simpa using hl) fun j i' b' h1 h2=>h (j+1) i' b' h1 h2]
   simp
  |false=>simp
theorem jX {P:Program} {φ:b7} {T:TT} (hT:cJ P T) {w:World}:∀(n:Nat) (t:TypeId) (x y:EV) (a c:Value) (b:Bool),lN T n t x y=some b→aS φ x a→aS φ y c→∀d,n≤d→(Op.equalIn d t a c).run P w=.ok b w
 |0,_,_,_,_,_,_,h,_,_,_,_=>by cases h
 |n+1,t,x,y,a,c,b,h,hx,hy,d,hd=>by
  obtain ⟨d,rfl⟩:∃d',d=d'+1:=⟨d - 1,by omega⟩
  unfold lN at h
  split at h
  ·rename_i i hi
   have hu:=(hT t i hi).und
   split at h
   ·rename_i a' c' hdd
    rw[hdd] at hu
    have hx:a=.bool a':=hx
    have hy:c=.bool c':=hy
    cases h;subst hx hy
    simp[Op.equalIn,run_underlying hu]
   ·rename_i k0 k a' k' c' hdd
    rw[hdd] at hu
    have hx:a=.int k a':=hx
    have hy:c=.int k' c':=hy
    subst hx hy
    split at h
    ·rename_i e
     subst e
     cases h
     simp[Op.equalIn,run_underlying hu]
    ·cases h
   ·rename_i a' c' hdd
    rw[hdd] at hu
    have hx:a=.string a':=hx
    have hy:c=.string c':=hy
    cases h;subst hx hy
    have e:(a' == c')=decide (a'=c'):=by
     cases hb:(a' == c') with
     |true=>rw[decide_eq_true ((MapKept.bytes_beq a' c').1 hb)]
     |false=>rw[decide_eq_false fun q=>by rw[(MapKept.bytes_beq a' c').2 q] at hb;cases hb]
    rw[jU,←e]
    simp[Op.equalIn,run_underlying hu]
   ·rename_i len e xs ys hdd
    rw[hdd] at hu
    obtain ⟨vs,rfl,hv⟩:=hx
    obtain ⟨us,rfl,hu2⟩:=hy
    split at h
    ·rename_i ie hie
     have hTe:=hT e ie hie
     obtain ⟨bs,hbs,rfl⟩:=Option.map_eq_some_iff.1 h
     have hget:∀(l:List Nat) (bs:List Bool),oW (fun j=>match dG T e xs (j*ie.size),dG T e ys (j*ie.size) with
       |some a,some c=>lN T n e a c
       |_,_=>none) l=some bs→bs.length=l.length∧∀(j i:Nat) b,l[j]?=some i→bs[j]?=some b→∃p q,dG T e xs (i*ie.size)=some p∧dG T e ys (i*ie.size)=some q∧lN T n e p q=some b:=by
      intro l
      induction l with
      |nil=>intro bs hb;cases hb;exact ⟨rfl,fun j i b h=>by simp at h⟩
      |cons i0 l ih=>
       intro bs hb
       unfold oW at hb
       split at hb
       ·rename_i y m h1 h2
        cases hb
        obtain ⟨g1,g2⟩:=ih m h2
        refine ⟨by simp[g1],fun j i b h3 h4=>?_⟩
        cases j with
        |zero=>
         simp only[List.getElem?_cons_zero,Option.some.injEq] at h3 h4
         subst h3 h4
         split at h1
         ·rename_i p q e1 e2;exact ⟨p,q,e1,e2,h1⟩
         ·cases h1
        |succ j=>simp only[List.getElem?_cons_succ] at h3 h4;exact g2 j i b h3 h4
       ·cases hb
     obtain ⟨g1,g2⟩:=hget _ _ hbs
     rw[Op.equalIn]
     simp only[Sem.run_bind,run_underlying hu,Result.andThen_ok,hTe.sz]
     rw[Std.Legacy.Range.forIn_eq_forIn_range']
     have hr:List.range' 0 (Std.Legacy.Range.size [:len]) 1=List.range len:=by
      simp[Std.Legacy.Range.size,List.range_eq_range']
     rw[show List.range' ([:len]:Std.Legacy.Range).start ([:len]:Std.Legacy.Range).size ([:len]:Std.Legacy.Range).step=List.range len from hr]
     rw[lO (List.range len) bs g1 fun j i b h1 h2=>by
      obtain ⟨p,q,e1,e2,e3⟩:=g2 j i b h1 h2
      obtain ⟨v1,k1,k2⟩:=e9 (w:=w) hT e1 hv
      obtain ⟨v2,k3,k4⟩:=e9 (w:=w) hT e2 hu2
      have k5:=jX (w:=w) hT n e p q v1 v2 b e3 k2 k4 d (by omega)
      simp only[Sem.run_bind,k1,k3,k5,Result.andThen_ok]
      cases b<;>rfl]
     cases hall:bs.all id<;>simp
    ·cases h
   ·rename_i fs xs ys hdd
    have hq:=(hT t i hi).qd
    rw[hdd] at hu
    obtain ⟨vs,rfl,hv⟩:=hx
    obtain ⟨us,rfl,hu2⟩:=hy
    cases hqq:i.q with
    |false=>rw[hqq] at h;cases h
    |true=>
     rw[hqq] at h
     simp only[cond_true] at h
     obtain ⟨hs1,hs2⟩:=hq hqq
     have hs2:=hs2 fs hdd
     obtain ⟨bs,hbs,rfl⟩:=Option.map_eq_some_iff.1 h
     have hget:∀(l:List Field) (bs:List Bool),oW (fun f:Field=>match dG T f.type xs f.offset,dG T f.type ys f.offset with
       |some a,some c=>lN T n f.type a c
       |_,_=>none) l=some bs→bs.length=l.length∧∀(j:Nat) (f:Field) b,l[j]?=some f→bs[j]?=some b→∃p q,dG T f.type xs f.offset=some p∧dG T f.type ys f.offset=some q∧lN T n f.type p q=some b:=by
      intro l
      induction l with
      |nil=>intro bs hb;cases hb;exact ⟨rfl,fun j i b h=>by simp at h⟩
      |cons i0 l ih=>
       intro bs hb
       unfold oW at hb
       split at hb
       ·rename_i y m h1 h2
        cases hb
        obtain ⟨g1,g2⟩:=ih m h2
        refine ⟨by simp[g1],fun j i b h3 h4=>?_⟩
        cases j with
        |zero=>
         simp only[List.getElem?_cons_zero,Option.some.injEq] at h3 h4
         subst h3 h4
         split at h1
         ·rename_i p q e1 e2;exact ⟨p,q,e1,e2,h1⟩
         ·cases h1
        |succ j=>simp only[List.getElem?_cons_succ] at h3 h4;exact g2 j i b h3 h4
       ·cases hb
     obtain ⟨g1,g2⟩:=hget _ _ hbs
     rw[Op.equalIn]
     have hpr:(program:Sem Program).run P w=.ok P w:=rfl
     simp only[Sem.run_bind,run_underlying hu,Result.andThen_ok,hpr,hs1]
     rw[if_neg (by decide)]
     simp only[Sem.run_bind,Sem.run_pure,Result.andThen_ok]
     rw[←Array.forIn_toList]
     rw[lO fs.toList bs g1 fun j f b h1 h2=>by
      obtain ⟨p,q,e1,e2,e3⟩:=g2 j f b h1 h2
      obtain ⟨v1,k1,k2⟩:=e9 (w:=w) hT e1 hv
      obtain ⟨v2,k3,k4⟩:=e9 (w:=w) hT e2 hu2
      have k5:=jX (w:=w) hT n f.type p q v1 v2 b e3 k2 k4 d (by omega)
      rw[if_pos (hs2 f (qt h1))]
      simp only[Sem.run_bind,k1,k3,k5,Result.andThen_ok]
      cases b<;>rfl]
     cases hall:bs.all id<;>simp
   ·cases h
  ·cases h
noncomputable def BZ (T:TT) (i:TI) (t:Nat) (v:EV) (ok:Bool):Option EV:=match i.d,T t with
 |.interface want,some it=>bif it.mi want then some (bif ok then .tu [.ifc t v,.b true] else .ifc t v) else bif ok then some (.tu [i.v,.b false]) else none
 |_,_=>none
noncomputable def FC (T:TT) (g:Nat→EV) (op:Op):Option EV:=
 match op with
 |.move x | .assign x=>bR g x
 |.pick c a b=>match bR g c with
  |some (.b t)=>bif t then bR g a else bR g b
  |_=>none
 |.binOp op t x y _=>match bR g x,bR g y with
  |some a,some b=>match wi T op t y a b with
   |some z=>some z
   |none=>match op,a,b,T t with
    |.eql,.ag l,.ag m,some i=>bif i.g then (lN T 9 t (.ag l) (.ag m)).map EV.b else none
    |.neq,.ag l,.ag m,some i=>bif i.g then (lN T 9 t (.ag l) (.ag m)).map fun z=>.b (!z) else none
    |_,_,_,_=>none
  |_,_=>none
 |.unOp op _ x=>match bR g x with
  |some a=>DE op a
  |none=>none
 |.extract x i=>match bR g x with
  |some (.tu l)=>l[i]?
  |_=>none
 |.nilCheck x=>match bR g x with
  |some (.p b off)=>some (.p b off)
  |_=>none
 |.fieldAddr t x f=>match bR g x with
  |some (.p b off)=>mU T t f b off
  |_=>none
 |.field t x f=>match bR g x with
  |some (.ag cs)=>mV T t f cs
  |_=>none
 |.indexAddr t x y=>match bR g x,bR g y with
  |some a,some (.i _ n)=>ri T t a n
  |_,_=>none
 |.index t x y=>match bR g x,bR g y with
  |some a,some (.i _ n)=>wk T t a n
  |_,_=>none
 |.build t ps=>match oW (fun p:Nat × Operand=>bR g p.2) ps.toList with
  |some vs=>mX T t (ps.toList.map (·.1)) vs
  |none=>none
 |.slice t x lo hi mx=>match bR g x,sY g lo,sY g hi,sY g mx with
  |some a,some lo',some hi',some mx'=>DG T t a lo' hi' mx'
  |_,_,_,_=>none
 |.convert s d x=>match bR g x with
  |some a=>rk T s d a
  |none=>none
 |.makeInterface t x=>match bR g x with
  |some a=>wl T t a
  |none=>none
 |.makeFunc (.func f) a c=>match oW (bR g) a.toList,oW (bR g) c.toList with
  |some l,some m=>some (.fn f l m)
  |_,_=>none
 |.typeAssert x _ A ok=>match bR g x,T A with
  |some (.ifc t v),some i=>bif sV i.d then (bif Nat.beq t A then some (bif ok then .tu [v,.b true] else v) else bif ok then some (.tu [i.v,.b false]) else none) else BZ T i t v ok
  |some .ni,some i=>bif sV i.d&&ok then some (.tu [i.v,.b false]) else none
  |_,_=>none
 |.call ⟨.builtin .len,ar,ts⟩=>match ar.toList,ts.toList with
  |[x],[t]=>match bR g x with
   |some a=>wm T t a
   |none=>none
  |_,_=>none
 |.call ⟨.builtin .cap,ar,ts⟩=>match ar.toList,ts.toList with
  |[x],[t]=>match bR g x with
   |some a=>wn T t a
   |none=>none
  |_,_=>none
 |.call ⟨.builtin .min,ar,_⟩=>match ar.toList with
  |[x,y]=>match bR g x,bR g y with
   |some (.i k a),some (.i k' b)=>if k=k' then some (.i k (if b<a then b else a)) else none
   |_,_=>none
  |_=>none
 |.call ⟨.builtin .max,ar,_⟩=>match ar.toList with
  |[x,y]=>match bR g x,bR g y with
   |some (.i k a),some (.i k' b)=>if k=k' then some (.i k (if a<b then b else a)) else none
   |_,_=>none
  |_=>none
 |_=>none
noncomputable def DS (g:Nat→EV) (c a b:Operand):Option EV:=match bR g c with
 |some (.b t)=>bif t then bR g a else bR g b
 |_=>none
noncomputable def DT (T:TT) (op:BinOp) (t:TypeId) (a b:EV):Option EV:=match op,a,b,T t with
 |.eql,.ag l,.ag m,some i=>bif i.g then (lN T 9 t (.ag l) (.ag m)).map EV.b else none
 |.neq,.ag l,.ag m,some i=>bif i.g then (lN T 9 t (.ag l) (.ag m)).map fun z=>.b (!z) else none
 |_,_,_,_=>none
noncomputable def FD (T:TT) (g:Nat→EV) (op:BinOp) (t:TypeId) (x y:Operand):Option EV:=match bR g x,bR g y with
 |some a,some b=>match wi T op t y a b with
  |some z=>some z
  |none=>DT T op t a b
 |_,_=>none
noncomputable def GN (g:Nat→EV) (op:UnOp) (x:Operand):Option EV:=match bR g x with
 |some a=>DE op a
 |none=>none
noncomputable def FE (g:Nat→EV) (x:Operand) (i:Nat):Option EV:=match bR g x with
 |some (.tu l)=>l[i]?
 |_=>none
noncomputable def FF (g:Nat→EV) (x:Operand):Option EV:=match bR g x with
 |some (.p b off)=>some (.p b off)
 |_=>none
noncomputable def GO (T:TT) (g:Nat→EV) (t:Nat) (x:Operand) (f:Nat):Option EV:=match bR g x with
 |some (.p b off)=>mU T t f b off
 |_=>none
noncomputable def GP (T:TT) (g:Nat→EV) (t:Nat) (x:Operand) (f:Nat):Option EV:=match bR g x with
 |some (.ag cs)=>mV T t f cs
 |_=>none
noncomputable def GQ (T:TT) (g:Nat→EV) (t:Nat) (x y:Operand):Option EV:=match bR g x,bR g y with
 |some a,some (.i _ n)=>ri T t a n
 |_,_=>none
noncomputable def GR (T:TT) (g:Nat→EV) (t:Nat) (x y:Operand):Option EV:=match bR g x,bR g y with
 |some a,some (.i _ n)=>wk T t a n
 |_,_=>none
noncomputable def FG (T:TT) (g:Nat→EV) (t:Nat) (ps:Array (Nat × Operand)):Option EV:=match oW (fun p:Nat × Operand=>bR g p.2) ps.toList with
 |some vs=>mX T t (ps.toList.map (·.1)) vs
 |none=>none
noncomputable def GS (T:TT) (g:Nat→EV) (t:Nat) (x:Operand) (lo hi mx:Option Operand):Option EV:=match bR g x,sY g lo,sY g hi,sY g mx with
 |some a,some lo',some hi',some mx'=>DG T t a lo' hi' mx'
 |_,_,_,_=>none
noncomputable def GT (T:TT) (g:Nat→EV) (s d:Nat) (x:Operand):Option EV:=match bR g x with
 |some a=>rk T s d a
 |none=>none
noncomputable def GU (T:TT) (g:Nat→EV) (t:Nat) (x:Operand):Option EV:=match bR g x with
 |some a=>wl T t a
 |none=>none
noncomputable def GV (g:Nat→EV) (fn:Go.Fn) (a c:Array Operand):Option EV:=match fn with
 |.func f=>match oW (bR g) a.toList,oW (bR g) c.toList with
  |some l,some m=>some (.fn f l m)
  |_,_=>none
 |_=>none
noncomputable def GW (T:TT) (g:Nat→EV) (x:Operand) (A:TypeId) (ok:Bool):Option EV:=match bR g x,T A with
 |some (.ifc t v),some i=>bif sV i.d then (bif Nat.beq t A then some (bif ok then .tu [v,.b true] else v) else bif ok then some (.tu [i.v,.b false]) else none) else BZ T i t v ok
 |some .ni,some i=>bif sV i.d&&ok then some (.tu [i.v,.b false]) else none
 |_,_=>none
noncomputable def FH (T:TT) (g:Nat→EV) (ar:Array Operand) (ts:Array TypeId):Option EV:=match ar.toList,ts.toList with
 |[x],[t]=>match bR g x with
  |some a=>wm T t a
  |none=>none
 |_,_=>none
noncomputable def FI (T:TT) (g:Nat→EV) (ar:Array Operand) (ts:Array TypeId):Option EV:=match ar.toList,ts.toList with
 |[x],[t]=>match bR g x with
  |some a=>wn T t a
  |none=>none
 |_,_=>none
noncomputable def FJ (g:Nat→EV) (ar:Array Operand):Option EV:=match ar.toList with
 |[x,y]=>match bR g x,bR g y with
  |some (.i k a),some (.i k' b)=>if k=k' then some (.i k (if b<a then b else a)) else none
  |_,_=>none
 |_=>none
noncomputable def FK (g:Nat→EV) (ar:Array Operand):Option EV:=match ar.toList with
 |[x,y]=>match bR g x,bR g y with
  |some (.i k a),some (.i k' b)=>if k=k' then some (.i k (if a<b then b else a)) else none
  |_,_=>none
 |_=>none
noncomputable def GX (T:TT) (g:Nat→EV) (b:Builtin) (ar:Array Operand) (ts:Array TypeId):Option EV:=match b with
 |.len=>FH T g ar ts
 |.cap=>FI T g ar ts
 |.min=>FJ g ar
 |.max=>FK g ar
 |_=>none
noncomputable def GY (T:TT) (g:Nat→EV) (c:Call):Option EV:=match c with
 |⟨.builtin b,ar,ts⟩=>GX T g b ar ts
 |_=>none
noncomputable def GZ (T:TT) (g:Nat→EV) (op:Op):Option EV:=
 match op with
 |.move x=>bR g x
 |.assign x=>bR g x
 |.pick c a b=>DS g c a b
 |.binOp op t x y _=>FD T g op t x y
 |.unOp op _ x=>GN g op x
 |.extract x i=>FE g x i
 |.nilCheck x=>FF g x
 |.fieldAddr t x f=>GO T g t x f
 |.field t x f=>GP T g t x f
 |.indexAddr t x y=>GQ T g t x y
 |.index t x y=>GR T g t x y
 |.build t ps=>FG T g t ps
 |.slice t x lo hi mx=>GS T g t x lo hi mx
 |.convert s d x=>GT T g s d x
 |.makeInterface t x=>GU T g t x
 |.makeFunc fn a c=>GV g fn a c
 |.typeAssert x _ A ok=>GW T g x A ok
 |.call c=>GY T g c
 |_=>none
theorem FL (T:TT) (g:Nat→EV) (op:Op):GZ T g op=FC T g op:=by
 cases op<;>try rfl
 case makeFunc fn a c=>cases fn<;>rfl
 case call c=>
  obtain ⟨cl,ar,ts⟩:=c
  cases cl<;>try rfl
  rename_i b
  cases b<;>rfl
theorem fX {P:Program} {s:Sem Value} {v:Value} {w w':World} (h:s.run P w=.ok v w'):(do pure (Next.value (←s)):Sem Next).run P w=.ok (.value v) w':=by
 rw[Sem.run_bind,h];rfl
theorem yX {α:Type} {a:Array α} {x:α} (h:a.toList=[x]):a=#[x]:=Array.toList_inj.1 h
theorem yY {α:Type} {a:Array α} {x y:α} (h:a.toList=[x,y]):a=#[x,y]:=Array.toList_inj.1 h
section
variable {P:Program} {φ:b7} {g:Nat→EV} {ρ:bG} {w:World} {T:TT}
theorem DU (hT:cJ P T) (hg:eA φ g ρ) {o:Oper} {x:EV} (h:FC T g o.op=some x):∃v,(execOp (ev ρ) o).run P w=.ok (.value v) w∧aS φ x v:=by
 obtain ⟨dst,op,ty,pos,af,gu⟩:=o
 dsimp only at h
 unfold FC at h
 split at h
 ·exact ⟨_,rfl,aG hg h⟩
 ·exact ⟨_,rfl,aG hg h⟩
 ·split at h
  ·rename_i c a b _ t hc
   have hc:ev ρ c=.bool t:=aG hg hc
   cases t
   ·exact ⟨_,by simp[execOp,hc,asBool],aG hg h⟩
   ·exact ⟨_,by simp[execOp,hc,asBool],aG hg h⟩
  ·cases h
 ·split at h
  ·rename_i op t x y u _ _ a b hx hy
   split at h
   ·rename_i z hz
    cases h
    obtain ⟨v,h1,h2⟩:=BG (w:=w) (p:=x) hT hz (aG hg hx) (aG hg hy)
    exact ⟨v,fX h1,h2⟩
   ·split at h
    ·rename_i l m i hi _
     cases hgd:i.g with
     |false=>rw[hgd] at h;cases h
     |true=>
      rw[hgd] at h
      obtain ⟨r,hr,rfl⟩:=Option.map_eq_some_iff.1 h
      obtain ⟨vs,e1,h1⟩:=aG hg hx
      obtain ⟨us,e2,h2⟩:=aG hg hy
      have he:=jX (w:=w) hT 9 t _ _ _ _ r hr ⟨vs,e1,h1⟩ ⟨us,e2,h2⟩ 10000 (by omega)
      have hgg:=(hT t i hi).gd hgd
      refine ⟨.bool r,?_,Z⟩
      rw[e1,e2] at he
      simp only[execOp,e1,e2]
      simp[run_eqGuard_agg w .eql t x y vs.toArray us.toArray hgg,run_eql_struct,he]
    ·rename_i l m i hi _
     cases hgd:i.g with
     |false=>rw[hgd] at h;cases h
     |true=>
      rw[hgd] at h
      obtain ⟨r,hr,rfl⟩:=Option.map_eq_some_iff.1 h
      obtain ⟨vs,e1,h1⟩:=aG hg hx
      obtain ⟨us,e2,h2⟩:=aG hg hy
      have he:=jX (w:=w) hT 9 t _ _ _ _ r hr ⟨vs,e1,h1⟩ ⟨us,e2,h2⟩ 10000 (by omega)
      have hgg:=(hT t i hi).gd hgd
      refine ⟨.bool (!r),?_,Z⟩
      rw[e1,e2] at he
      simp only[execOp,e1,e2]
      simp[run_eqGuard_agg w .neq t x y vs.toArray us.toArray hgg,run_neq_struct,he]
    ·cases h
  ·cases h
 ·split at h
  ·rename_i a hx
   obtain ⟨v,h1,h2⟩:=DF (P:=P) (w:=w) h (aG hg hx)
   exact ⟨v,fX h1,h2⟩
  ·cases h
 ·split at h
  ·rename_i x i _ l hx
   obtain ⟨vs,he,h1⟩:=aG hg hx
   obtain ⟨v,h2,h3⟩:=h1.get h
   refine ⟨v,fX ?_,h3⟩
   rw[he]
   simp[Instr.extract,h2]
  ·cases h
 ·split at h
  ·rename_i x _ b off hx
   cases h
   obtain ⟨q,hq,he⟩:=aG hg hx
   exact ⟨_,by simp[execOp,he],q,hq,rfl⟩
  ·cases h
 ·split at h
  ·rename_i hx
   obtain ⟨v,h1,h2⟩:=uR (w:=w) hT h (aG hg hx)
   exact ⟨v,fX h1,h2⟩
  ·cases h
 ·split at h
  ·rename_i hx
   obtain ⟨v,h1,h2⟩:=uS (w:=w) hT h (aG hg hx)
   exact ⟨v,fX h1,h2⟩
  ·cases h
 ·split at h
  ·rename_i hx hy
   obtain ⟨v,h1,h2⟩:=yS (w:=w) hT h (aG hg hx) (aG hg hy)
   exact ⟨v,fX h1,h2⟩
  ·cases h
 ·split at h
  ·rename_i hx hy
   obtain ⟨v,h1,h2⟩:=BH (w:=w) hT h (aG hg hx) (aG hg hy)
   exact ⟨v,fX h1,h2⟩
  ·cases h
 ·split at h
  ·rename_i t ps _ vs hx
   have h1:=jW (φ:=φ) (g:=fun p:Nat × Operand=>ev ρ p.2) (fun p a hp=>aG hg hp) ps.toList vs hx
   obtain ⟨v,h2,h3⟩:=uU (w:=w) (parts:=ps.toList.map fun p=>(p.1,ev ρ p.2)) hT (by rw[List.map_map];exact h) (by rw[List.map_map];exact h1)
   refine ⟨v,fX ?_,h3⟩
   have e:((ps.toList.map fun p=>(p.1,ev ρ p.2)).toArray)=ps.map fun p=>(p.1,ev ρ p.2):=by apply Array.toList_inj.1;simp
   rw[e] at h2
   exact h2
  ·cases h
 ·split at h
  ·rename_i hx h1 h2 h3
   obtain ⟨v,h4,h5⟩:=DH (w:=w) hT h (aG hg hx) (rv hg h1) (rv hg h2) (rv hg h3)
   exact ⟨v,fX h4,h5⟩
  ·cases h
 ·split at h
  ·rename_i hx
   obtain ⟨v,h1,h2⟩:=yT (w:=w) hT h (aG hg hx)
   exact ⟨v,fX h1,h2⟩
  ·cases h
 ·split at h
  ·rename_i hx
   obtain ⟨v,h1,h2⟩:=BI (w:=w) hT h (aG hg hx)
   exact ⟨v,fX h1,h2⟩
  ·cases h
 ·split at h
  ·rename_i f a c _ _ l m h1 h2
   cases h
   refine ⟨.func (.func f) (a.map (ev ρ)) (c.map (ev ρ)),by simp[execOp,Instr.makeFunc],_,_,?_,m4 hg h1,m4 hg h2⟩
   congr 1<;>(apply Array.toList_inj.1;simp)
  ·cases h
 ·rename_i x' X A ok
  split at h
  ·rename_i t v i hx hi
   obtain ⟨u,he,hr⟩:=aG hg hx
   have hu:=(hT A i hi).und
   obtain ⟨zv,hz,hzr⟩:=(hT A i hi).zeroV
   cases hd:sV i.d with
   |false=>
    rw[hd] at h
    simp only[cond_false] at h
    unfold BZ at h
    split at h
    ·rename_i want it hw hit
     rw[hw] at hu
     obtain ⟨f,hf,hmi⟩:=(hT t it hit).md
     have hmi:=hmi want
     have hpr:∀w,(program:Sem Program).run P w=.ok P w:=fun _=>rfl
     have hti:∀w,(typeInfo t).run P w=.ok f w:=fun w=>by
      simp only[typeInfo,Sem.run_bind,hpr,Result.andThen_ok,hf]
      rfl
     cases hb:it.mi want with
     |true=>
      rw[hb] at h hmi
      have hm:Instr.missingMethod want f.methods=none:=Option.isNone_iff_eq_none.1 hmi
      cases ok with
      |true=>
       cases h
       refine ⟨.tuple #[.iface t u,.bool true],?_,[.iface t u,.bool true],Z,_,_,Z,⟨u,Z,hr⟩,_,_,Z,Z,Z⟩
       simp only[execOp,Instr.typeAssert,Sem.run_bind,run_underlying hu,he,Result.andThen_ok,hti,hm]
       rfl
      |false=>
       cases h
       refine ⟨.iface t u,?_,⟨u,Z,hr⟩⟩
       simp only[execOp,Instr.typeAssert,Sem.run_bind,run_underlying hu,he,Result.andThen_ok,hti,hm]
       rfl
     |false=>
      rw[hb] at h hmi
      cases ok with
      |false=>cases h
      |true=>
       cases h
       obtain ⟨m,hm⟩:∃m,Instr.missingMethod want f.methods=some m:=by
        cases hq:Instr.missingMethod want f.methods with
        |none=>rw[hq] at hmi;cases hmi
        |some m=>exact ⟨m,rfl⟩
       refine ⟨.tuple #[zv,.bool false],?_,[zv,.bool false],Z,_,_,Z,hzr φ,_,_,Z,Z,Z⟩
       simp only[execOp,Instr.typeAssert,Sem.run_bind,run_underlying hu,he,Result.andThen_ok,hti,hm,if_true,hz]
       rfl
    ·cases h
   |true=>
    rw[hd] at h
    simp only[cond_true] at h
    cases htA:Nat.beq t A with
    |true=>
     rw[htA] at h
     have htA:=Nat.eq_of_beq_eq_true htA
     subst htA
     cases ok with
     |true=>
      cases h
      refine ⟨.tuple #[u,.bool true],?_,[u,.bool true],Z,_,_,Z,hr,_,_,Z,Z,Z⟩
      simp only[execOp,Instr.typeAssert,Sem.run_bind,run_underlying hu,he]
      revert hd
      cases i.d<;>intro hd<;>first|(simp;done)|cases hd
     |false=>
      cases h
      refine ⟨u,?_,hr⟩
      simp only[execOp,Instr.typeAssert,Sem.run_bind,run_underlying hu,he]
      revert hd
      cases i.d<;>intro hd<;>first|(simp;done)|cases hd
    |false=>
     rw[htA] at h
     have hne:¬t=A:=fun e=>by rw[e,show Nat.beq A A=true from Nat.beq_refl A] at htA;cases htA
     cases ok with
     |false=>cases h
     |true=>
      cases h
      refine ⟨.tuple #[zv,.bool false],?_,[zv,.bool false],Z,_,_,Z,hzr φ,_,_,Z,Z,Z⟩
      simp only[execOp,Instr.typeAssert,Sem.run_bind,run_underlying hu,he]
      revert hd
      cases i.d<;>intro hd<;>first|(simp[hne,hz];done)|cases hd
  ·rename_i i hx hi
   have he:ev ρ x'=.nilIface:=aG hg hx
   have hu:=(hT A i hi).und
   obtain ⟨zv,hz,hzr⟩:=(hT A i hi).zeroV
   cases hd:sV i.d with
   |false=>rw[hd] at h;cases h
   |true=>
    rw[hd] at h
    cases ok with
    |false=>cases h
    |true=>
     cases h
     refine ⟨.tuple #[zv,.bool false],?_,[zv,.bool false],Z,_,_,Z,hzr φ,_,_,Z,Z,Z⟩
     simp only[execOp,Instr.typeAssert,Sem.run_bind,run_underlying hu,he]
     revert hd
     cases i.d<;>intro hd<;>first|(simp[hz];done)|cases hd
  ·cases h
 ·split at h
  ·rename_i ar ts _ _ x t h1 h2
   have h1:=yX h1
   have h2:=yX h2
   subst h1 h2
   split at h
   ·rename_i a hx
    obtain ⟨v,h3,h4⟩:=BJ (w:=w) (ty:=ty) hT h (aG hg hx)
    exact ⟨v,by simp[execOp,resolve,invoke,builtin,h3],h4⟩
   ·cases h
  ·cases h
 ·split at h
  ·rename_i ar ts _ _ x t h1 h2
   have h1:=yX h1
   have h2:=yX h2
   subst h1 h2
   split at h
   ·rename_i a hx
    obtain ⟨v,h3,h4⟩:=BK (w:=w) (ty:=ty) hT h (aG hg hx)
    exact ⟨v,by simp[execOp,resolve,invoke,builtin,h3],h4⟩
   ·cases h
  ·cases h
 ·split at h
  ·rename_i ar ts _ x y h1
   have h1:=yY h1
   subst h1
   split at h
   ·rename_i k a k' b hx hy
    have hx:ev ρ x=.int k a:=aG hg hx
    have hy:ev ρ y=.int k' b:=aG hg hy
    split at h
    ·rename_i e
     subst e
     cases h
     refine ⟨.int k (if b<a then b else a),?_,Z⟩
     simp[execOp,resolve,invoke,builtin,hx,hy,Builtin.min_,Builtin.min2,Result.andThen]
    ·cases h
   ·cases h
  ·cases h
 ·split at h
  ·rename_i ar ts _ x y h1
   have h1:=yY h1
   subst h1
   split at h
   ·rename_i k a k' b hx hy
    have hx:ev ρ x=.int k a:=aG hg hx
    have hy:ev ρ y=.int k' b:=aG hg hy
    split at h
    ·rename_i e
     subst e
     cases h
     refine ⟨.int k (if a<b then b else a),?_,Z⟩
     simp[execOp,resolve,invoke,builtin,hx,hy,Builtin.max_,Builtin.max2,Result.andThen]
    ·cases h
   ·cases h
  ·cases h
 ·cases h
theorem B3 (hT:cJ P T) (hg:eA φ g ρ) {o:Oper} {x:EV} (h:GZ T g o.op=some x):∃v,(execOp (ev ρ) o).run P w=.ok (.value v) w∧aS φ x v:=DU hT hg (FL T g o.op▸h)
end
end
section
open Go.Proofs
def gF:TypeDesc→EV→Bool
 |.bool,.b _=>true
 |.int k,.i k' _=>decide (k'=k)
 |.string,.s _=>true
 |_,_=>false
def jD:EV→EV→Bool
 |.b a,.b b=>a == b
 |.i k n,.i k' m=>decide (k=k')&&decide (n=m)
 |.s a,.s b=>rg a b
 |_,_=>false
def pS (k:EV):List (EV × EV)→Nat→Option (Nat × EV)
 |[],_=>none
 |x::l,i=>bif jD k x.1 then some (i,x.2) else pS k l (i+1)
theorem jY {φ:b7} {d:TypeDesc} {x:EV} {v:Value} (h:gF d x=true) (hr:aS φ x v):MapKept.IsKey d v:=by
 cases d<;>cases x<;>simp only[gF] at h<;>first|(cases h;done)|skip
 ·have hr:v=.bool _:=hr
  subst hr;trivial
 ·have hr:v=.int _ _:=hr
  subst hr;have h2:=of_decide_eq_true h;exact h2
 ·have hr:v=.string _:=hr
  subst hr;trivial
theorem yZ {φ:b7} {d:TypeDesc} {x y:EV} {v u:Value} (h:gF d x=true) (k:gF d y=true) (hr:aS φ x v) (kr:aS φ y u):jD x y=true↔v=u:=by
 cases d<;>cases x<;>simp only[gF] at h<;>first|(cases h;done)|skip
 all_goals (cases y<;>simp only[gF] at k<;>first|(cases k;done)|skip)
 ·have hr:v=.bool _:=hr
  have kr:u=.bool _:=kr
  subst hr kr;simp[jD]
 ·have hr:v=.int _ _:=hr
  have kr:u=.int _ _:=kr
  subst hr kr;simp[jD]
 ·have hr:v=.string _:=hr
  have kr:u=.string _:=kr
  subst hr kr;simp[jD,jU]
theorem sZ {φ:b7} {d:TypeDesc} {k:EV} {kv:Value} (hk:gF d k=true) (hr:aS φ k kv):∀(es:List (EV × EV)) (ms:List MapEntry) (i:Nat),cR φ es ms→es.all (fun x=>gF d x.1)=true →
  (pS k es i=none∧Instr.findNow d kv ms i=some none∧∀x∈ms,x.key≠kv)∨∃j x e,pS k es i=some (i+j,x)∧Instr.findNow d kv ms i=some (some (i+j,e.val))∧aS φ x e.val∧ms[j]?=some e∧e.key=kv
 |[],ms,i,h,_=>by
  have h:ms=[]:=h
  subst h
  exact .inl ⟨rfl,rfl,by simp⟩
 |x::es,ms,i,h,ha=>by
  obtain ⟨e,r,rfl,h1,h2,h3⟩:=h
  simp only[List.all_cons,qu] at ha
  obtain ⟨s,hs,hiff⟩:=MapKept.sameNow_of_keys (jY hk hr) (jY ha.1 h1)
  have hke:=yZ hk ha.1 hr h1
  unfold pS
  cases s with
  |true=>
   have he:=hiff.1 rfl
   have:jD k x.1=true:=hke.2 he
   rw[this]
   exact .inr ⟨0,x.2,e,rfl,by simp[Instr.findNow,hs],h2,rfl,he.symm⟩
  |false=>
   have hne:kv≠e.key:=fun q=>by have:=hiff.2 q;cases this
   have:jD k x.1=false:=by cases q:jD k x.1 with
    |false=>rfl
    |true=>exact absurd (hke.1 q) hne
   rw[this]
   rcases sZ hk hr es r (i+1) h3 ha.2 with ⟨g1,g2,g3⟩|⟨j,y,e',g1,g2,g3,g4,g5⟩
   ·refine .inl ⟨g1,by simp[Instr.findNow,hs,g2],fun z hz=>?_⟩
    rcases List.mem_cons.1 hz with rfl|hz
    ·exact fun q=>hne q.symm
    ·exact g3 z hz
   ·refine .inr ⟨j+1,y,e',?_,?_,g3,by simpa using g4,g5⟩
    ·show pS k es (i+1)=_
     rw[g1];congr 2;omega
    ·simp[Instr.findNow,hs,g2];omega
def wy:EV→Bool
 |.b _=>true
 |.i _ _=>true
 |.s _=>true
 |_=>false
def uZ:List EV→List EV→Bool
 |[],[]=>true
 |x::l,y::m=>jD x y&&uZ l m
 |_,_=>false
def rx:EV→EV→Bool
 |.ag l,.ag m=>uZ l m
 |_,_=>false
noncomputable def u4 (T:TT) (i:TI):EV→Bool
 |.ag l=>match i.d with
  |.struct fs=>l.all wy&&i.q&&fs.toList.all fun f=>match T f.type,dG T f.type l f.offset with
   |some j,some x=>gF j.d x
   |_,_=>false
  |_=>false
 |_=>false
noncomputable def wz (T:TT) (kt:Nat) (k:EV):List (EV × EV)→Nat→Option (Option (Nat × EV))
 |[],_=>some none
 |x::l,i=>match lN T 5 kt k x.1 with
  |some true=>bif rx k x.1 then some (some (i,x.2)) else none
  |some false=>wz T kt k l (i+1)
  |none=>none
noncomputable def s6 (T:TT) (kt:Nat) (i:TI) (k:EV) (es:List (EV × EV)):Option (Option (Nat × EV)):=
 bif gF i.d k then (bif es.all (fun x=>gF i.d x.1) then some (pS k es 0) else none)
 else bif u4 T i k then wz T kt k es 0 else none
theorem B4 {φ:b7} {x y:EV} {v u:Value} (h:jD x y=true) (hr:aS φ x v) (kr:aS φ y u):v=u:=by
 cases x<;>cases y<;>simp only[jD] at h<;>first|(cases h;done)|skip
 ·have hr:v=.bool _:=hr
  have kr:u=.bool _:=kr
  subst hr kr
  rw[eq_of_beq h]
 ·have hr:v=.int _ _:=hr
  have kr:u=.int _ _:=kr
  simp only[qu,qv] at h
  subst hr kr
  rw[h.1,h.2]
 ·have hr:v=.string _:=hr
  have kr:u=.string _:=kr
  subst hr kr
  rw[jU] at h
  rw[of_decide_eq_true h]
theorem pT {φ:b7}:∀{x y:List EV} {v u:List Value},uZ x y=true→RelVs φ x v→RelVs φ y u→v=u
 |[],[],v,u,_,hr,kr=>by
  have hr:v=[]:=hr
  have kr:u=[]:=kr
  rw[hr,kr]
 |[],_::_,_,_,h,_,_=>by cases h
 |_::_,[],_,_,h,_,_=>by cases h
 |x::l,y::m,_,_,h,⟨v,vs,e1,a1,a2⟩,⟨u,us,e2,b1,b2⟩=>by
  have h:=(qu _ _).mp h
  rw[e1,e2,B4 h.1 a1 b1,pT h.2 a2 b2]
theorem zA {φ:b7} {x y:EV} {v u:Value} (h:rx x y=true) (hr:aS φ x v) (kr:aS φ y u):v=u:=by
 cases x<;>cases y<;>simp only[rx] at h<;>first|(cases h;done)|skip
 obtain ⟨vs,rfl,h1⟩:=hr
 obtain ⟨us,rfl,h2⟩:=kr
 rw[pT h h1 h2]
theorem zB {φ:b7} {x:EV} {v:Value} (n:Nat) (h:wy x=true) (hr:aS φ x v):Instr.sameBits (n+1) v v=true:=by
 cases x<;>simp only[wy] at h<;>first|(cases h;done)|skip
 ·have hr:v=.bool _:=hr
  subst hr;simp[Instr.sameBits]
 ·have hr:v=.int _ _:=hr
  subst hr;simp[Instr.sameBits]
 ·have hr:v=.string _:=hr
  subst hr;simp[Instr.sameBits,MapKept.bytes_beq]
theorem od {φ:b7} (n:Nat):∀{x:List EV} {v:List Value},x.all wy=true→RelVs φ x v→((v.zip v).all fun q=>Instr.sameBits (n+1) q.1 q.2)=true
 |[],v,_,hr=>by
  have hr:v=[]:=hr
  subst hr;rfl
 |x::l,_,h,⟨v,vs,e,a1,a2⟩=>by
  simp only[List.all_cons,qu] at h
  subst e
  simp only[List.zip_cons_cons,List.all_cons,zB n h.1 a1,Bool.true_and]
  exact od n h.2 a2
theorem s7 {P:Program} {α:Type} {body:α→PUnit→Sem (ForInStep PUnit)} {w:World}:∀(l:List α),(∀f∈l,(body f ⟨⟩).run P w=.ok (.yield ⟨⟩) w)→(forIn l PUnit.unit body).run P w=.ok ⟨⟩ w
 |[],_=>rfl
 |f::l,h=>by
  rw[List.forIn_cons,Sem.run_bind,h f (.head _)]
  exact s7 l fun g hg=>h g (.tail _ hg)
theorem s8 {P:Program} {φ:b7} {T:TT} (hT:cJ P T) {kt:Nat} {k:EV} {kv:Value} (hr:aS φ k kv):∀(es:List (EV × EV)) (ms:List MapEntry) (i:Nat) (r:Option (Nat × EV)),cR φ es ms→wz T kt k es i=some r →
  (r=none∧∀w,(Instr.findAsking kt kv ms i).run P w=.ok none w)∨∃j x e,r=some (i+j,x)∧(∀w,(Instr.findAsking kt kv ms i).run P w=.ok (some (i+j,e.val)) w)∧aS φ x e.val∧ms[j]?=some e∧e.key=kv
 |[],ms,i,r,h,hf=>by
  have h:ms=[]:=h
  subst h
  cases hf
  exact .inl ⟨rfl,fun _=>rfl⟩
 |x::es,ms,i,r,h,hf=>by
  obtain ⟨e,q,rfl,h1,h2,h3⟩:=h
  unfold wz at hf
  split at hf
  ·rename_i hq
   have he:∀w,(Op.equal kt kv e.key).run P w=.ok true w:=fun w=>jX hT 5 kt k x.1 kv e.key true hq hr h1 _ (by decide)
   cases hk:rx k x.1 with
   |false=>rw[hk] at hf;cases hf
   |true=>
    rw[hk] at hf
    cases hf
    refine .inr ⟨0,x.2,e,Z,fun w=>?_,h2,Z,(zA hk hr h1).symm⟩
    simp[Instr.findAsking,he w]
  ·rename_i hq
   have he:∀w,(Op.equal kt kv e.key).run P w=.ok false w:=fun w=>jX hT 5 kt k x.1 kv e.key false hq hr h1 _ (by decide)
   rcases s8 hT hr es q (i+1) r h3 hf with ⟨g1,g2⟩|⟨j,y,e',g1,g2,g3,g4,g5⟩
   ·exact .inl ⟨g1,fun w=>by simp[Instr.findAsking,he w,g2 w]⟩
   ·have e1:i+1+j=i+(j+1):=by omega
    refine .inr ⟨j+1,y,e',by rw[g1,e1],fun w=>?_,g3,by simpa using g4,g5⟩
    simp[Instr.findAsking,he w,g2 w,e1]
  ·cases hf
theorem gG {P:Program} {φ:b7} {T:TT} (hT:cJ P T) {kt:Nat} {i:TI} (hi:T kt=some i) {k:EV} {kv:Value} (hr:aS φ k kv) {es:List (EV × EV)} {ms:List MapEntry} {r:Option (Nat × EV)} (h:cR φ es ms) (hf:s6 T kt i k es=some r) :
  (∀w b,(Instr.checkKey b 10000 kt kv).run P w=.ok () w)∧(∀w,(Instr.keyThatStays kv kv).run P w=.ok kv w) ∧
  ((r=none∧∀w,(Instr.findKey kt kv ms).run P w=.ok none w)∨∃j x e,r=some (j,x)∧(∀w,(Instr.findKey kt kv ms).run P w=.ok (some (j,e.val)) w)∧aS φ x e.val∧ms[j]?=some e∧e.key=kv):=by
 have hku:=(hT kt i hi).und
 unfold s6 at hf
 cases hk:gF i.d k with
 |true=>
  rw[hk] at hf
  cases hb:es.all (fun x=>gF i.d x.1) with
  |false=>rw[hb] at hf;cases hf
  |true=>
   rw[hb] at hf
   simp only[cond_true,Option.some.injEq] at hf
   have hkk:=jY hk hr
   refine ⟨fun w b=>MapKept.run_checkKey hku hkk b 9999,fun w=>MapKept.run_keyThatStays hkk,?_⟩
   rcases sZ hk hr es ms 0 h hb with ⟨g1,g2,_⟩|⟨j,y,e,g1,g2,g3,g4,g5⟩
   ·exact .inl ⟨by rw[←hf,g1],fun w=>MapKept.run_findKey hku g2⟩
   ·rw[Nat.zero_add] at g1 g2
    exact .inr ⟨j,y,e,by rw[←hf,g1],fun w=>MapKept.run_findKey hku g2,g3,g4,g5⟩
 |false=>
  rw[hk] at hf
  cases hw:u4 T i k with
  |false=>rw[hw] at hf;cases hf
  |true=>
   rw[hw] at hf
   simp only[cond_false,cond_true] at hf
   unfold u4 at hw
   split at hw
   ·rename_i l
    obtain ⟨vs,rfl,hvs⟩:=hr
    split at hw
    ·rename_i fs hfs
     simp only[qu] at hw
     obtain ⟨⟨hl,hq⟩,hall⟩:=hw
     rw[hfs] at hku
     have hnm:=((hT kt i hi).qd hq).2 fs hfs
     refine ⟨fun w b=>?_,fun w=>?_,?_⟩
     ·rw[show (10000:Nat)=9999+1 from rfl]
      rw[Instr.checkKey]
      simp only[Sem.run_bind,run_underlying hku,Result.andThen_ok]
      rw[←Array.forIn_toList]
      refine (congrArg (fun r=>Result.andThen r _) (s7 fs.toList fun f hf=>?_)).trans Z
      have hn:=hnm f hf
      have hz:=List.all_eq_true.1 hall f hf
      split at hz
      ·rename_i j x hj hx
       obtain ⟨v,hv,hvr⟩:=e9 (w:=w) hT hx hvs
       have hkc:=MapKept.run_checkKey (P:=P) (w:=w) ((hT f.type j hj).und) (jY hz hvr) b 9998
       simp[hn,hv,hkc]
      ·cases hz
     ·have hb:∀n,Instr.sameBits (n+2) (.agg vs.toArray) (.agg vs.toArray)=true:=fun n=>by
       simp only[Instr.sameBits,beq_self_eq_true,Bool.true_and]
       exact od n hl hvs
      unfold Instr.keyThatStays
      rw[if_pos (hb 9998)];rfl
     ·have hw:(match P.underlying kt with|some (.array _ _)|some (.struct _)=>true|_=>false)=true:=by rw[hku]
      rcases s8 hT (show aS φ (.ag l) (.agg vs.toArray) from ⟨vs,rfl,hvs⟩) es ms 0 r h hf with ⟨g1,g2⟩|⟨j,y,e,g1,g2,g3,g4,g5⟩
      ·exact .inl ⟨g1,fun w=>by rw[run_findKey_eq w hw];exact g2 w⟩
      ·rw[Nat.zero_add] at g1 g2
       exact .inr ⟨j,y,e,g1,fun w=>by rw[run_findKey_eq w hw];exact g2 w,g3,g4,g5⟩
    ·cases hw
   ·cases hw
noncomputable def lP (T:TT) (t:Nat) (es:List (EV × EV)) (k:EV) (ok:Bool):Option EV:=
 match T t with
 |some i=>match i.d with
  |.map kt et=>match T kt,T et with
   |some ik,some ie=>match s6 T kt ik k es with
     |some (some (_,v))=>some (bif ok then .tu [v,.b true] else v)
     |some none=>some (bif ok then .tu [ie.v,.b false] else ie.v)
     |none=>none
   |_,_=>none
  |_=>none
 |none=>none
noncomputable def cellsOf (H:Hp) (b off n:Nat):Option (List EV):=
 match (H.get b).bind VO.cs? with
 |some cs=>bif Nat.ble (off+n) cs.length then some ((cs.drop off).take n) else none
 |none=>none
def DV:List EV→Option (List UInt8)
 |[]=>some []
 |.i .i32 (.ofNat n)::l=>match DV l with
  |some m=>bif Nat.blt n 128 then some (n.toUInt8::m) else none
  |none=>none
 |_=>none
noncomputable def m5 (T:TT) (H:Hp) (s d:Nat) (x:EV):Option EV:=
 match T s,T d with
 |some is_,some id_=>match is_.d,id_.d with
  |.slice e,.string=>match T e with
   |some ie=>match ie.d,x with
    |.int .i32,.sl b off n k _=>bif Nat.beq k 1 then match cellsOf H b off n with
     |some l=>(DV l).map fun m=>.s ⟨m.toArray⟩
     |none=>none
     else none
    |_,_=>none
   |none=>none
  |_,_=>none
 |_,_=>none
noncomputable def FM (T:TT) (g:Nat→EV) (H:Hp) (op:Op):Option EV:=
 match op with
 |.load t x=>match bR g x with
  |some (.p b off)=>n6 T H t b off
  |_=>none
 |.lookup t x y ok=>match bR g x,bR g y with
  |some (.m b),some k=>match H.get b with
   |some (.mp es)=>lP T t es k ok
   |_=>none
  |some .nm,some k=>lP T t [] k ok
  |_,_=>none
 |.convert s d x=>match bR g x with
  |some a=>m5 T H s d a
  |none=>none
 |.call ⟨.builtin .len,ar,ts⟩=>match ar.toList,ts.toList with
  |[x],[t]=>match bR g x,T t with
   |some (.m b),some i=>match i.d,H.get b with
    |.map _ _,some (.mp es)=>some (.i .i64 es.length)
    |_,_=>none
   |some .nm,some i=>match i.d with
    |.map _ _=>some (.i .i64 0)
    |_=>none
   |_,_=>none
  |_,_=>none
 |_=>none
noncomputable def G2 (T:TT) (g:Nat→EV) (H:Hp) (t:TypeId) (x:Operand):Option EV:=match bR g x with
 |some (.p b off)=>n6 T H t b off
 |_=>none
noncomputable def G3 (T:TT) (g:Nat→EV) (H:Hp) (t:TypeId) (x y:Operand) (ok:Bool):Option EV:=match bR g x,bR g y with
 |some (.m b),some k=>match H.get b with
  |some (.mp es)=>lP T t es k ok
  |_=>none
 |some .nm,some k=>lP T t [] k ok
 |_,_=>none
noncomputable def G4 (T:TT) (g:Nat→EV) (H:Hp) (s d:TypeId) (x:Operand):Option EV:=match bR g x with
 |some a=>m5 T H s d a
 |none=>none
noncomputable def G5 (T:TT) (g:Nat→EV) (H:Hp) (ar:Array Operand) (ts:Array TypeId):Option EV:=match ar.toList,ts.toList with
 |[x],[t]=>match bR g x,T t with
  |some (.m b),some i=>match i.d,H.get b with
   |.map _ _,some (.mp es)=>some (.i .i64 es.length)
   |_,_=>none
  |some .nm,some i=>match i.d with
   |.map _ _=>some (.i .i64 0)
   |_=>none
  |_,_=>none
 |_,_=>none
noncomputable def G6 (T:TT) (g:Nat→EV) (H:Hp) (c:Call):Option EV:=match c with
 |⟨.builtin .len,ar,ts⟩=>G5 T g H ar ts
 |_=>none
noncomputable def G7 (T:TT) (g:Nat→EV) (H:Hp) (op:Op):Option EV:=
 match op with
 |.load t x=>G2 T g H t x
 |.lookup t x y ok=>G3 T g H t x y ok
 |.convert s d x=>G4 T g H s d x
 |.call c=>G6 T g H c
 |_=>none
theorem FN (T:TT) (g:Nat→EV) (H:Hp) (op:Op):G7 T g H op=FM T g H op:=by
 cases op<;>try rfl
 case call c=>
  obtain ⟨cl,ar,ts⟩:=c
  cases cl<;>try rfl
  rename_i b
  cases b<;>rfl
section
variable {P:Program} {φ:b7} {g:Nat→EV} {ρ:bG} {w:World} {T:TT} {I:aC} {H:Hp} {nx:Nat} {F:List (Nat × Obj)} {E:World}
theorem gV (hR:cT I φ H nx F E w) {b off n:Nat} {l:List EV} (h:cellsOf H b off n=some l) {q:lu} (hq:φ b=some q) :
  ∃vs,RelVs φ l vs∧vs.length=n∧(∀u∈vs,u.oneCell'=true)∧∀(j:Nat) v,vs[j]?=some v→w.cell? ⟨q.r,q.sh+off+j,none⟩=some v:=by
 unfold cellsOf at h
 split at h
 ·rename_i cs hc
  obtain ⟨o,ho,hoc⟩:=Option.bind_eq_some_iff.1 hc
  obtain ⟨vs,h1,h2,h3⟩:=hR.read ho hoc hq
  cases hb:Nat.ble (off+n) cs.length with
  |false=>rw[hb] at h;cases h
  |true=>
   rw[hb] at h;cases h
   have hb:=Nat.le_of_ble_eq_true hb
   have hl:((vs.drop off).take n).length=n:=by rw[List.length_take,List.length_drop,h1.length];omega
   refine ⟨(vs.drop off).take n,(h1.drop off).take n,hl,fun u hu=>h2 u (List.mem_of_mem_drop (List.mem_of_mem_take hu)),fun j v hj=>?_⟩
   have hjl:=(List.getElem?_eq_some_iff.1 hj).1
   rw[hl] at hjl
   rw[List.getElem?_take_of_lt hjl,List.getElem?_drop] at hj
   rw[Nat.add_assoc];exact h3 _ _ hj
 ·cases h
theorem u5 {n:Nat} (h:n<128):Utf8.encode (n:Int)=⟨#[n.toUInt8]⟩:=
 (show ∀n:Fin 128,Utf8.encode ((n:Nat):Int)=⟨#[(n:Nat).toUInt8]⟩ by decide +kernel) ⟨n,h⟩
theorem l9:∀(ns:List Nat) (r:List UInt8),(∀n∈ns,n<128)→(ns.map Int.ofNat).foldl (fun r n=>r++Utf8.encode n) (⟨r.toArray⟩:ByteArray)=⟨(r++ns.map Nat.toUInt8).toArray⟩
 |[],r,_=>by simp
 |n::ns,r,h=>by
  rw[List.map_cons,List.foldl_cons,show Utf8.encode (Int.ofNat n)=⟨#[n.toUInt8]⟩ from u5 (h n (.head _))]
  have e:(⟨r.toArray⟩:ByteArray)++⟨#[n.toUInt8]⟩=⟨(r++[n.toUInt8]).toArray⟩:=by
   apply ByteArray.ext
   simp[ByteArray.data_append]
  rw[e,l9 ns _ fun m hm=>h m (.tail _ hm)]
  simp
theorem wA {φ:b7}:∀(l:List EV) (m:List UInt8) (vs:List Value),DV l=some m→RelVs φ l vs→∃ns:List Nat,vs=(ns.map Int.ofNat).map (Value.int .i32)∧m=ns.map Nat.toUInt8∧∀n∈ns,n<128
 |[],m,vs,h,hr=>by cases h;have hr:vs=[]:=hr;subst hr;exact ⟨[],rfl,rfl,by simp⟩
 |x::l,m,vs,h,⟨v,us,e,h1,h2⟩=>by
  subst e
  unfold DV at h
  split at h
  ·cases ‹_::_=[]›
  ·rename_i n l' e
   cases e
   split at h
   ·rename_i m' hm
    cases hb:Nat.blt n 128 with
    |false=>rw[hb] at h;cases h
    |true=>
     rw[hb] at h;cases h
     have hb:n<128:=Nat.le_of_ble_eq_true hb
     obtain ⟨ns,e1,e2,e3⟩:=wA l m' us hm h2
     have h1:v=.int .i32 (.ofNat n):=h1
     subst h1 e1 e2
     exact ⟨n::ns,rfl,rfl,fun k hk=>(List.mem_cons.1 hk).elim (fun e=>e▸hb) (e3 k)⟩
   ·cases h
  ·cases h
theorem u6 (hT:cJ P T) (hR:cT I φ H nx F E w) {s d:Nat} {x y:EV} {a:Value} (h:m5 T H s d x=some y) (hx:aS φ x a):∃v,(convert s d a).run P w=.ok v w∧aS φ y v:=by
 unfold m5 at h
 split at h
 ·rename_i i1 i2 h1 h2
  split at h
  ·rename_i e e1 e2
   split at h
   ·rename_i ie h3
    split at h
    ·rename_i b off n k c e3
     have u1:=e1▸(hT s i1 h1).und
     have u2:=e2▸(hT d i2 h2).und
     have u3:=e3▸(hT e ie h3).und
     cases hk:Nat.beq k 1 with
     |false=>rw[hk] at h;cases h
     |true=>
      rw[hk] at h
      simp only[cond_true] at h
      split at h
      ·rename_i l hl
       obtain ⟨m,hm,rfl⟩:=Option.map_eq_some_iff.1 h
       obtain ⟨q,o,cap,hq,rfl,x1,x2,_⟩:=hx
       obtain ⟨vs,g1,g2,g3,g4⟩:=gV hR hl hq
       obtain ⟨ns,rfl,rfl,hns⟩:=wA l m vs hm g1
       have hload:(loadCells (⟨q.r,o,none⟩:Addr) n).run P w=.ok ((ns.map Int.ofNat).map (Value.int .i32)).toArray w:=by
        have:=run_loadCells_list (P:=P) w (⟨q.r,o,none⟩:Addr) ((ns.map Int.ofNat).map (Value.int .i32)) (fun j v hj=>by
         have hjl:=(List.getElem?_eq_some_iff.1 hj).1
         rw[g2] at hjl
         rw[bo,x2 (by omega)];exact g4 j v hj)
        rw[g2] at this
        exact this
       refine ⟨.string (runesBytes (ns.map Int.ofNat)),?_,?_⟩
       ·rw[run_convert_runes_string (P:=P) w s d e _ _ _ u1 u3 u2,run_runesToString w _ n cap _ hload]
       ·show Value.string _=Value.string _
        have:=l9 ns [] hns
        unfold runesBytes
        rw[show (ByteArray.empty:ByteArray)=⟨([]:List UInt8).toArray⟩ from rfl,this]
        simp
      ·cases h
    ·cases h
   ·cases h
  ·cases h
 ·cases h
theorem s9 (hT:cJ P T) {t:Nat} {es:List (EV × EV)} {ms:List MapEntry} {k:EV} {kv:Value} {ok:Bool} {x:EV} (h:lP T t es k ok=some x) (hr:aS φ k kv) (he:cR φ es ms) :
  ∃kt et v u ok',P.underlying t=some (.map kt et)∧aS φ x v∧v=(if ok then .tuple #[u,.bool ok'] else u) ∧
   (∀w b,(Instr.checkKey b 10000 kt kv).run P w=.ok () w)∧((∃j,ok'=true∧∀w,(Instr.findKey kt kv ms).run P w=.ok (some (j,u)) w)∨(ok'=false∧(∀w,(Instr.findKey kt kv ms).run P w=.ok none w)∧∀w,(zeroValue et).run P w=.ok u w)):=by
 unfold lP at h
 split at h
 ·rename_i i hi
  split at h
  ·rename_i kt et hd
   split at h
   ·rename_i ik ie hik hie
    have hu:=hd▸(hT t i hi).und
    split at h
    ·rename_i j v hf
     obtain ⟨hc,_,⟨e,_⟩|⟨j,y,e,g1,g2,g3,_⟩⟩:=gG hT hik hr he hf
     ·cases e
     ·cases g1
      cases h
      refine ⟨kt,et,_,e.val,true,hu,?_,Z,hc,.inl ⟨_,Z,g2⟩⟩
      cases ok
      ·exact g3
      ·exact ⟨[e.val,.bool true],rfl,_,_,rfl,g3,_,_,rfl,rfl,rfl⟩
    ·rename_i hf
     obtain ⟨hc,_,⟨_,g2⟩|⟨j,y,e,g1,_⟩⟩:=gG hT hik hr he hf
     ·obtain ⟨zv,hz,hzr⟩:=(hT et ie hie).zeroV
      cases h
      refine ⟨kt,et,_,zv,false,hu,?_,Z,hc,.inr ⟨Z,g2,hz⟩⟩
      cases ok
      ·exact hzr φ
      ·exact ⟨[zv,.bool false],rfl,_,_,rfl,hzr φ,_,_,rfl,rfl,rfl⟩
     ·cases g1
    ·cases h
   ·cases h
  ·cases h
 ·cases h
theorem cT.readM (h:cT I φ H nx F E w) {k:Nat} {es:List (EV × EV)} (hk:H.get k=some (.mp es)) {q:lu} (hq:φ k=some q):∃(ms:List MapEntry) (c:Nat),cR φ es ms∧w.heap[q.r]?=some (.map ms.toArray c):=by
 obtain ⟨A,L,⟨q',ms,h1,h2,rfl⟩,_,hS⟩:=h.pick hk
 rw[hq] at h1;cases h1
 exact ⟨ms,_,h2.1,hS.own _ (.head _)⟩
theorem DW (hT:cJ P T) (hg:eA φ g ρ) (hR:cT I φ H nx F E w) {o:Oper} {x:EV} (h:FM T g H o.op=some x):∃v,(execOp (ev ρ) o).run P w=.ok (.value v) w∧aS φ x v:=by
 obtain ⟨dst,op,ty,pos,af,gu⟩:=o
 dsimp only at h
 unfold FM at h
 split at h
 ·split at h
  ·rename_i hx
   obtain ⟨v,h1,h2⟩:=pN hT hR h (aG hg hx)
   exact ⟨v,fX h1,h2⟩
  ·cases h
 ·rename_i t x' y ok
  split at h
  ·rename_i b k hx hy
   obtain ⟨q,hq,hxv⟩:=aG hg hx
   have hyv:=aG hg hy
   split at h
   ·rename_i es hes
    obtain ⟨ms,c,hm,hb⟩:=hR.readM hes hq
    obtain ⟨kt,et,v,u,ok',hu,hv,he,hc,hf⟩:=s9 hT h hyv hm
    refine ⟨v,?_,hv⟩
    have hc:=hc w ms.isEmpty
    rcases hf with ⟨j,rfl,hf⟩|⟨rfl,hf,hz⟩
    ·have hf:=hf w
     simp[execOp,Instr.lookup,run_underlying hu,hxv,MapKept.run_getObj_map hb,hc,hf,Result.andThen,he]
    ·have hf:=hf w
     simp[execOp,Instr.lookup,run_underlying hu,hxv,MapKept.run_getObj_map hb,hc,hf,hz,Result.andThen,he]
   ·cases h
  ·rename_i k hx hy
   have hxv:ev ρ x'=.map none:=aG hg hx
   have hyv:=aG hg hy
   obtain ⟨kt,et,v,u,ok',hu,hv,he,hc,hf⟩:=s9 (ms:=[]) hT h hyv rfl
   refine ⟨v,?_,hv⟩
   have hc:=hc w true
   rcases hf with ⟨j,rfl,hf⟩|⟨rfl,hf,hz⟩
   ·have hf:=hf w
    simp[execOp,Instr.lookup,run_underlying hu,hxv,hc,hf,Result.andThen,he]
   ·have hf:=hf w
    simp[execOp,Instr.lookup,run_underlying hu,hxv,hc,hf,hz,Result.andThen,he]
  ·cases h
 ·split at h
  ·rename_i hx
   obtain ⟨v,h1,h2⟩:=u6 hT hR h (aG hg hx)
   exact ⟨v,fX h1,h2⟩
  ·cases h
 ·split at h
  ·rename_i ar ts _ _ x' t h1 h2
   have h1:=yX h1
   have h2:=yX h2
   subst h1 h2
   split at h
   ·rename_i b i hx hi
    obtain ⟨q,hq,hxv⟩:=aG hg hx
    have hu:=(hT t i hi).und
    split at h
    ·rename_i es hd hes
     rw[hd] at hu
     cases h
     obtain ⟨ms,c,hm,hb⟩:=hR.readM hes hq
     have hl:ms.length=es.length:=by
      clear hb hes
      induction es generalizing ms with
      |nil=>have hm:ms=[]:=hm;rw[hm];rfl
      |cons e es ih=>obtain ⟨e',r,rfl,_,_,h3⟩:=hm;simp[ih r h3]
     refine ⟨.int .i64 es.length,?_,Z⟩
     simp[execOp,resolve,hxv,invoke,builtin,Builtin.len_,run_underlying hu,goInt,MapKept.run_getObj_map hb,hl]
    ·cases h
   ·rename_i i hx hi
    have hxv:ev ρ x'=.map none:=aG hg hx
    have hu:=(hT t i hi).und
    split at h
    ·rename_i hd
     rw[hd] at hu
     cases h
     refine ⟨.int .i64 0,?_,Z⟩
     simp[execOp,resolve,hxv,invoke,builtin,Builtin.len_,run_underlying hu,goInt]
    ·cases h
   ·cases h
  ·cases h
 ·cases h
theorem B5 (hT:cJ P T) (hg:eA φ g ρ) (hR:cT I φ H nx F E w) {o:Oper} {x:EV} (h:G7 T g H o.op=some x):∃v,(execOp (ev ρ) o).run P w=.ok (.value v) w∧aS φ x v:=DW hT hg hR (FN T g H o.op▸h)
end
end
end Go.Proofs.YthphijnnbfjikaaGreatDoor
