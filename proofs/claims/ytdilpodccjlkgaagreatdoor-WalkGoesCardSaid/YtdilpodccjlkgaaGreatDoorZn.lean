/- What the facts rest on stays so: a step, a run; at each place the facts are so. Plain law. No conditions. -/
import Derived.Test.YtdilpodccjlkgaaGreatDoorZi
import Derived.Test.YtdilpodccjlkgaaGreatDoorZm
import Derived.Test.YtdilpodccjlkgaaGreatDoorZc
import Derived.Test.YtdilpodccjlkgaaGreatDoorZa
set_option linter.unusedVariables false
set_option linter.unusedSimpArgs false
set_option linter.unusedSectionVars false
namespace Go.Proofs.YtdilpodccjlkgaaGreatDoor
structure GS where
 ints:List Int
 bools:List Bool
 arrs:List Int
 arrays:List (List Int)
 blk:Int
 pc:Nat
 en:Int
 val:Int
 tr:Int
 trace:List Int
 st:Nat
 ck:Nat→Nat
 ended:Bool
structure xw where
 int:Int
 b:Bool
 arr:Int
structure zJ where
 args:List xw
 arrays:List (List Int)
def vi (l:List Int) (v:Int):Int:=(l[v.toNat]?).getD 0
def bj (x:aF):Int:=(x.args[0]?).getD 0
def b7 (x:aF):Int:=(x.args[1]?).getD 0
def wv (x:aF):Int:=(x.args[2]?).getD 0
def dE (s:GS) (a:Int):List Int:=(s.arrays[a.toNat]?).getD []
def di (s:GS) (a i:Int):Bool:=decide (0≤a∧a<s.arrays.length∧0≤i∧i<(dE s a).length)
def zK (l:List Int) (ints:List Int):Int:=if 1<l.length then vi ints ((l[1]?).getD 0) else 0
def ee (s:GS) (op:Int) (l:List Int):Bool:=
 if op=18 then di s (vi s.arrs ((l[0]?).getD 0)) (zK l s.ints)
 else if op=19 then decide (0≤vi s.arrs ((l[0]?).getD 0))
 else if op=20 then decide (vi s.ints ((l[0]?).getD 0)≠0)
 else if op=21 then decide (dk 0 (vi s.ints ((l[0]?).getD 0)) (zK l s.ints))
 else if op=22 then decide (dk 1 (vi s.ints ((l[0]?).getD 0)) (zK l s.ints))
 else if op=23 then decide (dk 2 (vi s.ints ((l[0]?).getD 0)) (zK l s.ints))
 else decide (0≤vi s.ints ((l[0]?).getD 0)∧vi s.ints ((l[0]?).getD 0)≤64)
def lL (s:GS) (t:Nat):GS:={ s with ck:=fun i=>if i=t then s.ck i+1 else s.ck i }
def dw (s:GS) (e:Int):GS:={ s with en:=e,ended:=true }
def Da (s:GS) (t:Int):GS:={ s with en:=1,tr:=t,ended:=true }
def stI (s:GS) (d v:Int):GS:={ s with ints:=s.ints.set d.toNat v }
def stB (s:GS) (d:Int) (v:Bool):GS:={ s with bools:=s.bools.set d.toNat v }
def stA (s:GS) (d v:Int):GS:={ s with arrs:=s.arrs.set d.toNat v }
def qA (a b:Int):Int:=IntKind.i64.wrap (a.tdiv b)
def lH (a b:Int):Int:=if b=-1 then 0 else IntKind.i64.wrap (a - IntKind.i64.wrap (IntKind.i64.wrap (a.tdiv b)*b))
def aG (s:GS) (x:aF):Int:=vi s.ints (bj x)
def bG (s:GS) (x:aF):Int:=vi s.ints (b7 x)
def pG (s:GS) (x:aF):Bool:=gb s.bools (bj x)
def qG (s:GS) (x:aF):Bool:=gb s.bools (b7 x)
def rG (s:GS) (x:aF):Int:=vi s.arrs (bj x)
def doG (s:GS) (x:aF):GS:=
 if x.op=0 then stI s x.dst x.num
 else if x.op=1∨x.op=25∨x.op=26 then stA (stB (stI s x.dst (aG s x)) x.dst (pG s x)) x.dst (rG s x)
 else if x.op=2 then stI s x.dst (IntKind.i64.wrap (iu 0 (aG s x) (bG s x)))
 else if x.op=3 then stI s x.dst (IntKind.i64.wrap (iu 1 (aG s x) (bG s x)))
 else if x.op=4 then stI s x.dst (IntKind.i64.wrap (iu 2 (aG s x) (bG s x)))
 else if x.op=5 then (if bG s x=0 then dw s 2 else stI s x.dst (qA (aG s x) (bG s x)))
 else if x.op=6 then (if bG s x=0 then dw s 2 else stI s x.dst (lH (aG s x) (bG s x)))
 else if x.op=7 then stB s x.dst (decide (aG s x=bG s x))
 else if x.op=8 then stB s x.dst (decide (aG s x<bG s x))
 else if x.op=9 then stB s x.dst (decide (aG s x≤bG s x))
 else if x.op=10 then stB s x.dst (!pG s x)
 else if x.op=11 then stB s x.dst (pG s x&&qG s x)
 else if x.op=12 then (if rG s x<0 then dw s 2 else stI s x.dst ((dE s (rG s x)).length))
 else if x.op=13 then (if di s (rG s x) (bG s x)=true then stI s x.dst (vi (dE s (rG s x)) (bG s x)) else dw s 2)
 else if x.op=14 then (if di s (rG s x) (bG s x)=true then { s with arrays:=s.arrays.set (rG s x).toNat ((dE s (rG s x)).set (bG s x).toNat (vi s.ints (wv x))) } else dw s 2)
 else if x.op=15 then (if aG s x<0∨64<aG s x then dw s 2 else if 32≤s.arrays.length then dw s 3 else stA { s with arrays:=s.arrays++[List.replicate (aG s x).toNat 0] } x.dst s.arrays.length)
 else if x.op=16 then stA s x.dst (-1)
 else (if 4096≤s.trace.length then dw s 3 else { s with trace:=s.trace++[aG s x] })
def ba (s:GS) (x:aF):GS:=
 if 18≤x.op∧x.op≤24 then (if ee s x.op x.args=true then lL s (x.op - 17).toNat else Da (lL s (x.op - 17).toNat) (x.op - 17))
 else doG s x
def bT (f:ac) (b:Int):aX:=(f.blocks[b.toNat]?).getD ⟨⟨#[]⟩,[],[],⟨2,0,0,0⟩⟩
def el (p:dG) (b:Int):Int:=((p.from_.zip p.args).find? fun q=>decide (q.1=b)).elim (-1) (·.2)
def assign (s t:GS) (p:dG):GS:=stA (stB (stI t p.dst (vi s.ints (el p s.blk))) p.dst (gb s.bools (el p s.blk))) p.dst (vi s.arrs (el p s.blk))
def goG (s:GS) (to:Int):GS:={ s with blk:=to,pc:=0 }
def fv (f:ac) (s:GS) (to:Int):GS:=
 if (bT f to).phis.all (fun p=>decide (0≤el p s.blk))=true then goG ((bT f to).phis.foldl (assign s) s) to else dw (goG s to) 2
def nV (f:ac) (s:GS):Int:=if (bT f s.blk).term.kind=0∨gb s.bools (bT f s.blk).term.var=true then (bT f s.blk).term.to0 else (bT f s.blk).term.to1
def dn (f:ac) (s:GS):GS:=
 match (bT f s.blk).insts[s.pc]? with
 |some x=>ba { s with pc:=s.pc+1,st:=s.st+1 } x
 |none=>if (bT f s.blk).term.kind=2 then dw { s with st:=s.st+1,val:=vi s.ints (bT f s.blk).term.var } 0 else fv f { s with st:=s.st+1 } (nV f s)
def ic (f:ac):Nat→GS→GS
 |0,s=>s
 |k+1,s=>if s.ended=true then s else ic f k (dn f s)
def nW (f:ac) (i:Nat):Int:=((f.vars[i]?).map (·.ty)).getD 0
def rJ (f:ac) (i:Nat) (a:xw):Int:=if nW f i=0 then a.int else 0
def rK (f:ac) (i:Nat) (a:xw):Bool:=if nW f i=0 then false else if nW f i=1 then a.b else false
def qB (f:ac) (i:Nat) (a:xw):Int:=if nW f i=0 then -1 else if nW f i=1 then -1 else a.arr
def dP {α β:Type} (g:Nat→α→β) (d:β) (n:Nat) (l:List α):List β:=l.zipIdx.map (fun q=>g q.2 q.1)++List.replicate (n - l.length) d
def rL (f:ac) (i:zJ):GS:=⟨dP (rJ f) 0 f.vars.length i.args,dP (rK f) false f.vars.length i.args,dP (qB f) (-1) f.vars.length i.args,i.arrays,0,0,3,0,0,[],0,fun _=>0,false⟩
structure bn (f:ac) (s:GS):Prop where
 li:s.ints.length=f.vars.length
 lb:s.bools.length=f.vars.length
 la:s.arrs.length=f.vars.length
 i64:∀x∈s.ints,bB x
 arr:∀x∈s.arrs,-1≤x∧x<s.arrays.length
 ls:s.arrays.length≤40
 lr:∀r∈s.arrays,r.length≤100
 r64:∀r∈s.arrays,∀x∈r,bB x
 lt:s.trace.length≤4096
 b0:0≤s.blk
 b1:s.blk<f.blocks.length
 pc:s.pc≤(bT f s.blk).insts.length
theorem gf {l:List Int} {v:Int} (h1:v<l.length) (h0:0≤v):l[v.toNat]?=some (vi l v):=by
 unfold vi;rw[qt (by omega)];rfl
theorem GC {l:List Int} {v:Int} (h1:v<l.length) (h0:0≤v):vi l v∈l:=w4 (gf h1 h0)
theorem qC {l:List Int} {v:Int} (h:∀x∈l,bB x):bB (vi l v):=by
 unfold vi
 cases e:l[v.toNat]? with
 |none=>exact ⟨by decide,by decide⟩
 |some x=>exact h x (w4 e)
theorem iy {s:GS} {a:Int} (h0:0≤a) (h1:a<s.arrays.length):s.arrays[a.toNat]?=some (dE s a):=by
 unfold dE;rw[qt (by omega)];rfl
theorem mJ {s:GS} {a:Int} (h0:0≤a) (h1:a<s.arrays.length):dE s a∈s.arrays:=w4 (iy h0 h1)
theorem fw {α:Type} {l:List α} {n:Nat} {a x:α} (h:x∈l.set n a):x∈l∨x=a:=List.mem_or_eq_of_mem_set h
theorem bn.stI {f:ac} {s:GS} (h:bn f s) {d v:Int} (hv:bB v):bn f (stI s d v):=
 ⟨by simp[Go.Proofs.YtdilpodccjlkgaaGreatDoor.stI,h.li],h.lb,h.la,fun x hx=>(fw hx).elim (h.i64 x) (fun e=>e▸hv),h.arr,h.ls,h.lr,h.r64,h.lt,h.b0,h.b1,h.pc⟩
theorem bn.stB {f:ac} {s:GS} (h:bn f s) {d:Int} {v:Bool}:bn f (stB s d v):=
 ⟨h.li,by simp[Go.Proofs.YtdilpodccjlkgaaGreatDoor.stB,h.lb],h.la,h.i64,h.arr,h.ls,h.lr,h.r64,h.lt,h.b0,h.b1,h.pc⟩
theorem bn.stA {f:ac} {s:GS} (h:bn f s) {d v:Int} (hv:-1≤v∧v<s.arrays.length):bn f (stA s d v):=
 ⟨h.li,h.lb,by simp[Go.Proofs.YtdilpodccjlkgaaGreatDoor.stA,h.la],h.i64,fun x hx=>(fw hx).elim (h.arr x) (fun e=>e▸hv),h.ls,h.lr,h.r64,h.lt,h.b0,h.b1,h.pc⟩
theorem bn.stop {f:ac} {s:GS} (h:bn f s) (e:Int):bn f (dw s e):=⟨h.li,h.lb,h.la,h.i64,h.arr,h.ls,h.lr,h.r64,h.lt,h.b0,h.b1,h.pc⟩
theorem bn.trap {f:ac} {s:GS} (h:bn f s) (t:Int):bn f (Da s t):=⟨h.li,h.lb,h.la,h.i64,h.arr,h.ls,h.lr,h.r64,h.lt,h.b0,h.b1,h.pc⟩
theorem bn.bump {f:ac} {s:GS} (h:bn f s) (t:Nat):bn f (lL s t):=⟨h.li,h.lb,h.la,h.i64,h.arr,h.ls,h.lr,h.r64,h.lt,h.b0,h.b1,h.pc⟩
theorem GD {f:ac} {s:GS} (h:bn f s) {v:Int} (h1:v<f.vars.length) (h0:0≤v):-1≤vi s.arrs v∧vi s.arrs v<s.arrays.length:=
 h.arr _ (GC (by rw[h.la];exact h1) h0)
theorem jV {f:ac} {s:GS} (h:bn f s) {v:Int} (hn:v<f.vars.length∧0≤v):-1≤vi s.arrs v∧vi s.arrs v<s.arrays.length:=GD h hn.1 hn.2
theorem iW {s:GS} {a i:Int}:di s a i=true↔0≤a∧a<s.arrays.length∧0≤i∧i<(dE s a).length:=by unfold di;rw[wg]
theorem zL (x:Int):bB (IntKind.i64.wrap x):=by
 rw[eE];unfold bB;omega
theorem GE (a b:Int):bB (lH a b):=by
 unfold lH;split
 ·exact ⟨by decide,by decide⟩
 ·exact zL _
theorem eG {f:ac} {v:Int} (h:bc f v=true):v<f.vars.length∧0≤v:=by
 unfold bc at h;simp at h;exact ⟨h.2,h.1⟩
theorem bM.a0 {f:ac} {x:aF} (h:bM f x) (hl:0<x.args.length):bj x<f.vars.length∧0≤bj x:=by
 unfold bj;rw[qt hl];exact eG (h.args _ (qx hl))
theorem bM.a1 {f:ac} {x:aF} (h:bM f x) (hl:1<x.args.length):b7 x<f.vars.length∧0≤b7 x:=by
 unfold b7;rw[qt hl];exact eG (h.args _ (qx hl))
theorem bM.a2 {f:ac} {x:aF} (h:bM f x) (hl:2<x.args.length):wv x<f.vars.length∧0≤wv x:=by
 unfold wv;rw[qt hl];exact eG (h.args _ (qx hl))
theorem GF:∀j:Nat,j<27→(bb (j:Int)).length=([0,1,2,2,2,2,2,2,2,2,1,2,1,2,3,1,0,1,2,1,1,2,2,2,1,2,2][j]?).getD 0:=by decide
theorem bM.argc {f:ac} {x:aF} (h:bM f x):x.args.length=([0,1,2,2,2,2,2,2,2,2,1,2,1,2,3,1,0,1,2,1,1,2,2,2,1,2,2][x.op.toNat]?).getD 0:=by
 have h1:=h.op
 obtain ⟨j,e⟩:∃j:Nat,x.op=(j:Int):=⟨x.op.toNat,by omega⟩
 rw[h.len,e,GF j (by omega),Int.toNat_natCast]
theorem Db:∀j:Nat,j<27→cR (j:Int)=([true,true,true,true,true,true,true,true,true,true,true,true,true,true,false,true,true,false,false,false,false,false,false,false,false,true,true][j]?).getD false:=by decide
theorem bM.made {f:ac} {x:aF} (h:bM f x) (hm:([true,true,true,true,true,true,true,true,true,true,true,true,true,true,false,true,true,false,false,false,false,false,false,false,false,true,true][x.op.toNat]?).getD false=true):x.dst<f.vars.length∧0≤x.dst:=by
 have h1:=h.op
 obtain ⟨j,e⟩:∃j:Nat,x.op=(j:Int):=⟨x.op.toNat,by omega⟩
 rw[e,Int.toNat_natCast,←Db j (by omega),←e] at hm
 rcases h.dst with g|g
 ·rw[g.1] at hm;cases hm
 ·exact eG g.2.2
theorem bn.doG {f:ac} {s:GS} (h:bn f s) {x:aF} (hx:bM f x) (h64:bB x.num):bn f (doG s x):=by
 have hc:=hx.argc
 have st:∀e,bn f (dw s e):=h.stop
 have wr:∀d v,bn f (Go.Proofs.YtdilpodccjlkgaaGreatDoor.stI s d (IntKind.i64.wrap v)):=fun _ _=>h.stI (zL _)
 have bo:∀d v,bn f (Go.Proofs.YtdilpodccjlkgaaGreatDoor.stB s d v):=fun _ _=>h.stB
 unfold Go.Proofs.YtdilpodccjlkgaaGreatDoor.doG
 by_cases e:x.op=0
 ·rw[if_pos e];exact h.stI h64
 rw[if_neg e];clear e
 by_cases e:x.op=1∨x.op=25∨x.op=26
 ·rw[if_pos e]
  refine bn.stA (s:=Go.Proofs.YtdilpodccjlkgaaGreatDoor.stB (Go.Proofs.YtdilpodccjlkgaaGreatDoor.stI s x.dst (aG s x)) x.dst (pG s x)) (h.stI (qC h.i64)).stB ?_
  exact jV h (hx.a0 (by rcases e with e|e|e<;>(rw[e] at hc;rw[hc];decide)))
 rw[if_neg e];clear e
 by_cases e:x.op=2
 ·rw[if_pos e];exact wr _ _
 rw[if_neg e];clear e
 by_cases e:x.op=3
 ·rw[if_pos e];exact wr _ _
 rw[if_neg e];clear e
 by_cases e:x.op=4
 ·rw[if_pos e];exact wr _ _
 rw[if_neg e];clear e
 by_cases e:x.op=5
 ·rw[if_pos e]
  split
  ·exact st 2
  ·exact wr _ _
 rw[if_neg e];clear e
 by_cases e:x.op=6
 ·rw[if_pos e]
  split
  ·exact st 2
  ·exact h.stI (GE _ _)
 rw[if_neg e];clear e
 by_cases e:x.op=7
 ·rw[if_pos e];exact bo _ _
 rw[if_neg e];clear e
 by_cases e:x.op=8
 ·rw[if_pos e];exact bo _ _
 rw[if_neg e];clear e
 by_cases e:x.op=9
 ·rw[if_pos e];exact bo _ _
 rw[if_neg e];clear e
 by_cases e:x.op=10
 ·rw[if_pos e];exact bo _ _
 rw[if_neg e];clear e
 by_cases e:x.op=11
 ·rw[if_pos e];exact bo _ _
 rw[if_neg e];clear e
 by_cases e:x.op=12
 ·rw[if_pos e]
  split
  ·exact st 2
  ·rename_i hr
   have hl:=h.lr _ (mJ (by omega) (jV h (hx.a0 (by rw[e] at hc;rw[hc];decide))).2:dE s (rG s x)∈s.arrays)
   exact h.stI ⟨by omega,by omega⟩
 rw[if_neg e];clear e
 by_cases e:x.op=13
 ·rw[if_pos e]
  split
  ·rename_i hp
   obtain ⟨h1,h2,_⟩:=iW.1 hp
   exact h.stI (qC (h.r64 _ (mJ h1 h2)))
  ·exact st 2
 rw[if_neg e];clear e
 by_cases e:x.op=14
 ·rw[if_pos e]
  split
  ·rename_i hp
   obtain ⟨h1,h2,_⟩:=iW.1 hp
   refine ⟨h.li,h.lb,h.la,h.i64,fun y hy=>by simpa using h.arr y hy,by simpa using h.ls,fun r hr=>?_,fun r hr=>?_,h.lt,h.b0,h.b1,h.pc⟩
   ·rcases fw hr with hr|hr
    ·exact h.lr r hr
    ·rw[hr,List.length_set];exact h.lr _ (mJ h1 h2)
   ·rcases fw hr with hr|hr
    ·exact h.r64 r hr
    ·intro y hy
     rw[hr] at hy
     rcases fw hy with hy|hy
     ·exact h.r64 _ (mJ h1 h2) y hy
     ·rw[hy];exact qC h.i64
  ·exact st 2
 rw[if_neg e];clear e
 by_cases e:x.op=15
 ·rw[if_pos e]
  split
  ·exact st 2
  ·rename_i ha
   split
   ·exact st 3
   ·rename_i hs
    refine bn.stA (s:={ s with arrays:=s.arrays++[List.replicate (aG s x).toNat 0] }) ⟨h.li,h.lb,h.la,h.i64,fun y hy=>?_,?_,fun r hr=>?_,fun r hr=>?_,h.lt,h.b0,h.b1,h.pc⟩ ?_
    ·have:=h.arr y hy
     simp only[qz,List.length_singleton];omega
    ·simp only[qz,List.length_singleton];omega
    ·rcases List.mem_append.1 hr with hr|hr
     ·exact h.lr r hr
     ·rw[List.mem_singleton.1 hr,List.length_replicate];omega
    ·rcases List.mem_append.1 hr with hr|hr
     ·exact h.r64 r hr
     ·intro y hy
      rw[List.mem_singleton.1 hr] at hy
      rw[(List.mem_replicate.1 hy).2];exact ⟨by decide,by decide⟩
    ·simp only[qz,List.length_singleton];omega
 rw[if_neg e];clear e
 by_cases e:x.op=16
 ·rw[if_pos e];exact h.stA ⟨by omega,by omega⟩
 rw[if_neg e];clear e
 split
 ·exact st 3
 ·rename_i ht
  exact ⟨h.li,h.lb,h.la,h.i64,h.arr,h.ls,h.lr,h.r64,by simp only[qz,List.length_singleton];omega,h.b0,h.b1,h.pc⟩
theorem bn.inst {f:ac} {s:GS} (h:bn f s) {x:aF} (hx:bM f x) (h64:bB x.num):bn f (ba s x):=by
 unfold ba
 split
 ·split
  ·exact h.bump _
  ·exact (h.bump _).trap _
 ·exact h.doG hx h64
structure vx (f:ac):Prop where
 pos:0<f.blocks.length
 phis:∀b∈f.blocks,∀p∈b.phis,tm f p
 insts:∀b∈f.blocks,∀x∈b.insts,bM f x∧bB x.num
 term:∀b∈f.blocks,bC f b.term=true
theorem tC {f:ac} {b:Int} (h0:0≤b) (h1:b<f.blocks.length):f.blocks[b.toNat]?=some (bT f b):=by
 unfold bT;rw[qt (by omega)];rfl
theorem mK {f:ac} {b:Int} (h0:0≤b) (h1:b<f.blocks.length):bT f b∈f.blocks:=w4 (tC h0 h1)
theorem sE {p:dG} {b:Int} (h:0≤el p b):el p b∈p.args:=by
 unfold el at h ⊢
 cases e:(p.from_.zip p.args).find? fun q=>decide (q.1=b) with
 |none=>rw[e] at h;simp at h
 |some q=>exact (List.of_mem_zip (List.mem_of_find?_eq_some e)).2
theorem bn.assign {f:ac} {s t:GS} (h:bn f s) (ht:bn f t) (ha:t.arrays=s.arrays) {p:dG} (hp:tm f p) (h0:0≤el p s.blk):bn f (assign s t p)∧(assign s t p).arrays=s.arrays:=by
 have hv:=eG (List.all_eq_true.1 hp.2.2.2.1 _ (sE h0))
 refine ⟨bn.stA (s:=Go.Proofs.YtdilpodccjlkgaaGreatDoor.stB (Go.Proofs.YtdilpodccjlkgaaGreatDoor.stI t p.dst _) p.dst _) (ht.stI (qC h.i64)).stB ?_,ha⟩
 show _∧_<(t.arrays.length:Int)
 rw[ha];exact jV h hv
theorem bn.assigns {f:ac} {s:GS} (h:bn f s):∀(l:List dG) (t:GS),bn f t→t.arrays=s.arrays→(∀p∈l,tm f p∧0≤el p s.blk)→bn f (l.foldl (Go.Proofs.YtdilpodccjlkgaaGreatDoor.assign s) t)
 |[],t,ht,_,_=>ht
 |p::l,t,ht,ha,hl=>by
  obtain ⟨h1,h2⟩:=h.assign ht ha (hl p (.head _)).1 (hl p (.head _)).2
  exact h.assigns l _ h1 h2 fun q hq=>hl q (.tail _ hq)
theorem bn.goG {f:ac} {s:GS} (h:bn f s) {to:Int} (h0:0≤to) (h1:to<f.blocks.length):bn f (goG s to):=⟨h.li,h.lb,h.la,h.i64,h.arr,h.ls,h.lr,h.r64,h.lt,h0,h1,qw _⟩
theorem bn.enter {f:ac} {s:GS} (hR:vx f) (h:bn f s) {to:Int} (h0:0≤to) (h1:to<f.blocks.length):bn f (fv f s to):=by
 unfold fv
 split
 ·rename_i ha
  exact (h.assigns _ s h rfl fun p hp=>⟨hR.phis _ (mK h0 h1) p hp,wd (List.all_eq_true.1 ha p hp)⟩).goG h0 h1
 ·exact (h.goG h0 h1).stop 2
theorem zM {f:ac} {t:fi} (h:bC f t=true) (hk:¬t.kind=2):(0≤t.to0∧t.to0<f.blocks.length)∧(¬t.kind=0→t.kind=1∧(0≤t.to1∧t.to1<f.blocks.length)):=by
 unfold bC at h
 split at h
 ·rename_i e
  simp only[wa,eL,wg] at h
  exact ⟨h.1.1,fun g=>absurd e g⟩
 ·split at h
  ·rename_i e
   simp only[wa,eL,wg] at h
   exact ⟨h.1.2,fun _=>⟨e,h.2⟩⟩
  ·simp[hk] at h
theorem tD {f:ac} (hR:vx f) {s:GS} (h:bn f s) (hk:¬(bT f s.blk).term.kind=2):0≤nV f s∧nV f s<f.blocks.length:=by
 have ht:=zM (hR.term _ (mK h.b0 h.b1)) hk
 unfold nV
 split
 ·exact ht.1
 ·rename_i e
  exact (ht.2 fun g=>e (.inl g)).2
theorem bn.up {f:ac} {s:GS} (h:bn f s) (n:Nat) (v:Int):bn f { s with st:=n,val:=v }:=⟨h.li,h.lb,h.la,h.i64,h.arr,h.ls,h.lr,h.r64,h.lt,h.b0,h.b1,h.pc⟩
theorem bn.step {f:ac} (hR:vx f) {s:GS} (h:bn f s):bn f (dn f s):=by
 unfold dn
 split
 ·rename_i x hx
  obtain ⟨hi,h64⟩:=hR.insts _ (mK h.b0 h.b1) x (w4 hx)
  obtain ⟨hp,_⟩:=List.getElem?_eq_some_iff.1 hx
  exact bn.inst (s:={ s with pc:=s.pc+1,st:=s.st+1 }) ⟨h.li,h.lb,h.la,h.i64,h.arr,h.ls,h.lr,h.r64,h.lt,h.b0,h.b1,hp⟩ hi h64
 ·split
  ·exact (h.up _ _).stop 0
  ·rename_i hk
   obtain ⟨h0,h1⟩:=tD hR h hk
   exact bn.enter hR (s:={ s with st:=s.st+1 }) (h.up _ s.val) h0 h1
end Go.Proofs.YtdilpodccjlkgaaGreatDoor
namespace Go.Proofs.YtdilpodccjlkgaaGreatDoor
theorem gr {α:Type} {P:α→Prop} {c:Prop} [Decidable c] {a b:α} (h1:c→P a) (h2:¬c→P b):P (if c then a else b):=by
 split
 ·exact h1 (by assumption)
 ·exact h2 (by assumption)
theorem zN {P:GS→Prop} (s:GS) (x:aF) (h1:∀e,P (dw s e)) (h2:∀v,P (stI s x.dst v)) (h3:∀v,P (stB s x.dst v)) (h4:∀v,P (stA s x.dst v)) (h5:∀a b c,P (stA (stB (stI s x.dst a) x.dst b) x.dst c)) (h6:∀A,P { s with arrays:=A })
  (h7:∀A v,P (stA { s with arrays:=A } x.dst v)) (h8:∀t,P { s with trace:=t }):P (doG s x):=by
 unfold doG
 refine gr (P:=P) (fun _=>h2 _) fun _=>gr (P:=P) (fun _=>h5 _ _ _) fun _=>gr (P:=P) (fun _=>h2 _) fun _=>gr (P:=P) (fun _=>h2 _) fun _=>gr (P:=P) (fun _=>h2 _) fun _=>
  gr (P:=P) (fun _=>gr (P:=P) (fun _=>h1 _) fun _=>h2 _) fun _=>gr (P:=P) (fun _=>gr (P:=P) (fun _=>h1 _) fun _=>h2 _) fun _=>gr (P:=P) (fun _=>h3 _) fun _=>gr (P:=P) (fun _=>h3 _) fun _=>gr (P:=P) (fun _=>h3 _) fun _=>
  gr (P:=P) (fun _=>h3 _) fun _=>gr (P:=P) (fun _=>h3 _) fun _=>gr (P:=P) (fun _=>gr (P:=P) (fun _=>h1 _) fun _=>h2 _) fun _=>gr (P:=P) (fun _=>gr (P:=P) (fun _=>h2 _) fun _=>h1 _) fun _=>gr (P:=P) (fun _=>gr (P:=P) (fun _=>h6 _) fun _=>h1 _) fun _=>
  gr (P:=P) (fun _=>gr (P:=P) (fun _=>h1 _) fun _=>gr (P:=P) (fun _=>h1 _) fun _=>h7 _ _) fun _=>gr (P:=P) (fun _=>h4 _) fun _=>gr (P:=P) (fun _=>h1 _) fun _=>h8 _
theorem EW (s:GS) (x:aF):(ba s x).st=s.st:=by
 unfold ba
 split
 ·split<;>rfl
 ·exact zN (P:=fun t=>t.st=s.st) s x (fun _=>rfl) (fun _=>rfl) (fun _=>rfl) (fun _=>rfl) (fun _ _ _=>rfl) (fun _=>rfl) (fun _ _=>rfl) (fun _=>rfl)
theorem EX (s:GS) (x:aF) (i:Nat):(ba s x).ck i≤s.ck i+1:=by
 unfold ba
 split
 ·split
  ·show (if i=_ then s.ck i+1 else s.ck i)≤_
   split<;>omega
  ·show (if i=_ then s.ck i+1 else s.ck i)≤_
   split<;>omega
 ·exact zN (P:=fun t=>t.ck i≤s.ck i+1) s x (fun _=>Nat.le_succ _) (fun _=>Nat.le_succ _) (fun _=>Nat.le_succ _) (fun _=>Nat.le_succ _) (fun _ _ _=>Nat.le_succ _) (fun _=>Nat.le_succ _) (fun _ _=>Nat.le_succ _) (fun _=>Nat.le_succ _)
theorem mL (s:GS):∀(l:List dG) (t:GS),(l.foldl (assign s) t).st=t.st∧(l.foldl (assign s) t).ck=t.ck∧(l.foldl (assign s) t).ended=t.ended
 |[],_=>⟨rfl,rfl,rfl⟩
 |p::l,t=>mL s l (assign s t p)
theorem qD (f:ac) (s:GS) (to:Int):(fv f s to).st=s.st∧(fv f s to).ck=s.ck:=by
 unfold fv
 split
 ·obtain ⟨h1,h2,_⟩:=mL s (bT f to).phis s
  exact ⟨h1,h2⟩
 ·exact ⟨rfl,rfl⟩
theorem EY (f:ac) (s:GS):(dn f s).st=s.st+1:=by
 unfold dn
 split
 ·rw[EW]
 ·split
  ·rfl
  ·rw[(qD f _ _).1]
theorem EZ (f:ac) (s:GS) (i:Nat):(dn f s).ck i≤s.ck i+1:=by
 unfold dn
 split
 ·exact EX _ _ i
 ·split
  ·exact Nat.le_succ _
  ·rw[(qD f _ _).2];exact Nat.le_succ _
theorem sF {f:ac} {s:GS} (h:s.ended=true):∀k,ic f k s=s
 |0=>rfl
 |k+1=>by unfold ic;rw[if_pos h]
def iI (f:ac) (i:zJ) (q:xw × Nat):Bool:=decide (nW f q.2=2∧(q.1.arr < -1∨(i.arrays.length:Int)≤q.1.arr))
def fO (f:ac) (i:zJ):Int:=if ¬i.args.length=f.params.length then 1 else if i.args.zipIdx.any (iI f i)=true then 1 else if 32<i.arrays.length then 4 else if i.arrays.any (fun r=>decide (64<r.length))=true then 4 else 0
def Bq (i:zJ):Prop:=(∀a∈i.args,bB a.int)∧∀r∈i.arrays,∀x∈r,bB x
theorem vy {α β:Type} {g:Nat→α→β} {d:β} {n:Nat} {l:List α} {x:β} (h:x∈dP g d n l):(∃j a,l[j]?=some a∧x=g j a)∨x=d:=by
 unfold dP at h
 rcases List.mem_append.1 h with h|h
 ·obtain ⟨⟨a,j⟩,hm,rfl⟩:=List.mem_map.1 h
  exact .inl ⟨j,a,List.mk_mem_zipIdx_iff_getElem?.1 hm,rfl⟩
 ·exact .inr (List.mem_replicate.1 h).2
theorem bn.beg {f:ac} {i:zJ} (hR:vx f) (hp:f.params.length≤f.vars.length) (ht:∀j,0≤nW f j∧nW f j≤2) (h:fO f i=0) (h64:Bq i):bn f (rL f i)∧i.args.length≤f.vars.length:=by
 unfold fO at h
 split at h
 ·cases h
 rename_i h1
 split at h
 ·cases h
 rename_i h2
 split at h
 ·cases h
 rename_i h3
 split at h
 ·cases h
 rename_i h4
 have h1:i.args.length=f.params.length:=Classical.not_not.1 h1
 have hr:∀r∈i.arrays,r.length≤64:=fun r hr=>by
  refine Classical.byContradiction fun hn=>h4 (List.any_eq_true.2 ⟨r,hr,w8 (by omega)⟩)
 have hl:i.args.length≤f.vars.length:=by omega
 have hf:∀{β:Type} (g:Nat→xw→β) (d:β),(dP g d f.vars.length i.args).length=f.vars.length:=fun g d=>by unfold dP;simp;omega
 refine ⟨⟨hf _ _,hf _ _,hf _ _,fun x hx=>?_,fun x hx=>?_,by show i.arrays.length≤40;omega,fun r h=>Nat.le_trans (hr r h) (by omega),h64.2,qw _,Int.le_refl _,by show (0:Int)<f.blocks.length;have:=hR.pos;omega,qw _⟩,hl⟩
 ·rcases vy hx with ⟨j,a,ha,rfl⟩|rfl
  ·unfold rJ;split
   ·exact h64.1 a (w4 ha)
   ·exact ⟨by decide,by decide⟩
  ·exact ⟨by decide,by decide⟩
 ·show _∧_<(i.arrays.length:Int)
  rcases vy hx with ⟨j,a,ha,rfl⟩|rfl
  ·unfold qB
   split
   ·exact ⟨by omega,by omega⟩
   split
   ·exact ⟨by omega,by omega⟩
   have:=ht j
   have hb:¬iI f i (a,j)=true:=fun hb=>h2 (List.any_eq_true.2 ⟨(a,j),w4 (i:=j) (by rw[List.getElem?_zipIdx,ha];simp),hb⟩)
   unfold iI at hb
   simp only[wg] at hb
   have h2':nW f j=2:=by omega
   omega
  ·exact ⟨by omega,by omega⟩
end Go.Proofs.YtdilpodccjlkgaaGreatDoor
namespace Go.Proofs.YtdilpodccjlkgaaGreatDoor
def V (s:GS) (v:Int):Int × Bool × Int:=(vi s.ints v,gb s.bools v,vi s.arrs v)
theorem vz {l:List Int} {d v x:Int} (h0:0≤d) (g0:0≤v) (hne:v≠d):vi (l.set d.toNat x) v=vi l v:=by
 unfold vi;rw[List.getElem?_set_ne (by omega)]
theorem qE {l:List Int} {d x:Int} (h0:0≤d) (h1:d<l.length):vi (l.set d.toNat x) d=x:=by
 unfold vi;rw[List.getElem?_set_self (by omega)];rfl
theorem vA {l:List Bool} {d v:Int} {x:Bool} (h0:0≤d) (g0:0≤v) (hne:v≠d):gb (l.set d.toNat x) v=gb l v:=by
 unfold gb;rw[List.getElem?_set_ne (by omega)]
theorem F0 {l:List Bool} {d:Int} {x:Bool} (h0:0≤d) (h1:d<l.length):gb (l.set d.toNat x) d=x:=by
 unfold gb;rw[List.getElem?_set_self (by omega)];rfl
inductive Act where
 |stop (e:Int)
 |i (v:Int)
 |b (v:Bool)
 |a (v:Int)
 |all (v:Int × Bool × Int)
 |row (l:List (List Int))
 |new (l:List (List Int)) (v:Int)
 |out (l:List Int)
def Dc (s:GS) (d:Int):Act→GS
 |.stop e=>dw s e
 |.i v=>stI s d v
 |.b v=>stB s d v
 |.a v=>stA s d v
 |.all v=>stA (stB (stI s d v.1) d v.2.1) d v.2.2
 |.row l=>{ s with arrays:=l }
 |.new l v=>stA { s with arrays:=l } d v
 |.out l=>{ s with trace:=l }
def ow (s:GS) (x:aF):Act:=
 if x.op=0 then .i x.num
 else if x.op=1∨x.op=25∨x.op=26 then .all (aG s x,pG s x,rG s x)
 else if x.op=2 then .i (IntKind.i64.wrap (iu 0 (aG s x) (bG s x)))
 else if x.op=3 then .i (IntKind.i64.wrap (iu 1 (aG s x) (bG s x)))
 else if x.op=4 then .i (IntKind.i64.wrap (iu 2 (aG s x) (bG s x)))
 else if x.op=5 then (if bG s x=0 then .stop 2 else .i (qA (aG s x) (bG s x)))
 else if x.op=6 then (if bG s x=0 then .stop 2 else .i (lH (aG s x) (bG s x)))
 else if x.op=7 then .b (decide (aG s x=bG s x))
 else if x.op=8 then .b (decide (aG s x<bG s x))
 else if x.op=9 then .b (decide (aG s x≤bG s x))
 else if x.op=10 then .b (!pG s x)
 else if x.op=11 then .b (pG s x&&qG s x)
 else if x.op=12 then (if rG s x<0 then .stop 2 else .i ((dE s (rG s x)).length))
 else if x.op=13 then (if di s (rG s x) (bG s x)=true then .i (vi (dE s (rG s x)) (bG s x)) else .stop 2)
 else if x.op=14 then (if di s (rG s x) (bG s x)=true then .row (s.arrays.set (rG s x).toNat ((dE s (rG s x)).set (bG s x).toNat (vi s.ints (wv x)))) else .stop 2)
 else if x.op=15 then (if aG s x<0∨64<aG s x then .stop 2 else if 32≤s.arrays.length then .stop 3 else .new (s.arrays++[List.replicate (aG s x).toNat 0]) s.arrays.length)
 else if x.op=16 then .a (-1)
 else (if 4096≤s.trace.length then .stop 3 else .out (s.trace++[aG s x]))
theorem E0 {s:GS} {d:Int} {c:Prop} [Decidable c] {p q:GS} {u v:Act} (h1:c→p=Dc s d u) (h2:¬c→q=Dc s d v):(if c then p else q)=Dc s d (if c then u else v):=by
 by_cases h:c
 ·rw[if_pos h,if_pos h];exact h1 h
 ·rw[if_neg h,if_neg h];exact h2 h
theorem tE (s:GS) (x:aF):doG s x=Dc s x.dst (ow s x):=by
 unfold doG ow
 repeat' (first|rfl|refine E0 (fun _=>?_) (fun _=>?_))
structure Dd (s t:GS) (x y:aF):Prop where
 op:x.op=y.op
 num:x.num=y.num
 a0:0<x.args.length→V s (bj x)=V t (bj y)
 a1:1<x.args.length→V s (b7 x)=V t (b7 y)
 a2:2<x.args.length→V s (wv x)=V t (wv y)
theorem Dd.reads {s t:GS} {x y:aF} (h:Dd s t x y):(0<x.args.length→aG s x=aG t y∧pG s x=pG t y∧rG s x=rG t y)∧(1<x.args.length→bG s x=bG t y∧qG s x=qG t y)∧(2<x.args.length→vi s.ints (wv x)=vi t.ints (wv y)):=
 ⟨fun hl=>by have:=h.a0 hl;unfold V at this;simp only[Prod.mk.injEq] at this;exact this,fun hl=>by have:=h.a1 hl;unfold V at this;simp only[Prod.mk.injEq] at this;exact ⟨this.1,this.2.1⟩,fun hl=>by have:=h.a2 hl;unfold V at this;simp only[Prod.mk.injEq] at this;exact this.1⟩
theorem vB {s t:GS} (ha:s.arrays=t.arrays) (a i:Int):di s a i=di t a i:=by unfold di dE;rw[ha]
theorem Br {s t:GS} (ha:s.arrays=t.arrays) (a:Int):dE s a=dE t a:=by unfold dE;rw[ha]
set_option maxRecDepth 4000 in
theorem Hh {f:ac} {s t:GS} {x y:aF} (hF:bM f x) (ho:¬(18≤x.op∧x.op≤24)) (h:Dd s t x y) (ha:s.arrays=t.arrays) (htr:s.trace=t.trace):ow s x=ow t y:=by
 obtain ⟨r0,r1,r2⟩:=h.reads
 have hc:=hF.argc
 have hop:=hF.op
 unfold ow
 simp only[←h.op,←h.num,←vB ha,←Br ha,←ha,←htr]
 obtain ⟨j,hj⟩:∃j:Nat,x.op=(j:Int):=⟨x.op.toNat,by omega⟩
 rw[hj] at hc ho
 rw[hj]
 have:j=0∨j=1∨j=2∨j=3∨j=4∨j=5∨j=6∨j=7∨j=8∨j=9∨j=10∨j=11∨j=12∨j=13∨j=14∨j=15∨j=16∨j=17∨j=25∨j=26:=by omega
 rcases this with rfl|rfl|rfl|rfl|rfl|rfl|rfl|rfl|rfl|rfl|rfl|rfl|rfl|rfl|rfl|rfl|rfl|rfl|rfl|rfl
 all_goals
  have hc:x.args.length=_:=hc
  simp only[Int.toNat_natCast,List.getElem?_cons_zero,List.getElem?_cons_succ,Option.getD_some] at hc
  first
  |(rw[(r0 (by omega)).1,(r0 (by omega)).2.1,(r0 (by omega)).2.2,(r1 (by omega)).1,(r1 (by omega)).2,r2 (by omega)];done)
  |(rw[(r0 (by omega)).1,(r0 (by omega)).2.1,(r0 (by omega)).2.2,(r1 (by omega)).1,(r1 (by omega)).2];done)
  |(simp[(r0 (by omega)).1,(r0 (by omega)).2.1,(r0 (by omega)).2.2,(r1 (by omega)).1,(r1 (by omega)).2,r2 (by omega)];done)
  |(simp[(r0 (by omega)).1,(r0 (by omega)).2.1,(r0 (by omega)).2.2,(r1 (by omega)).1,(r1 (by omega)).2];done)
  |(simp[(r0 (by omega)).1,(r0 (by omega)).2.1,(r0 (by omega)).2.2];done)
  |simp
theorem zO {s:GS} {d:Int} {A:Act} {v:Int} (h:0≤d) (h0:0≤v) (hne:v≠d):V (Dc s d A) v=V s v:=by
 cases A<;>unfold V Dc<;>simp only[dw,stI,stB,stA,vz h h0 hne,vA h h0 hne]
theorem Bs {f:ac} {s:GS} {x:aF} (hF:bM f x) (ho:¬(18≤x.op∧x.op≤24)) (hd:x.dst<0):(∃e,ow s x=.stop e)∨(∃l,ow s x=.row l)∨∃l,ow s x=.out l:=by
 have hop:=hF.op
 obtain ⟨j,hj⟩:∃j:Nat,x.op=(j:Int):=⟨x.op.toNat,by omega⟩
 have hm:cR x.op=false:=by
  rcases hF.dst with h|⟨_,_,h⟩
  ·exact h.1
  ·have:=(eG h).2;omega
 rw[hj,Db j (by omega)] at hm
 have:j=14∨j=17:=by
  rw[hj] at ho
  have:j=0∨j=1∨j=2∨j=3∨j=4∨j=5∨j=6∨j=7∨j=8∨j=9∨j=10∨j=11∨j=12∨j=13∨j=14∨j=15∨j=16∨j=17∨j=25∨j=26:=by omega
  rcases this with h|h|h|h|h|h|h|h|h|h|h|h|h|h|h|h|h|h|h|h
  all_goals (subst h;first|(exact absurd hm (by decide))|omega)
 unfold ow
 rw[hj]
 rcases this with rfl|rfl
 ·simp;by_cases h:di s (rG s x) (bG s x)=true<;>simp[h]
 ·simp;by_cases h:4096≤s.trace.length<;>simp[h]
theorem E1 {s:GS} {d:Int} {A:Act} (h:(∃e,A=.stop e)∨(∃l,A=.row l)∨∃l,A=.out l) (v:Int):V (Dc s d A) v=V s v:=by
 rcases h with ⟨_,rfl⟩|⟨_,rfl⟩|⟨_,rfl⟩<;>rfl
theorem xx (s t:GS) (p:dG):assign s t p=Dc t p.dst (.all (V s (el p s.blk))):=rfl
end Go.Proofs.YtdilpodccjlkgaaGreatDoor
namespace Go.Proofs.YtdilpodccjlkgaaGreatDoor
def HK (op:Int):Bool:=decide (op=0∨(2≤op∧op≤12)∨op=16)
def HL (op:Int):Bool:=decide (op=2∨op=4∨op=7∨op=11)
def vC (r:Int→Int) (x:aF):aF:=⟨x.op,x.dst,x.args.map r,x.num⟩
def De (x y:aF):Bool:=HK x.op&&(decide (x.op=y.op∧x.num=y.num)&&(decide (x.args=y.args)||(HL x.op&&(decide (x.args.length=2)&&decide (x.args=y.args.reverse)))))
def zP (f:ac) (i k:Nat) (x:aF):Prop:=∃b,f.blocks[i]?=some b∧b.insts[k]?=some x
def jW (f:ac) (i k:Nat) (x:aF):Prop:=zP f i k x∧HK x.op=true
def ie (f:ac) (i' k' i k:Nat):Prop:=cY f ((i':Int),(k':Int)) i k
theorem zP.one {f:ac} {i k:Nat} {x y:aF} (h:zP f i k x) (g:zP f i k y):x=y:=by
 obtain ⟨b,h1,h2⟩:=h
 obtain ⟨c,g1,g2⟩:=g
 rw[h1] at g1
 cases Option.some.inj g1
 rw[h2] at g2
 exact Option.some.inj g2
structure HM (f:ac) (r:Int→Int):Prop where
 id:∀v,(∀i k x,jW f i k x→x.dst≠v)→r v=v
 rt:∀i k y,jW f i k y→r y.dst=y.dst∨∃i' k' x,jW f i' k' x∧ie f i' k' i k∧r x.dst=x.dst∧r y.dst=x.dst∧De (vC r x) (vC r y)=true
 no:∀i k y i' k' x,jW f i k y→jW f i' k' x→ie f i' k' i k→r x.dst=x.dst→r y.dst=y.dst→De (vC r x) (vC r y)=false
structure Iz (f:ac) (rk:Nat→Nat→Nat):Prop where
 less:∀i k y i' k' x,jW f i k y→jW f i' k' x→ie f i' k' i k→rk i' k'<rk i k
 arg:∀i k y a i' k' x,jW f i k y→a∈y.args→jW f i' k' x→x.dst=a→ie f i' k' i k
 total:∀i k y i1 k1 x1 i2 k2 x2,jW f i k y→jW f i1 k1 x1→jW f i2 k2 x2→ie f i1 k1 i k→ie f i2 k2 i k→ie f i1 k1 i2 k2∨ie f i2 k2 i1 k1∨(i1=i2∧k1=k2)
 trans:∀i k y i1 k1 x1 i2 k2 x2,jW f i k y→jW f i1 k1 x1→jW f i2 k2 x2→ie f i1 k1 i2 k2→ie f i2 k2 i k→ie f i1 k1 i k
 made:∀i k y i1 k1 x1,jW f i k y→jW f i1 k1 x1→x1.dst=y.dst→i1=i∧k1=k
theorem Bt {N:Int→Int} {b a:Int} (h:gz N b a):∀c,gz N b c→gz N a c∨gz N c a:=by
 induction h with
 |refl=>exact fun c hc=>.inl hc
 |up h1 h2 h3 ih=>
  intro c hc
  rcases hc.cases' with e|⟨_,_,g⟩
  ·rw[e];exact .inr (.up h1 h2 h3)
  ·exact ih c g
theorem Bu {E:Int→List Int} {n:Nat} (hG:fT E n) {a b c:Int} (h:gJ E a b) (k:gJ E c b):gJ E c a∨gJ E a c:=by
 have hb:b∈aB E n:=(bP hG.toEOk b).2 h.1
 have ha:a∈aB E n:=(bP hG.toEOk a).2 h.rch
 have hc:c∈aB E n:=(bP hG.toEOk c).2 k.rch
 rcases Bt ((hG.dom_iff hb).1 h) c ((hG.dom_iff hb).1 k) with g|g
 ·exact .inl ((hG.dom_iff ha).2 g)
 ·exact .inr ((hG.dom_iff hc).2 g)
end Go.Proofs.YtdilpodccjlkgaaGreatDoor
namespace Go.Proofs.YtdilpodccjlkgaaGreatDoor
theorem fk {E:Int→List Int} {n:Nat} (hG:fT E n) {a b:Int} (h:gJ E a b) (k:gJ E b a):a=b:=by
 have hb:b∈aB E n:=(bP hG.toEOk b).2 h.1
 have ha:a∈aB E n:=(bP hG.toEOk a).2 k.1
 have l1:=hG.lev_anc hb ((hG.dom_iff hb).1 h)
 have l2:=hG.lev_anc ha ((hG.dom_iff ha).1 k)
 exact l1.2.2 l2.2.1
def Av (f:ac) (b k:Int) (v:Int):Prop:=cY f (aL f v) b k
section
variable {f:ac} (hE:bW f)
include hE
theorem Hi {m p:gA} (h1:cY f m p.1 p.2) (h2:cY f p m.1 m.2) (h0:0≤m.1) (g0:0≤p.1):False:=by
 rcases h1 with h1|⟨e1,l1⟩|⟨_,n1,d1⟩
 ·omega
 ·rcases h2 with h2|⟨e2,l2⟩|⟨_,n2,d2⟩
  ·omega
  ·omega
  ·exact n2 e1.symm
 ·rcases h2 with h2|⟨e2,l2⟩|⟨_,n2,d2⟩
  ·omega
  ·exact n1 e2.symm
  ·exact n1 (fk hE.grph d1 d2)
theorem nX {m p:gA} {b k:Int} (h1:cY f m p.1 p.2) (h2:cY f p b k) (g0:0≤p.1):cY f m b k:=by
 rcases h1 with h1|⟨e1,l1⟩|⟨h0,n1,d1⟩
 ·exact .inl h1
 ·rcases h2 with h2|⟨e2,l2⟩|⟨_,n2,d2⟩
  ·omega
  ·exact .inr (.inl ⟨by omega,by omega⟩)
  ·exact .inr (.inr ⟨by omega,by omega,by rw[e1];exact d2⟩)
 ·rcases h2 with h2|⟨e2,l2⟩|⟨_,n2,d2⟩
  ·omega
  ·exact .inr (.inr ⟨h0,by omega,by rw[←e2];exact d1⟩)
  ·refine .inr (.inr ⟨h0,fun e=>?_,d1.trans d2⟩)
   have:=fk hE.grph d1 (by rw[e];exact d2)
   exact n1 this
omit hE in
theorem Df {m:gA} {b k k':Int} (h:cY f m b k) (hk:k≤k'):cY f m b k':=by
 rcases h with h|⟨h1,h2⟩|h
 ·exact .inl h
 ·exact .inr (.inl ⟨h1,by omega⟩)
 ·exact .inr (.inr h)
omit hE in
theorem xy {m:gA} {b k:Int}:cY f m b (k+1)↔cY f m b k∨(m.1=b∧m.2=k):=by
 constructor
 ·rintro (h|⟨h1,h2⟩|h)
  ·exact .inl (.inl h)
  ·by_cases e:m.2=k
   ·exact .inr ⟨h1,e⟩
   ·exact .inl (.inr (.inl ⟨h1,by omega⟩))
  ·exact .inl (.inr (.inr h))
 ·rintro (h|⟨h1,h2⟩)
  ·exact Df h (by omega)
  ·exact .inr (.inl ⟨h1,by omega⟩)
omit hE in
theorem xz {m:gA} {b c:Int} (hb:om (ah f) b) (hc:c∈ah f b) {k:Int} (hk:k≤0) (h:cY f m c k) (hL:m.1=b→m.2<fE f b) (hm:m.1=c→k≤m.2):cY f m b (fE f b):=by
 rcases h with h|⟨h1,h2⟩|⟨h0,h1,h2⟩
 ·exact .inl h
 ·have:=hm h1;omega
 ·have hd:=h2.pred hb hc h1
  by_cases e:m.1=b
  ·exact .inr (.inl ⟨e,hL e⟩)
  ·exact .inr (.inr ⟨h0,e,hd⟩)
end
theorem gt {f:ac} {v:Int} (h:0≤(aL f v).1):∃(i:Nat) (b:aX),f.blocks[i]?=some b∧(aL f v).1=i∧((∃p∈b.phis,p.dst=v∧(aL f v).2=-1)∨∃(k:Nat) (x:aF),b.insts[k]?=some x∧x.dst=v∧(aL f v).2=k):=by
 obtain ⟨i,b,h1,h2⟩:=vw h
 refine ⟨i,b,h1,?_,?_⟩
 ·rcases h2 with ⟨p,_,_,e⟩|⟨k,x,_,_,e⟩<;>rw[e]
 ·rcases h2 with ⟨p,h3,h4,e⟩|⟨k,x,h3,h4,e⟩
  ·exact .inl ⟨p,h3,h4,by rw[e]⟩
  ·exact .inr ⟨k,x,h3,h4,by rw[e]⟩
structure HN (f:ac):Prop where
 inst:∀(i k:Nat) (b:aX) (x:aF),f.blocks[i]?=some b→b.insts[k]?=some x→0≤x.dst→aL f x.dst=((i:Int),(k:Int))
 phi:∀(i:Nat) (b:aX) (p:dG),f.blocks[i]?=some b→p∈b.phis→aL f p.dst=((i:Int),-1)
theorem E2 {f:ac} (ho:yV f) (hi:∀b∈f.blocks,∀x∈b.insts,x.dst<f.vars.length) (hp:∀b∈f.blocks,∀p∈b.phis,0≤p.dst∧p.dst<f.vars.length):HN f:=by
 have len:∀d:Int,0≤d→d<f.vars.length→(bu f d).length≤1:=fun d h0 h1=>by
  have:=(ho d.toNat (by omega)).1
  rwa [show ((d.toNat:Nat):Int)=d by omega] at this
 refine ⟨fun i k b x h1 h2 h0=>?_,fun i b p h1 h2=>?_⟩
 ·exact vv (len _ h0 (hi b (w4 h1) x (w4 h2))) (kV.2 ⟨i,b,h1,ns.2 (.inr ⟨k,x,h2,rfl,rfl⟩)⟩)
 ·obtain ⟨g0,g1⟩:=hp b (w4 h1) p h2
  exact vv (len _ g0 g1) (kV.2 ⟨i,b,h1,ns.2 (.inl ⟨p,h2,rfl,rfl⟩)⟩)
theorem nt {f:ac} {i:Nat} {b:aX} (h:f.blocks[i]?=some b):fE f (i:Int)=b.insts.length:=by
 unfold fE;rw[show ((i:Int)).toNat=i from rfl,h];rfl
end Go.Proofs.YtdilpodccjlkgaaGreatDoor
namespace Go.Proofs.YtdilpodccjlkgaaGreatDoor
structure KS where
 l:List fI
 p:List (Int × List Int)
def em (K:KS) (a b c:Int):KS:=if -bL≤c∧c≤bL∧K.l.length<8192 then ⟨K.l++[⟨a,b,c⟩],K.p⟩ else K
def addO (K:KS) (a b:Int) (o:Option Int):KS:=match o with|some c=>em K a b c|none=>K
def iz (K:KS) (a b:Int):KS:=em (em K a b 0) b a 0
section
variable (f:ac)
def fl (K:KS) (a b:Int):Option Int:=ft K.l (f.vars.length+1) a b
def e8 (K:KS) (a b c:Int):Bool:=oR K.l (f.vars.length+1) a b c
def dW:Int:=f.vars.length
def vD (K:KS) (v:Int):Option fJ:=match fl f K (dW f) v,fl f K v (dW f) with|some lo,some hi=>some (-lo,hi)|_,_=>none
def Dg (k:Nat) (a b:fJ):Bool:=decide (a.2<a.1∨b.2<b.1∨kg k a b)
def mM (K:KS) (k:Nat) (y z:Int):Bool:=match vD f K y,vD f K z with|some a,some b=>Dg k a b|_,_=>false
def qF (K:KS) (op:Int) (l:List Int):Bool:=K.p.any fun q=>decide (q.1=op∧q.2=l)
def nu (K:KS) (v:Int):Bool:=e8 f K (dW f) v 0
def mN (K:KS) (x:aF):KS:=
 if qF K (x.op+19) x.args=false∧mM f K (x.op - 2).toNat (bj x) (b7 x)=false then K
 else if x.op=3 then addO (addO K x.dst (bj x) (fl f K (dW f) (b7 x))) (bj x) x.dst (fl f K (b7 x) (dW f))
 else addO (addO (addO (addO K x.dst (bj x) (fl f K (b7 x) (dW f))) (bj x) x.dst (fl f K (dW f) (b7 x))) x.dst (b7 x) (fl f K (bj x) (dW f))) (b7 x) x.dst (fl f K (dW f) (bj x))
def eU (K:KS) (x:aF):KS:=if nu f K (bj x)=true∧(nu f K (b7 x)=true∨x.op=6) then em (em K (dW f) x.dst 0) x.dst (bj x) 0 else K
def iX (K:KS) (x:aF):KS:=if nu f K (b7 x)=true∧x.op=6 then em (eU f K x) x.dst (b7 x) (-1) else eU f K x
def lM (K:KS) (x:aF):KS:=
 if x.op=0∧-bL≤x.num∧x.num≤bL then em (em K x.dst (dW f) x.num) (dW f) x.dst (-x.num)
 else if (x.op=1∧¬bg f x.dst=1)∨x.op=12∨x.op=15 then iz K x.dst (bj x)
 else if x.op=16 then iz K x.dst (dW f)
 else if x.op=2∨x.op=3 then mN f K x
 else if x.op=5∨x.op=6 then iX f K x
 else K
def lN (K:KS) (x:aF):KS:=
 if x.op=18 then em (em ⟨K.l,K.p++[(x.op,x.args)]⟩ (dW f) (b7 x) 0) (b7 x) (bj x) (-1)
 else if x.op=24 then em (em ⟨K.l,K.p++[(x.op,x.args)]⟩ (dW f) (bj x) 0) (bj x) (dW f) 64
 else if x.op=20 then
  if nu f K (bj x)=true then em ⟨K.l,K.p++[(x.op,x.args)]⟩ (dW f) (bj x) (-1)
  else if e8 f K (bj x) (dW f) 0=true then em ⟨K.l,K.p++[(x.op,x.args)]⟩ (bj x) (dW f) (-1)
  else ⟨K.l,K.p++[(x.op,x.args)]⟩
 else ⟨K.l,K.p++[(x.op,x.args)]⟩
def ec (K:KS) (x:aF):KS:=if 18≤x.op∧x.op≤24 then lN f K x else lM f K x
def dx (v:Int):Option aF:=if 0≤(aL f v).1∧0≤(aL f v).2 then (f.blocks[(aL f v).1.toNat]?).bind fun b=>b.insts[(aL f v).2.toNat]? else none
def HO (v:Int):Bool:=match dx f v with|some y=>decide (y.op=15)|none=>false
def ox (K:KS) (x:aF):Bool:=qF K x.op x.args ||
 (if x.op=18 then e8 f K (dW f) (b7 x) 0&&e8 f K (b7 x) (bj x) (-1)
  else if x.op=19 then HO f (bj x)||e8 f K (dW f) (bj x) (-1)
  else if x.op=20 then e8 f K (dW f) (bj x) (-1)||e8 f K (bj x) (dW f) (-1)
  else if x.op=24 then e8 f K (dW f) (bj x) 0&&e8 f K (bj x) (dW f) 64
  else mM f K (x.op - 21).toNat (bj x) (b7 x))
structure ww where
 a:Int
 b:Int
 n:Int
def gu (K:KS) (r:ww):KS:=if r.n=0 then em K r.a r.b (-1) else if r.n=1 then em K r.a r.b 0 else if r.n=2 then iz K r.a r.b else K
end
section
variable {u:Int→Int}
def sG (u:Int→Int) (q:fI):Prop:=(0≤q.a∧0≤q.b)∧u q.a≤u q.b+q.c
def wx (u:Int→Int) (b:Int) (r:List (Option Int)):Prop:=∀v m,0≤v→jn r v=some m→u v≤u b+m
theorem Dh {r:List (Option Int)} {a v:Int} {m:Option Int} {k:Int} (ha:0≤a) (hv:0≤v) (h:jn (r.set a.toNat m) v=some k):(v=a∧m=some k)∨jn r v=some k:=by
 unfold jn at h ⊢
 by_cases e:a.toNat=v.toNat
 ·rw[e,List.getElem?_set] at h
  rw[if_pos rfl] at h
  split at h
  ·left
   exact ⟨by omega,h⟩
  ·cases h
 ·rw[List.getElem?_set_ne e] at h
  exact .inr h
theorem wx.set {b a m:Int} {r:List (Option Int)} (h:wx u b r) (ha:0≤a) (hm:u a≤u b+m):wx u b (r.set a.toNat (some m)):=fun v k hv hk=>by
 rcases Dh ha hv hk with ⟨rfl,e⟩|hk
 ·cases e;exact hm
 ·exact h v k hv hk
theorem wx.step {b:Int} {now next:List (Option Int)} (hn:wx u b now) (h:wx u b next) {q:fI} (hq:sG u q):wx u b (kC now next q):=by
 unfold kC
 obtain ⟨⟨h0,h1⟩,h2⟩:=hq
 split
 ·exact h
 ·rename_i s hs
  have:=hn _ _ h1 hs
  split
  ·exact h.set h0 (by omega)
  ·split
   ·exact h.set h0 (by omega)
   ·exact h
theorem wx.fur {b:Int} {now:List (Option Int)} (hn:wx u b now):∀(l:List fI) (next:List (Option Int)),wx u b next→(∀q∈l,sG u q)→wx u b (l.foldl (kC now) next)
 |[],_,h,_=>h
 |q::l,_,h,hl=>hn.fur l _ (hn.step h (hl q (.head _))) fun p hp=>hl p (.tail _ hp)
theorem wx.it {b:Int} {l:List fI} (hl:∀q∈l,sG u q):∀(k:Nat) (r:List (Option Int)),wx u b r→wx u b (Al l k r)
 |0,_,h=>h
 |k+1,r,h=>wx.it hl k _ (h.fur l r h hl)
theorem sH {l:List fI} (hl:∀q∈l,sG u q) {n:Nat} {a b m:Int} (ha:0≤a) (hb:0≤b) (h:ft l n a b=some m):u a≤u b+m:=by
 refine wx.it (u:=u) (b:=b) hl 6 _ (fun v k hv hk=>?_) a m ha h
 rcases Dh hb hv hk with ⟨rfl,e⟩|hk
 ·cases e;omega
 ·unfold jn at hk
  rw[List.getElem?_replicate] at hk
  split at hk<;>cases hk
theorem Bv {l:List fI} (hl:∀q∈l,sG u q) {n:Nat} {a b c:Int} (ha:0≤a) (hb:0≤b) (h:oR l n a b c=true):u a≤u b+c:=by
 unfold oR at h
 split at h
 ·rename_i m hm
  have:=sH hl ha hb hm
  have:=wd h
  omega
 ·cases h
end
end Go.Proofs.YtdilpodccjlkgaaGreatDoor
namespace Go.Proofs.YtdilpodccjlkgaaGreatDoor
set_option linter.unusedSectionVars false
section
variable {l:List fI} {n:Nat} {b:Int} (hl:∀q∈l,Cb n q) (hb:oD n b)
include hb
end
end Go.Proofs.YtdilpodccjlkgaaGreatDoor
namespace Go.Proofs.YtdilpodccjlkgaaGreatDoor
structure PX (s:GS) (x:aF):Prop where
 ck:18≤x.op→x.op≤24→ee s x.op x.args=true
 i0:x.op=0→vi s.ints x.dst=x.num
 i1:x.op=1→V s x.dst=V s (bj x)
 i2:x.op=2→vi s.ints x.dst=IntKind.i64.wrap (iu 0 (aG s x) (bG s x))
 i3:x.op=3→vi s.ints x.dst=IntKind.i64.wrap (iu 1 (aG s x) (bG s x))
 i5:x.op=5→bG s x≠0∧vi s.ints x.dst=qA (aG s x) (bG s x)
 i6:x.op=6→bG s x≠0∧vi s.ints x.dst=lH (aG s x) (bG s x)
 i7:x.op=7→gb s.bools x.dst=decide (aG s x=bG s x)
 i8:x.op=8→gb s.bools x.dst=decide (aG s x<bG s x)
 i9:x.op=9→gb s.bools x.dst=decide (aG s x≤bG s x)
 i10:x.op=10→gb s.bools x.dst=!pG s x
 i11:x.op=11→gb s.bools x.dst=(pG s x&&qG s x)
 i12:x.op=12→0≤rG s x∧vi s.ints x.dst=(dE s (rG s x)).length
 i15:x.op=15→0≤vi s.arrs x.dst∧((dE s (vi s.arrs x.dst)).length:Int)=aG s x
 i16:x.op=16→vi s.arrs x.dst=-1
theorem bM.cnt {f:ac} {x:aF} {k:Int} (h:bM f x) (e:x.op=k):x.args.length=([0,1,2,2,2,2,2,2,2,2,1,2,1,2,3,1,0,1,2,1,1,2,2,2,1,2,2][k.toNat]?).getD 0:=e▸h.argc
structure qH (s t:GS) (x:aF):Prop where
 hd:0≤x.dst→V t x.dst=V s x.dst
 ha:∀v∈x.args,V t v=V s v
 hr:∀a:Int,0≤a→a<s.arrays.length→a<t.arrays.length∧(dE t a).length=(dE s a).length
theorem lI {s t:GS} {v:Int} (h:V t v=V s v):vi t.ints v=vi s.ints v∧gb t.bools v=gb s.bools v∧vi t.arrs v=vi s.arrs v:=by
 unfold V at h;simp only[Prod.mk.injEq] at h;exact h
section
variable {f:ac} {s t:GS} {x:aF}
theorem qH.e0 (h:qH s t x) (hl:0<x.args.length):aG t x=aG s x∧pG t x=pG s x∧rG t x=rG s x:=by
 have hm:bj x∈x.args:=by unfold bj;rw[qt hl];exact qx hl
 exact lI (h.ha _ hm)
theorem qH.e1 (h:qH s t x) (hl:1<x.args.length):bG t x=bG s x∧qG t x=qG s x:=by
 have hm:b7 x∈x.args:=by unfold b7;rw[qt hl];exact qx hl
 exact ⟨(lI (h.ha _ hm)).1,(lI (h.ha _ hm)).2.1⟩
theorem bM.d {k:Int} (hF:bM f x) (e:x.op=k) (hm:([true,true,true,true,true,true,true,true,true,true,true,true,true,true,false,true,true,false,false,false,false,false,false,false,false,true,true][k.toNat]?).getD false=true):x.dst<f.vars.length∧0≤x.dst:=hF.made (e▸hm)
theorem xA (hs:bn f s) (ht:bn f t) (h:qH s t x) {v i:Int} (hv:v<f.vars.length∧0≤v):di t (vi s.arrs v) i=di s (vi s.arrs v) i:=by
 have ha:=jV hs hv
 unfold di
 by_cases h0:0≤vi s.arrs v
 ·obtain ⟨g1,g2⟩:=h.hr _ h0 ha.2
  rw[g2]
  simp only[h0,g1,ha.2,true_and]
 ·simp[h0]
theorem Bw (hs:bn f s) (ht:bn f t) (hF:bM f x) (h1:18≤x.op) (h2:x.op≤24) (h:qH s t x):ee t x.op x.args=ee s x.op x.args:=by
 have hl:0<x.args.length:=by
  obtain ⟨j,hj⟩:∃j:Nat,x.op=(j:Int):=⟨x.op.toNat,by omega⟩
  rw[hF.argc,hj]
  have:j=18∨j=19∨j=20∨j=21∨j=22∨j=23∨j=24:=by omega
  rcases this with rfl|rfl|rfl|rfl|rfl|rfl|rfl<;>decide
 obtain ⟨e1,e2,e3⟩:=h.e0 hl
 have e1:vi t.ints ((x.args[0]?).getD 0)=vi s.ints ((x.args[0]?).getD 0):=e1
 have e3:vi t.arrs ((x.args[0]?).getD 0)=vi s.arrs ((x.args[0]?).getD 0):=e3
 have e4:zK x.args t.ints=zK x.args s.ints:=by
  unfold zK
  split
  ·rename_i h1;exact (h.e1 h1).1
  ·rfl
 have e5:di t (vi s.arrs ((x.args[0]?).getD 0)) (zK x.args s.ints)=di s (vi s.arrs ((x.args[0]?).getD 0)) (zK x.args s.ints):=xA hs ht h (hF.a0 hl)
 unfold ee
 rw[e1,e3,e4,e5]
theorem PX.same (hs:bn f s) (ht:bn f t) (hF:bM f x) (h:qH s t x) (p:PX s x):PX t x:=by
 have row:∀{v:Int},v<f.vars.length∧0≤v→0≤vi s.arrs v→(dE t (vi s.arrs v)).length=(dE s (vi s.arrs v)).length:=fun hv h0=>(h.hr _ h0 (jV hs hv).2).2
 constructor
 ·intro h1 h2
  rw[Bw hs ht hF h1 h2 h];exact p.ck h1 h2
 ·intro e
  rw[(lI (h.hd (hF.d e rfl).2)).1];exact p.i0 e
 ·intro e
  have hm:bj x∈x.args:=by unfold bj;rw[qt (by rw[hF.cnt e];decide)];exact qx _
  rw[h.hd (hF.d e rfl).2,h.ha _ hm];exact p.i1 e
 ·intro e
  rw[(lI (h.hd (hF.d e rfl).2)).1,(h.e0 (by rw[hF.cnt e];decide)).1,(h.e1 (by rw[hF.cnt e];decide)).1];exact p.i2 e
 ·intro e
  rw[(lI (h.hd (hF.d e rfl).2)).1,(h.e0 (by rw[hF.cnt e];decide)).1,(h.e1 (by rw[hF.cnt e];decide)).1];exact p.i3 e
 ·intro e
  rw[(lI (h.hd (hF.d e rfl).2)).1,(h.e0 (by rw[hF.cnt e];decide)).1,(h.e1 (by rw[hF.cnt e];decide)).1];exact p.i5 e
 ·intro e
  rw[(lI (h.hd (hF.d e rfl).2)).1,(h.e0 (by rw[hF.cnt e];decide)).1,(h.e1 (by rw[hF.cnt e];decide)).1];exact p.i6 e
 ·intro e
  rw[(lI (h.hd (hF.d e rfl).2)).2.1,(h.e0 (by rw[hF.cnt e];decide)).1,(h.e1 (by rw[hF.cnt e];decide)).1];exact p.i7 e
 ·intro e
  rw[(lI (h.hd (hF.d e rfl).2)).2.1,(h.e0 (by rw[hF.cnt e];decide)).1,(h.e1 (by rw[hF.cnt e];decide)).1];exact p.i8 e
 ·intro e
  rw[(lI (h.hd (hF.d e rfl).2)).2.1,(h.e0 (by rw[hF.cnt e];decide)).1,(h.e1 (by rw[hF.cnt e];decide)).1];exact p.i9 e
 ·intro e
  rw[(lI (h.hd (hF.d e rfl).2)).2.1,(h.e0 (by rw[hF.cnt e];decide)).2.1];exact p.i10 e
 ·intro e
  rw[(lI (h.hd (hF.d e rfl).2)).2.1,(h.e0 (by rw[hF.cnt e];decide)).2.1,(h.e1 (by rw[hF.cnt e];decide)).2];exact p.i11 e
 ·intro e
  rw[(lI (h.hd (hF.d e rfl).2)).1,(h.e0 (by rw[hF.cnt e];decide)).2.2]
  obtain ⟨h0,h1⟩:=p.i12 e
  refine ⟨h0,?_⟩
  unfold rG at h0 ⊢
  rw[row (hF.a0 (by rw[hF.cnt e];decide)) h0];exact h1
 ·intro e
  rw[(lI (h.hd (hF.d e rfl).2)).2.2,(h.e0 (by rw[hF.cnt e];decide)).1]
  obtain ⟨h0,h1⟩:=p.i15 e
  exact ⟨h0,by rw[row (hF.d e rfl) h0];exact h1⟩
 ·intro e
  rw[(lI (h.hd (hF.d e rfl).2)).2.2];exact p.i16 e
theorem E3 {s:GS} {l:List Int} {d:Int}:dE (stA { s with arrays:=s.arrays++[l] } d s.arrays.length) (s.arrays.length:Int)=l:=by
 unfold dE stA;simp
theorem PX.made (hs:bn f s) (hF:bM f x) (h0:s.ended=false) (he:(ba s x).ended=false) (hne:∀v∈x.args,v≠x.dst):PX (ba s x) x:=by
 have n0:0<x.args.length→bj x≠x.dst∧0≤bj x:=fun hl=>⟨hne _ (by unfold bj;rw[qt hl];exact qx _),(hF.a0 hl).2⟩
 have n1:1<x.args.length→b7 x≠x.dst∧0≤b7 x:=fun hl=>⟨hne _ (by unfold b7;rw[qt hl];exact qx _),(hF.a1 hl).2⟩
 have I:∀{k:Int} (w:Int),x.op=k→x.dst<f.vars.length∧0≤x.dst→(0<x.args.length∧1<x.args.length)→aG (stI s x.dst w) x=aG s x∧bG (stI s x.dst w) x=bG s x∧vi (stI s x.dst w).ints x.dst=w:=fun w _ hd hl=>
  ⟨vz hd.2 (n0 hl.1).2 (n0 hl.1).1,vz hd.2 (n1 hl.2).2 (n1 hl.2).1,qE hd.2 (by rw[hs.li];exact hd.1)⟩
 have B:∀{k:Int} (w:Bool),x.op=k→x.dst<f.vars.length∧0≤x.dst→gb (stB s x.dst w).bools x.dst=w:=fun w _ hd=>F0 hd.2 (by rw[hs.lb];exact hd.1)
 constructor
 ·intro h1 h2
  unfold ba at he ⊢
  rw[if_pos ⟨h1,h2⟩] at he ⊢
  split at he
  ·rename_i hp
   rw[if_pos hp];exact hp
  ·cases he
 ·intro e
  have hd:=hF.d e rfl
  rw[show ba s x=stI s x.dst x.num by unfold ba doG;simp[e]]
  exact qE hd.2 (by rw[hs.li];exact hd.1)
 ·intro e
  have hd:=hF.d e rfl
  obtain ⟨a1,a2⟩:=n0 (by rw[hF.cnt e];decide)
  rw[show ba s x=stA (stB (stI s x.dst (aG s x)) x.dst (pG s x)) x.dst (rG s x) by unfold ba doG;simp[e]]
  unfold V stA stB stI aG pG rG
  dsimp only
  rw[qE hd.2 (by rw[hs.li];exact hd.1),F0 hd.2 (by rw[hs.lb];exact hd.1),qE hd.2 (by rw[hs.la];exact hd.1),vz hd.2 a2 a1,vA hd.2 a2 a1,vz hd.2 a2 a1]
 ·intro e
  have hd:=hF.d e rfl
  rw[show ba s x=stI s x.dst (IntKind.i64.wrap (iu 0 (aG s x) (bG s x))) by unfold ba doG;simp[e]]
  obtain ⟨g1,g2,g3⟩:=I (IntKind.i64.wrap (iu 0 (aG s x) (bG s x))) e hd ⟨by rw[hF.cnt e];decide,by rw[hF.cnt e];decide⟩
  rw[g1,g2,g3]
 ·intro e
  have hd:=hF.d e rfl
  rw[show ba s x=stI s x.dst (IntKind.i64.wrap (iu 1 (aG s x) (bG s x))) by unfold ba doG;simp[e]]
  obtain ⟨g1,g2,g3⟩:=I (IntKind.i64.wrap (iu 1 (aG s x) (bG s x))) e hd ⟨by rw[hF.cnt e];decide,by rw[hF.cnt e];decide⟩
  rw[g1,g2,g3]
 ·intro e
  have hd:=hF.d e rfl
  have hi:ba s x=if bG s x=0 then dw s 2 else stI s x.dst (qA (aG s x) (bG s x)):=by unfold ba doG;simp[e]
  rw[hi] at he ⊢
  by_cases hb:bG s x=0
  ·rw[if_pos hb] at he;cases he
  ·rw[if_neg hb]
   obtain ⟨g1,g2,g3⟩:=I (qA (aG s x) (bG s x)) e hd ⟨by rw[hF.cnt e];decide,by rw[hF.cnt e];decide⟩
   rw[g1,g2,g3];exact ⟨hb,rfl⟩
 ·intro e
  have hd:=hF.d e rfl
  have hi:ba s x=if bG s x=0 then dw s 2 else stI s x.dst (lH (aG s x) (bG s x)):=by unfold ba doG;simp[e]
  rw[hi] at he ⊢
  by_cases hb:bG s x=0
  ·rw[if_pos hb] at he;cases he
  ·rw[if_neg hb]
   obtain ⟨g1,g2,g3⟩:=I (lH (aG s x) (bG s x)) e hd ⟨by rw[hF.cnt e];decide,by rw[hF.cnt e];decide⟩
   rw[g1,g2,g3];exact ⟨hb,rfl⟩
 ·intro e
  rw[show ba s x=stB s x.dst (decide (aG s x=bG s x)) by unfold ba doG;simp[e]]
  rw[B _ e (hF.d e rfl)];rfl
 ·intro e
  rw[show ba s x=stB s x.dst (decide (aG s x<bG s x)) by unfold ba doG;simp[e]]
  rw[B _ e (hF.d e rfl)];rfl
 ·intro e
  rw[show ba s x=stB s x.dst (decide (aG s x≤bG s x)) by unfold ba doG;simp[e]]
  rw[B _ e (hF.d e rfl)];rfl
 ·intro e
  have hd:=hF.d e rfl
  obtain ⟨a1,a2⟩:=n0 (by rw[hF.cnt e];decide)
  rw[show ba s x=stB s x.dst (!pG s x) by unfold ba doG;simp[e]]
  rw[B _ e hd]
  unfold pG stB
  dsimp only
  rw[vA hd.2 a2 a1]
 ·intro e
  have hd:=hF.d e rfl
  obtain ⟨a1,a2⟩:=n0 (by rw[hF.cnt e];decide)
  obtain ⟨b1,b2⟩:=n1 (by rw[hF.cnt e];decide)
  rw[show ba s x=stB s x.dst (pG s x&&qG s x) by unfold ba doG;simp[e]]
  rw[B _ e hd]
  unfold pG qG stB
  dsimp only
  rw[vA hd.2 a2 a1,vA hd.2 b2 b1]
 ·intro e
  have hd:=hF.d e rfl
  have hi:ba s x=if rG s x<0 then dw s 2 else stI s x.dst ((dE s (rG s x)).length):=by unfold ba doG;simp[e]
  rw[hi] at he ⊢
  by_cases hb:rG s x<0
  ·rw[if_pos hb] at he;cases he
  ·rw[if_neg hb]
   exact ⟨(by have:0≤rG s x:=(by omega);exact this),qE hd.2 (by rw[hs.li];exact hd.1)⟩
 ·intro e
  have hd:=hF.d e rfl
  obtain ⟨a1,a2⟩:=n0 (by rw[hF.cnt e];decide)
  have hi:ba s x=if aG s x<0∨64<aG s x then dw s 2 else if 32≤s.arrays.length then dw s 3 else stA { s with arrays:=s.arrays++[List.replicate (aG s x).toNat 0] } x.dst s.arrays.length:=by unfold ba doG;simp[e]
  rw[hi] at he ⊢
  by_cases hb:aG s x<0∨64<aG s x
  ·rw[if_pos hb] at he;cases he
  ·rw[if_neg hb] at he ⊢
   by_cases hc:32≤s.arrays.length
   ·rw[if_pos hc] at he;cases he
   ·rw[if_neg hc]
    have hv:vi (stA { s with arrays:=s.arrays++[List.replicate (aG s x).toNat 0] } x.dst s.arrays.length).arrs x.dst=s.arrays.length:=qE hd.2 (by rw[hs.la];exact hd.1)
    rw[hv,E3,List.length_replicate]
    refine ⟨by omega,?_⟩
    show ((aG s x).toNat:Int)=aG s x
    omega
 ·intro e
  have hd:=hF.d e rfl
  rw[show ba s x=stA s x.dst (-1) by unfold ba doG;simp[e]]
  exact qE hd.2 (by rw[hs.la];exact hd.1)
end
end Go.Proofs.YtdilpodccjlkgaaGreatDoor
namespace Go.Proofs.YtdilpodccjlkgaaGreatDoor
def vl (f:ac) (s:GS) (v:Int):Int:=if bg f v=2 then (if vi s.arrs v<0 then 0 else ((dE s (vi s.arrs v)).length:Int)) else if bg f v=0 then vi s.ints v else 0
structure fH (f:ac) (s:GS) (K:KS):Prop where
 facts:∀q∈K.l,sG (vl f s) q
 passed:∀q∈K.p,ee s q.1 q.2=true
section
variable {f:ac} {s:GS} {K:KS}
theorem ma {v:Int} (h:bg f v=0):vl f s v=vi s.ints v:=by unfold vl;rw[h];simp
theorem HP {v:Int} (h:bg f v=2):vl f s v=if vi s.arrs v<0 then 0 else ((dE s (vi s.arrs v)).length:Int):=by unfold vl;rw[if_pos h]
theorem qI (hs:bn f s):vl f s (dW f)=0:=by
 have hk:bg f (dW f)=0:=by unfold bg dW;rw[Int.toNat_natCast,List.getElem?_eq_none (by omega)];rfl
 rw[ma hk]
 unfold vi dW
 rw[Int.toNat_natCast,List.getElem?_eq_none (by rw[hs.li];omega)];rfl
theorem kW:0≤dW f:=by unfold dW;omega
theorem fH.add (h:fH f s K) {a b c:Int} (h0:0≤a∧0≤b) (ht:vl f s a≤vl f s b+c):fH f s (em K a b c):=by
 unfold em
 split
 ·refine ⟨fun q hq=>?_,h.passed⟩
  rcases List.mem_append.1 hq with hq|hq
  ·exact h.facts q hq
  ·rw[List.mem_singleton.1 hq];exact ⟨h0,ht⟩
 ·exact h
theorem fH.lea (h:fH f s K) {a b m:Int} (h0:0≤a∧0≤b) (e:fl f K a b=some m):vl f s a≤vl f s b+m:=sH h.facts h0.1 h0.2 e
theorem fH.flw (h:fH f s K) {a b c:Int} (h0:0≤a∧0≤b) (e:e8 f K a b c=true):vl f s a≤vl f s b+c:=Bv h.facts h0.1 h0.2 e
theorem fH.addO (h:fH f s K) {a b:Int} {o:Option Int} (h0:0≤a∧0≤b) (ht:∀c,o=some c→vl f s a≤vl f s b+c):fH f s (addO K a b o):=by
 cases o with
 |none=>exact h
 |some c=>exact h.add h0 (ht c rfl)
theorem fH.both (h:fH f s K) {a b:Int} (h0:0≤a∧0≤b) (e:vl f s a=vl f s b):fH f s (iz K a b):=(h.add h0 (by omega)).add ⟨h0.2,h0.1⟩ (by omega)
theorem fH.was (h:fH f s K) {op:Int} {l:List Int} (e:qF K op l=true):ee s op l=true:=by
 unfold qF at e
 obtain ⟨q,hq,e2⟩:=List.any_eq_true.1 e
 obtain ⟨rfl,rfl⟩:=wd e2
 exact h.passed q hq
theorem fH.span (h:fH f s K) (hs:bn f s) {v:Int} (h0:0≤v) {r:fJ} (e:vD f K v=some r):r.1≤vl f s v∧vl f s v≤r.2:=by
 unfold vD at e
 split at e
 ·rename_i lo hi h1 h2
  cases e
  have:=h.lea ⟨kW,h0⟩ h1
  have:=h.lea ⟨h0,kW⟩ h2
  rw[qI hs] at *
  dsimp only
  omega
 ·cases e
theorem fH.within (h:fH f s K) (hs:bn f s) {k:Nat} {y z:Int} (hy:0≤y) (hz:0≤z) (e:mM f K k y z=true):dk k (vl f s y) (vl f s z):=by
 unfold mM at e
 split at e
 ·rename_i a b h1 h2
  have g1:=h.span hs hy h1
  have g2:=h.span hs hz h2
  unfold Dg at e
  rcases wd e with e|e|e
  ·omega
  ·omega
  ·exact (wJ (a:=(vl f s y,vl f s y)) (b:=(vl f s z,vl f s z)) (Int.le_refl _) (Int.le_refl _) ⟨g1.1,g1.2⟩ ⟨g2.1,g2.2⟩ e).1
 ·cases e
end
theorem eV:bb 2=[0,0]∧bb 3=[0,0]∧bb 5=[0,0]∧bb 6=[0,0]∧bb 7=[0,0]∧bb 8=[0,0]∧bb 9=[0,0]∧bb 10=[1]∧bb 11=[1,1]∧bb 12=[2]∧bb 15=[0]∧bb 18=[2,0]∧bb 19=[2]∧bb 20=[0]∧bb 21=[0,0]∧bb 22=[0,0]∧bb 23=[0,0]∧bb 24=[0]:=by decide
theorem kX:fd 0=0∧fd 2=0∧fd 3=0∧fd 5=0∧fd 6=0∧fd 12=0∧fd 15=2∧fd 16=2:=by decide
theorem iA:cR 0=true∧cR 2=true∧cR 3=true∧cR 5=true∧cR 6=true∧cR 12=true∧cR 15=true∧cR 16=true:=by decide
section
variable {f:ac} {x:aF}
theorem cC {k:Int} {l:List Int} (hT:dN f x=true) (e:x.op=k) (h1:¬k=1) (hl:bb k=l):x.args.map (bg f)=l:=by
 unfold dN at hT
 rw[if_neg (by omega),wa] at hT
 rw[wd hT.1,e,hl]
theorem gv {k t:Int} (hT:dN f x=true) (e:x.op=k) (h1:¬k=1) (hm:cR k=true) (hl:fd k=t):bg f x.dst=t:=by
 unfold dN at hT
 rw[if_neg (by omega),e,hm,hl] at hT
 simp at hT
 exact hT.2
theorem kq {a b:Int} (h:x.args.map (bg f)=[a,b]):(bg f (bj x)=a∧bg f (b7 x)=b)∧∃y z,x.args=[y,z]:=by
 match hx:x.args,h with
 |[y,z],h=>
  simp only[List.map_cons,List.map_nil,List.cons.injEq,and_true] at h
  unfold bj b7
  rw[hx]
  exact ⟨h,y,z,rfl⟩
theorem zQ {a:Int} (h:x.args.map (bg f)=[a]):bg f (bj x)=a∧∃y,x.args=[y]:=by
 match hx:x.args,h with
 |[y],h=>
  simp only[List.map_cons,List.map_nil,List.cons.injEq,and_true] at h
  unfold bj
  rw[hx]
  exact ⟨h,y,rfl⟩
end
def kY (s:GS):Prop:=∀r∈s.arrays,r.length≤64
section
variable {f:ac} {s:GS} {K:KS} {x:aF}
theorem Di {k:Nat} (hk:k≤2) {y z:Int} (h:ee s (21+k) [y,z]=true):dk k (vi s.ints y) (vi s.ints z):=by
 have:k=0∨k=1∨k=2:=by omega
 rcases this with rfl|rfl|rfl
 all_goals (unfold ee zK at h;simp at h;exact h)
theorem zR (hs:bn f s) (hF:bM f x) (hT:dN f x=true) (hK:fH f s K) {k:Nat} (hk:k≤1) (hop:x.op=2+(k:Int)) (h:¬(qF K (x.op+19) x.args=false∧mM f K (x.op - 2).toNat (bj x) (b7 x)=false)):dk k (aG s x) (bG s x):=by
 have hk2:k=0∨k=1:=by omega
 have ht:x.args.map (bg f)=[0,0]:=by
  rcases hk2 with rfl|rfl
  ·exact cC hT hop (by omega) eV.1
  ·exact cC hT hop (by omega) eV.2.1
 obtain ⟨⟨k0,k1⟩,y,z,hx⟩:=kq ht
 have hy:=hF.a0 (by simp[hx])
 have hz:=hF.a1 (by simp[hx])
 have e0:aG s x=vi s.ints y:=by unfold aG bj;rw[hx];rfl
 have e1:bG s x=vi s.ints z:=by unfold bG b7;rw[hx];rfl
 by_cases hw:qF K (x.op+19) x.args=true
 ·have:=hK.was hw
  rw[hx,show x.op+19=21+(k:Int) by omega] at this
  rw[e0,e1];exact Di (by omega) this
 ·have hw2:mM f K (x.op - 2).toNat (bj x) (b7 x)=true:=by
   cases e:mM f K (x.op - 2).toNat (bj x) (b7 x) with
   |true=>rfl
   |false=>exact absurd ⟨by simpa using hw,e⟩ h
  rw[show (x.op - 2).toNat=k by omega] at hw2
  have:=hK.within hs hy.2 hz.2 hw2
  rw[ma k0,ma k1] at this
  exact this
theorem GG (hs:bn f s) (hF:bM f x) (hT:dN f x=true) (hP:PX s x) (hK:fH f s K) (hop:x.op=2∨x.op=3):fH f s (mN f K x):=by
 unfold mN
 split
 ·exact hK
 rename_i hn
 have nn:0≤dW f:=kW
 have hno:=qI hs
 rcases hop with e|e
 ·rw[if_neg (by omega)]
  have hfit:=zR (k:=0) hs hF hT hK (by omega) e hn
  have hv:=hP.i2 e
  rw[uw (by omega) hfit] at hv
  obtain ⟨⟨k0,k1⟩,_,_,hx⟩:=kq (cC hT e (by omega) eV.1)
  have hd:=hF.d e rfl
  have hy:=hF.a0 (by simp[hx])
  have hz:=hF.a1 (by simp[hx])
  have vd:vl f s x.dst=vl f s (bj x)+vl f s (b7 x):=by
   rw[ma (gv hT e (by omega) iA.2.1 kX.2.1),ma k0,ma k1,hv];rfl
  refine fH.addO (fH.addO (fH.addO (fH.addO hK ⟨hd.2,hy.2⟩ fun c hc=>?_) ⟨hy.2,hd.2⟩ fun c hc=>?_) ⟨hd.2,hz.2⟩ fun c hc=>?_) ⟨hz.2,hd.2⟩ fun c hc=>?_
  ·have:=hK.lea ⟨hz.2,nn⟩ hc;omega
  ·have:=hK.lea ⟨nn,hz.2⟩ hc;omega
  ·have:=hK.lea ⟨hy.2,nn⟩ hc;omega
  ·have:=hK.lea ⟨nn,hy.2⟩ hc;omega
 ·rw[if_pos e]
  have hfit:=zR (k:=1) hs hF hT hK (by omega) e hn
  have hv:=hP.i3 e
  rw[uw (by omega) hfit] at hv
  obtain ⟨⟨k0,k1⟩,_,_,hx⟩:=kq (cC hT e (by omega) eV.2.1)
  have hd:=hF.d e rfl
  have hy:=hF.a0 (by simp[hx])
  have hz:=hF.a1 (by simp[hx])
  have vd:vl f s x.dst=vl f s (bj x) - vl f s (b7 x):=by
   rw[ma (gv hT e (by omega) iA.2.2.1 kX.2.2.1),ma k0,ma k1,hv];rfl
  refine fH.addO (fH.addO hK ⟨hd.2,hy.2⟩ fun c hc=>?_) ⟨hy.2,hd.2⟩ fun c hc=>?_
  ·have:=hK.lea ⟨nn,hz.2⟩ hc;omega
  ·have:=hK.lea ⟨hz.2,nn⟩ hc;omega
theorem zS {a b:Int} (ha:bB a) (h0:0≤a) (hb:b≠0):(0≤lH a b∧lH a b≤a)∧(0≤b→lH a b≤b - 1):=by
 unfold bB at ha
 have key:∀c:Int,0<c→(0≤a / c∧a / c≤a)∧(0≤a / c*c∧a / c*c≤a)∧a - a / c*c≤c - 1:=fun c hc=>by
  have h1:=Int.ediv_nonneg h0 (Int.le_of_lt hc)
  have h2:=Int.ediv_le_self c h0
  have h3:=Int.ediv_mul_le a (Int.ne_of_gt hc)
  have h4:=Int.mul_nonneg h1 (Int.le_of_lt hc)
  have h5:=Int.lt_ediv_add_one_mul_self a hc
  rw[Int.add_mul,Int.one_mul] at h5
  exact ⟨⟨h1,h2⟩,⟨h4,h3⟩,by omega⟩
 unfold lH
 split
 ·rename_i e;subst e;exact ⟨⟨Int.le_refl _,h0⟩,fun h=>by omega⟩
 rw[Int.tdiv_eq_ediv_of_nonneg h0]
 by_cases hp:0<b
 ·obtain ⟨⟨k1,k2⟩,⟨k3,k4⟩,k5⟩:=key b hp
  rw[show IntKind.i64.wrap (a / b)=a / b by rw[eE];omega,show IntKind.i64.wrap (a / b*b)=a / b*b by rw[eE];omega,show IntKind.i64.wrap (a - a / b*b)=a - a / b*b by rw[eE];omega]
  exact ⟨⟨by omega,by omega⟩,fun _=>k5⟩
 ·obtain ⟨⟨k1,k2⟩,⟨k3,k4⟩,k5⟩:=key (-b) (by omega)
  have e:a / b=-(a / -b):=by rw[Int.ediv_neg,Int.neg_neg]
  have e2:a / b*b=a / -b*-b:=by rw[e,Int.neg_mul,Int.mul_neg]
  rw[show IntKind.i64.wrap (a / b)=a / b by rw[eE];omega,e2,show IntKind.i64.wrap (a / -b*-b)=a / -b*-b by rw[eE];omega,show IntKind.i64.wrap (a - a / -b*-b)=a - a / -b*-b by rw[eE];omega]
  exact ⟨⟨by omega,by omega⟩,fun _=>by omega⟩
theorem Dj {a b:Int} (ha:bB a) (h0:a<0) (hb:0<b):lH a b≤0:=by
 unfold bB at ha
 have h1:=Int.ediv_nonneg (show 0≤-a by omega) (Int.le_of_lt hb)
 have h2:=Int.ediv_le_self b (show 0≤-a by omega)
 have h3:=Int.ediv_mul_le (-a) (Int.ne_of_gt hb)
 have h4:=Int.mul_nonneg h1 (Int.le_of_lt hb)
 unfold lH
 rw[if_neg (by omega)]
 have e:a.tdiv b=-(-a / b):=by rw[←Int.tdiv_eq_ediv_of_nonneg (by omega),Int.neg_tdiv,Int.neg_neg]
 rw[e,show IntKind.i64.wrap (-(-a / b))=-(-a / b) by rw[eE];omega,Int.neg_mul,show IntKind.i64.wrap (-(-a / b*b))=-(-a / b*b) by rw[eE];omega,show IntKind.i64.wrap (a - -(-a / b*b))=a - -(-a / b*b) by rw[eE];omega]
 omega
theorem E4 {a b:Int} (ha:bB a) (h0:0≤a) (hb:0<b):0≤qA a b∧qA a b≤a:=by
 unfold bB at ha
 have h1:=Int.ediv_nonneg h0 (Int.le_of_lt hb)
 have h2:=Int.ediv_le_self b h0
 unfold qA
 rw[Int.tdiv_eq_ediv_of_nonneg h0,show IntKind.i64.wrap (a / b)=a / b by rw[eE];omega]
 exact ⟨h1,h2⟩
theorem fH.pos (h:fH f s K) (hs:bn f s) {v:Int} (h0:0≤v) (e:nu f K v=true):0≤vl f s v:=by
 have:=h.flw ⟨kW,h0⟩ e
 rw[qI hs] at this
 omega
theorem E5 (hs:bn f s) (hF:bM f x) (hT:dN f x=true) (hP:PX s x) (hK:fH f s K) (hop:x.op=5∨x.op=6):fH f s (iX f K x):=by
 have nn:0≤dW f:=kW
 have hno:=qI hs
 have ha:bB (aG s x):=qC hs.i64
 obtain ⟨⟨k0,k1⟩,_,_,hx⟩:(bg f (bj x)=0∧bg f (b7 x)=0)∧∃y z,x.args=[y,z]:=by
  rcases hop with e|e
  ·exact kq (cC hT e (by omega) eV.2.2.1)
  ·exact kq (cC hT e (by omega) eV.2.2.2.1)
 have hd:x.dst<f.vars.length∧0≤x.dst:=by rcases hop with e|e<;>exact hF.d e rfl
 have kd:bg f x.dst=0:=by
  rcases hop with e|e
  ·exact gv hT e (by omega) iA.2.2.2.1 kX.2.2.2.1
  ·exact gv hT e (by omega) iA.2.2.2.2.1 kX.2.2.2.2.1
 have hy:=hF.a0 (by simp[hx])
 have hz:=hF.a1 (by simp[hx])
 have v0:vl f s (bj x)=aG s x:=ma k0
 have v1:vl f s (b7 x)=bG s x:=ma k1
 have vd:vl f s x.dst=vi s.ints x.dst:=ma kd
 have hA:fH f s (eU f K x):=by
  unfold eU
  split
  ·rename_i h
   have p:=hK.pos hs hy.2 h.1
   rw[v0] at p
   have key:0≤vi s.ints x.dst∧vi s.ints x.dst≤aG s x:=by
    rcases hop with e|e
    ·obtain ⟨hb,hv⟩:=hP.i5 e
     have q:=hK.pos hs hz.2 (h.2.resolve_right (by omega))
     rw[v1] at q
     rw[hv];exact E4 ha p (by omega)
    ·obtain ⟨hb,hv⟩:=hP.i6 e
     rw[hv];exact (zS ha p hb).1
   exact (hK.add ⟨nn,hd.2⟩ (by omega)).add ⟨hd.2,hy.2⟩ (by omega)
  ·exact hK
 unfold iX
 split
 ·rename_i h
  obtain ⟨hb,hv⟩:=hP.i6 h.2
  have q:=hK.pos hs hz.2 h.1
  rw[v1] at q
  refine hA.add ⟨hd.2,hz.2⟩ ?_
  rw[vd,v1,hv]
  by_cases p:0≤aG s x
  ·have:=(zS ha p hb).2 q;omega
  ·have:=Dj ha (by omega) (show 0<bG s x by omega);omega
 ·exact hA
theorem GH {v:Int} (h2:bg f v=2) (hs:bn f s) (h64:kY s) (hv:v<f.vars.length∧0≤v):0≤vl f s v∧vl f s v≤64:=by
 rw[HP h2]
 split
 ·omega
 ·have:=h64 _ (mJ (by omega) (jV hs hv).2)
  omega
theorem E6 (hs:bn f s) (hF:bM f x) (hT:dN f x=true) (hP:PX s x) (hK:fH f s K):fH f s (lM f K x):=by
 have nn:0≤dW f:=kW
 have hno:=qI hs
 unfold lM
 split
 ·rename_i h
  have hd:=hF.d h.1 rfl
  have vd:vl f s x.dst=x.num:=by rw[ma (gv hT h.1 (by omega) iA.1 kX.1),hP.i0 h.1]
  exact (hK.add ⟨hd.2,nn⟩ (by omega)).add ⟨nn,hd.2⟩ (by omega)
 split
 ·rename_i _ h
  rcases h with h|h|h
  ·have hd:=hF.d h.1 rfl
   have hy:=hF.a0 (by rw[hF.cnt h.1];decide)
   refine hK.both ⟨hd.2,hy.2⟩ ?_
   have hk:bg f x.dst=bg f (bj x):=by
    unfold dN at hT
    rw[if_pos h.1] at hT
    rw[wd hT]
    unfold bj
    cases x.args<;>rfl
   have hv:=hP.i1 h.1
   unfold V at hv
   simp only[Prod.mk.injEq] at hv
   unfold vl
   rw[hk,hv.1,hv.2.2]
  ·have hd:=hF.d h rfl
   obtain ⟨k0,_,hx⟩:=zQ (cC hT h (by omega) eV.2.2.2.2.2.2.2.2.2.1)
   have hy:=hF.a0 (by simp[hx])
   refine hK.both ⟨hd.2,hy.2⟩ ?_
   obtain ⟨h0,h1⟩:=hP.i12 h
   rw[ma (gv hT h (by omega) iA.2.2.2.2.2.1 kX.2.2.2.2.2.1),HP k0,h1]
   unfold rG at h0 ⊢
   rw[if_neg (by omega)]
  ·have hd:=hF.d h rfl
   obtain ⟨k0,_,hx⟩:=zQ (cC hT h (by omega) eV.2.2.2.2.2.2.2.2.2.2.1)
   have hy:=hF.a0 (by simp[hx])
   refine hK.both ⟨hd.2,hy.2⟩ ?_
   obtain ⟨h0,h1⟩:=hP.i15 h
   rw[HP (gv hT h (by omega) iA.2.2.2.2.2.2.1 kX.2.2.2.2.2.2.1),ma k0,if_neg (by omega),h1];rfl
 split
 ·rename_i h
  have hd:=hF.d h rfl
  refine hK.both ⟨hd.2,nn⟩ ?_
  rw[HP (gv hT h (by omega) iA.2.2.2.2.2.2.2 kX.2.2.2.2.2.2.2),hP.i16 h,hno];rfl
 split
 ·rename_i h;exact GG hs hF hT hP hK h
 split
 ·rename_i h;exact E5 hs hF hT hP hK h
 ·exact hK
theorem E7 (hs:bn f s) (hF:bM f x) (hT:dN f x=true) (hP:PX s x) (hc:18≤x.op∧x.op≤24) (hK:fH f s K):fH f s (lN f K x):=by
 have nn:0≤dW f:=kW
 have hno:=qI hs
 have hp:=hP.ck hc.1 hc.2
 have hB:fH f s ⟨K.l,K.p++[(x.op,x.args)]⟩:=⟨hK.facts,fun q hq=>by
  rcases List.mem_append.1 hq with hq|hq
  ·exact hK.passed q hq
  ·rw[List.mem_singleton.1 hq];exact hp⟩
 unfold lN
 split
 ·rename_i e
  obtain ⟨⟨k0,k1⟩,y,z,hx⟩:=kq (cC hT e (by omega) eV.2.2.2.2.2.2.2.2.2.2.2.1)
  have hy:=hF.a0 (by simp[hx])
  have hz:=hF.a1 (by simp[hx])
  have ey:bj x=y:=by unfold bj;rw[hx];rfl
  have ez:b7 x=z:=by unfold b7;rw[hx];rfl
  rw[e,hx] at hp
  unfold ee at hp
  rw[if_pos rfl] at hp
  obtain ⟨p1,_,p3,p4⟩:=iW.1 hp
  have p1:0≤vi s.arrs y:=p1
  have p3:0≤vi s.ints z:=p3
  have p4:vi s.ints z<(dE s (vi s.arrs y)).length:=p4
  have v1:vl f s (b7 x)=vi s.ints z:=by rw[ma k1,ez]
  have v0:vl f s (bj x)=(dE s (vi s.arrs y)).length:=by rw[HP k0,ey,if_neg (by omega)]
  exact (hB.add ⟨nn,hz.2⟩ (by omega)).add ⟨hz.2,hy.2⟩ (by omega)
 split
 ·rename_i _ e
  obtain ⟨k0,y,hx⟩:=zQ (cC hT e (by omega) eV.2.2.2.2.2.2.2.2.2.2.2.2.2.2.2.2.2)
  have hy:=hF.a0 (by simp[hx])
  have ey:bj x=y:=by unfold bj;rw[hx];rfl
  rw[e,hx] at hp
  unfold ee at hp
  simp at hp
  have v0:vl f s (bj x)=vi s.ints y:=by rw[ma k0,ey]
  exact (hB.add ⟨nn,hy.2⟩ (by omega)).add ⟨hy.2,nn⟩ (by omega)
 split
 ·rename_i _ _ e
  obtain ⟨k0,y,hx⟩:=zQ (cC hT e (by omega) eV.2.2.2.2.2.2.2.2.2.2.2.2.2.1)
  have hy:=hF.a0 (by simp[hx])
  have ey:bj x=y:=by unfold bj;rw[hx];rfl
  rw[e,hx] at hp
  unfold ee at hp
  simp at hp
  have v0:vl f s (bj x)=vi s.ints y:=by rw[ma k0,ey]
  split
  ·rename_i h
   have:=hK.pos hs hy.2 h
   exact hB.add ⟨nn,hy.2⟩ (by omega)
  ·split
   ·rename_i h
    have:=hK.flw ⟨hy.2,nn⟩ h
    exact hB.add ⟨hy.2,nn⟩ (by omega)
   ·exact hB
 ·exact hB
theorem GI (hs:bn f s) (hF:bM f x) (hT:dN f x=true) (hP:PX s x) (hK:fH f s K):fH f s (ec f K x):=by
 unfold ec
 split
 ·rename_i h;exact E7 hs hF hT hP h hK
 ·exact E6 hs hF hT hP hK
end
end Go.Proofs.YtdilpodccjlkgaaGreatDoor
namespace Go.Proofs.YtdilpodccjlkgaaGreatDoor
structure kw where
 seen:List (Int × Bool)
 out:List ww
def fa (q:kw) (a b n:Int):kw:=if a=b then q else ⟨q.seen,q.out++[⟨a,b,n⟩]⟩
section
variable (f:ac)
def kx:Nat→kw→Int→Bool→kw
 |0,q,_,_=>q
 |n+1,q,c,is=>if q.seen.contains (c,is)=true then q else
  match dx f c with
  |none=>⟨q.seen++[(c,is)],q.out⟩
  |some x=>
   if x.op=10 then kx n ⟨q.seen++[(c,is)],q.out⟩ (bj x) (!is)
   else if x.op=1 then kx n ⟨q.seen++[(c,is)],q.out⟩ (bj x) is
   else if x.op=11 then (if is=true then kx n (kx n ⟨q.seen++[(c,is)],q.out⟩ (bj x) true) (b7 x) true else ⟨q.seen++[(c,is)],q.out⟩)
   else if x.op=8 then (if is=true then fa ⟨q.seen++[(c,is)],q.out⟩ (bj x) (b7 x) 0 else fa ⟨q.seen++[(c,is)],q.out⟩ (b7 x) (bj x) 1)
   else if x.op=9 then (if is=true then fa ⟨q.seen++[(c,is)],q.out⟩ (bj x) (b7 x) 1 else fa ⟨q.seen++[(c,is)],q.out⟩ (b7 x) (bj x) 0)
   else if x.op=7 then (if is=true then fa ⟨q.seen++[(c,is)],q.out⟩ (bj x) (b7 x) 2 else ⟨q.seen++[(c,is)],q.out⟩)
   else ⟨q.seen++[(c,is)],q.out⟩
def jX (c:Int) (is:Bool):List ww:=(kx f 100000 ⟨[],[]⟩ c is).out
def Ea (i:Int):List ww:=match bd (ah f) f.blocks.length i with
 |[p]=>if (bT f p).term.kind=1∧(bT f p).term.to0≠(bT f p).term.to1 then jX f (bT f p).term.var (decide ((bT f p).term.to0=i)) else[]
 |_=>[]
def fY (p q:Bool):Int:=if p=true then 1 else if q=true then 2 else 0
def fm (K:KS):Nat→Int→Int
 |0,_=>0
 |n+1,v=>match dx f v with
  |none=>0
  |some x=>
   if x.op=8 then fY (e8 f K (bj x) (b7 x) (-1)) (e8 f K (b7 x) (bj x) 0)
   else if x.op=9 then fY (e8 f K (bj x) (b7 x) 0) (e8 f K (b7 x) (bj x) (-1))
   else if x.op=7 then fY (e8 f K (bj x) (b7 x) 0&&e8 f K (b7 x) (bj x) 0) (e8 f K (bj x) (b7 x) (-1)||e8 f K (b7 x) (bj x) (-1))
   else if x.op=1 then fm K n (bj x)
   else if x.op=10 then fY (decide (fm K n (bj x)=2)) (decide (fm K n (bj x)=1))
   else if x.op=11 then fY (decide (fm K n (bj x)=1)&&decide (fm K n (b7 x)=1)) (decide (fm K n (bj x)=2)||decide (fm K n (b7 x)=2))
   else 0
def gE (K:KS) (v:Int):KS:=
 if bg f v=2 then em (em K v (dW f) 64) (dW f) v 0
 else if bg f v=0∧(f.params.length:Int)≤v∧(aL f v).1<0 then iz K v (dW f)
 else K
def dF:KS:=(bx f.vars.length).foldl (gE f) ⟨[],[]⟩
def nY (K:KS) (i:Int):KS:=(Ea f i).foldl gu K
def xB (K:KS) (i:Int):KS:=(bT f i).insts.foldl (ec f) K
def vE:List Int→KS
 |[]=>dF f
 |b::up=>xB f (nY f (vE up) b) b
def Eb (b:Int):List Int:=cZ (bt (ah f) f.blocks.length) f.blocks.length b
def B6 (b:Int) (k:Nat):KS:=((bT f b).insts.take k).foldl (ec f) (nY f (vE f (Eb f b).tail) b)
end
structure iY (f:ac) (s:GS) (r:ww):Prop where
 nn:0≤r.a∧0≤r.b
 lt:r.n=0→vl f s r.a<vl f s r.b
 le:r.n=1→vl f s r.a≤vl f s r.b
 eq:r.n=2→vl f s r.a=vl f s r.b
def F1 (f:ac) (s:GS) (Good:Int→Prop):Prop:=∀v y,Good v→dx f v=some y→(PX s y∧bM f y∧dN f y=true∧y.dst=v)∧∀a∈y.args,Good a
theorem Dl {f:ac} {s:GS} {a b:Int} (h:0≤a∧0≤b) (g:vl f s a<vl f s b):iY f s ⟨a,b,0⟩:=⟨h,fun _=>g,fun e=>(by cases e),fun e=>(by cases e)⟩
theorem Dm {f:ac} {s:GS} {a b:Int} (h:0≤a∧0≤b) (g:vl f s a≤vl f s b):iY f s ⟨a,b,1⟩:=⟨h,fun e=>(by cases e),fun _=>g,fun e=>(by cases e)⟩
theorem GJ {f:ac} {s:GS} {a b:Int} (h:0≤a∧0≤b) (g:vl f s a=vl f s b):iY f s ⟨a,b,2⟩:=⟨h,fun e=>(by cases e),fun e=>(by cases e),fun _=>g⟩
section
variable {f:ac} {s:GS} {K:KS} {Good:Int→Prop} (hG:F1 f s Good)
theorem xC {x:aF} (hl:0<x.args.length):bj x∈x.args:=by unfold bj;rw[qt hl];exact qx hl
theorem GK {x:aF} (hl:1<x.args.length):b7 x∈x.args:=by unfold b7;rw[qt hl];exact qx hl
theorem fH.rel (h:fH f s K) {r:ww} (hr:iY f s r):fH f s (gu K r):=by
 unfold gu
 split
 ·rename_i e;have:=hr.lt e;exact h.add hr.nn (by omega)
 ·split
  ·rename_i e;have:=hr.le e;exact h.add hr.nn (by omega)
  ·split
   ·rename_i e;exact h.both hr.nn (hr.eq e)
   ·exact h
theorem fH.rels:∀(l:List ww) (K:KS),fH f s K→(∀r∈l,iY f s r)→fH f s (l.foldl gu K)
 |[],_,h,_=>h
 |r::l,_,h,hl=>fH.rels l _ (h.rel (hl r (.head _))) fun q hq=>hl q (.tail _ hq)
theorem fH.stps (hs:bn f s):∀(l:List aF) (K:KS),fH f s K→(∀x∈l,PX s x∧bM f x∧dN f x=true)→fH f s (l.foldl (ec f) K)
 |[],_,h,_=>h
 |x::l,_,h,hl=>fH.stps hs l _ (GI hs (hl x (.head _)).2.1 (hl x (.head _)).2.2 (hl x (.head _)).1 h) fun q hq=>hl q (.tail _ hq)
theorem mO {q:kw} (h:∀r∈q.out,iY f s r) {a b n:Int} (hr:iY f s ⟨a,b,n⟩):∀r∈(fa q a b n).out,iY f s r:=by
 unfold fa
 split
 ·exact h
 ·intro r hm
  rcases List.mem_append.1 hm with hm|hm
  ·exact h r hm
  ·rw[List.mem_singleton.1 hm];exact hr
include hG
theorem qJ:∀(n:Nat) (q:kw) (c:Int) (is:Bool),(∀r∈q.out,iY f s r)→Good c→gb s.bools c=is→∀r∈(kx f n q c is).out,iY f s r
 |0,q,_,_,h,_,_=>h
 |n+1,q,c,is,h,hc,hv=>by
  unfold kx
  split
  ·exact h
  split
  ·exact h
  rename_i x hx
  obtain ⟨⟨hP,hF,hT,hd⟩,ha⟩:=hG c x hc hx
  split
  ·rename_i e
   have hl:0<x.args.length:=by rw[hF.cnt e];decide
   refine qJ n ⟨_,_⟩ _ _ h (ha _ (xC hl)) ?_
   have:=hP.i10 e
   rw[hd,hv] at this
   show pG s x=_
   cases hp:pG s x<;>rw[hp] at this<;>rw[this]<;>rfl
  split
  ·rename_i e
   have hl:0<x.args.length:=by rw[hF.cnt e];decide
   refine qJ n ⟨_,_⟩ _ _ h (ha _ (xC hl)) ?_
   have:=hP.i1 e
   unfold V at this
   simp only[Prod.mk.injEq] at this
   rw[←this.2.1,hd,hv]
  split
  ·rename_i e
   have hl:1<x.args.length:=by rw[hF.cnt e];decide
   split
   ·rename_i his
    have hb:=hP.i11 e
    rw[hd,hv,his] at hb
    have hb:=(wa _ _▸hb.symm:pG s x=true∧qG s x=true)
    exact qJ n _ _ _ (qJ n ⟨_,_⟩ _ _ h (ha _ (xC (by omega))) hb.1) (ha _ (GK hl)) hb.2
   ·exact h
  split
  ·rename_i e
   obtain ⟨⟨k0,k1⟩,_,_,hl⟩:=kq (cC hT e (by omega) eV.2.2.2.2.2.1)
   have hy:=hF.a0 (by simp[hl])
   have hz:=hF.a1 (by simp[hl])
   have hb:=hP.i8 e
   rw[hd,hv] at hb
   have v0:vl f s (bj x)=aG s x:=ma k0
   have v1:vl f s (b7 x)=bG s x:=ma k1
   split
   ·rename_i his
    rw[his] at hb
    have:=wd hb.symm
    exact mO (q:=⟨q.seen++[(c,is)],q.out⟩) h (Dl ⟨hy.2,hz.2⟩ (by omega))
   ·rename_i his
    have:is=false:=by simpa using his
    rw[this] at hb
    have:=we hb.symm
    exact mO (q:=⟨q.seen++[(c,is)],q.out⟩) h (Dm ⟨hz.2,hy.2⟩ (by omega))
  split
  ·rename_i e
   obtain ⟨⟨k0,k1⟩,_,_,hl⟩:=kq (cC hT e (by omega) eV.2.2.2.2.2.2.1)
   have hy:=hF.a0 (by simp[hl])
   have hz:=hF.a1 (by simp[hl])
   have hb:=hP.i9 e
   rw[hd,hv] at hb
   have v0:vl f s (bj x)=aG s x:=ma k0
   have v1:vl f s (b7 x)=bG s x:=ma k1
   split
   ·rename_i his
    rw[his] at hb
    have:=wd hb.symm
    exact mO (q:=⟨q.seen++[(c,is)],q.out⟩) h (Dm ⟨hy.2,hz.2⟩ (by omega))
   ·rename_i his
    have:is=false:=by simpa using his
    rw[this] at hb
    have:=we hb.symm
    exact mO (q:=⟨q.seen++[(c,is)],q.out⟩) h (Dl ⟨hz.2,hy.2⟩ (by omega))
  split
  ·rename_i e
   obtain ⟨⟨k0,k1⟩,_,_,hl⟩:=kq (cC hT e (by omega) eV.2.2.2.2.1)
   have hy:=hF.a0 (by simp[hl])
   have hz:=hF.a1 (by simp[hl])
   have hb:=hP.i7 e
   rw[hd,hv] at hb
   have v0:vl f s (bj x)=aG s x:=ma k0
   have v1:vl f s (b7 x)=bG s x:=ma k1
   split
   ·rename_i his
    rw[his] at hb
    have:=wd hb.symm
    exact mO (q:=⟨q.seen++[(c,is)],q.out⟩) h (GJ ⟨hy.2,hz.2⟩ (by omega))
   ·exact h
  ·exact h
theorem Dn {c:Int} {is:Bool} (hc:Good c) (hv:gb s.bools c=is):∀r∈jX f c is,iY f s r:=qJ hG _ _ _ _ (fun r hr=>by cases hr) hc hv
omit hG in
theorem qK {p q:Bool} (h:fY p q=1):p=true:=by
 unfold fY at h
 split at h
 ·assumption
 ·split at h<;>cases h
omit hG in
theorem qL {p q:Bool} (h:fY p q=2):q=true:=by
 unfold fY at h
 split at h
 ·cases h
 ·split at h
  ·assumption
  ·cases h
theorem qM (hK:fH f s K):∀(n:Nat) (v:Int),Good v→(fm f K n v=1→gb s.bools v=true)∧(fm f K n v=2→gb s.bools v=false)
 |0,v,_=>⟨fun h=>(by cases h),fun h=>(by cases h)⟩
 |n+1,v,hc=>by
  unfold fm
  split
  ·exact ⟨fun h=>(by cases h),fun h=>(by cases h)⟩
  rename_i x hx
  obtain ⟨⟨hP,hF,hT,hd⟩,ha⟩:=hG v x hc hx
  split
  ·rename_i e
   obtain ⟨⟨k0,k1⟩,_,_,hl⟩:=kq (cC hT e (by omega) eV.2.2.2.2.2.1)
   have hy:=hF.a0 (by simp[hl])
   have hz:=hF.a1 (by simp[hl])
   have hb:=hP.i8 e
   have v0:vl f s (bj x)=aG s x:=ma k0
   have v1:vl f s (b7 x)=bG s x:=ma k1
   rw[hd] at hb
   rw[hb]
   refine ⟨fun h=>w8 ?_,fun h=>w9 ?_⟩
   ·have:=hK.flw ⟨hy.2,hz.2⟩ (qK h);omega
   ·have:=hK.flw ⟨hz.2,hy.2⟩ (qL h);omega
  split
  ·rename_i e
   obtain ⟨⟨k0,k1⟩,_,_,hl⟩:=kq (cC hT e (by omega) eV.2.2.2.2.2.2.1)
   have hy:=hF.a0 (by simp[hl])
   have hz:=hF.a1 (by simp[hl])
   have hb:=hP.i9 e
   have v0:vl f s (bj x)=aG s x:=ma k0
   have v1:vl f s (b7 x)=bG s x:=ma k1
   rw[hd] at hb
   rw[hb]
   refine ⟨fun h=>w8 ?_,fun h=>w9 ?_⟩
   ·have:=hK.flw ⟨hy.2,hz.2⟩ (qK h);omega
   ·have:=hK.flw ⟨hz.2,hy.2⟩ (qL h);omega
  split
  ·rename_i e
   obtain ⟨⟨k0,k1⟩,_,_,hl⟩:=kq (cC hT e (by omega) eV.2.2.2.2.1)
   have hy:=hF.a0 (by simp[hl])
   have hz:=hF.a1 (by simp[hl])
   have hb:=hP.i7 e
   have v0:vl f s (bj x)=aG s x:=ma k0
   have v1:vl f s (b7 x)=bG s x:=ma k1
   rw[hd] at hb
   rw[hb]
   refine ⟨fun h=>w8 ?_,fun h=>w9 ?_⟩
   ·have h:=(wa _ _▸qK h:_=true∧_=true)
    have:=hK.flw ⟨hy.2,hz.2⟩ h.1
    have:=hK.flw ⟨hz.2,hy.2⟩ h.2
    omega
   ·rcases (Bool.or_eq_true _ _▸qL h:_=true∨_=true) with h|h
    ·have:=hK.flw ⟨hy.2,hz.2⟩ h;omega
    ·have:=hK.flw ⟨hz.2,hy.2⟩ h;omega
  split
  ·rename_i e
   have ih:=qM hK n _ (ha _ (xC (by rw[hF.cnt e];decide)))
   have hb:=hP.i1 e
   unfold V at hb
   simp only[Prod.mk.injEq] at hb
   rw[←hd,hb.2.1]
   exact ih
  split
  ·rename_i e
   have ih:=qM hK n _ (ha _ (xC (by rw[hF.cnt e];decide)))
   have hb:=hP.i10 e
   unfold pG at hb
   rw[←hd,hb]
   refine ⟨fun h=>?_,fun h=>?_⟩
   ·rw[ih.2 (wd (qK h))];rfl
   ·rw[ih.1 (wd (qL h))];rfl
  split
  ·rename_i e
   have i0:=qM hK n _ (ha _ (xC (by rw[hF.cnt e];decide)))
   have i1:=qM hK n _ (ha _ (GK (by rw[hF.cnt e];decide)))
   have hb:=hP.i11 e
   unfold pG qG at hb
   rw[←hd,hb]
   refine ⟨fun h=>?_,fun h=>?_⟩
   ·have h:=(wa _ _▸qK h:_=true∧_=true)
    rw[i0.1 (wd h.1),i1.1 (wd h.2)];rfl
   ·rcases (Bool.or_eq_true _ _▸qL h:_=true∨_=true) with h|h
    ·rw[i0.2 (wd h)];rfl
    ·rw[i1.2 (wd h),Bool.and_false]
  ·exact ⟨fun h=>(by cases h),fun h=>(by cases h)⟩
end
end Go.Proofs.YtdilpodccjlkgaaGreatDoor
namespace Go.Proofs.YtdilpodccjlkgaaGreatDoor
structure b5 (f:ac):Prop where
 hT:∀b∈f.blocks,iH f b=true
 hS:bR f
 hE:bW f
 hs:CJ f
 hO:HN f
 run:vx f
structure gx (f:ac) (s:GS):Prop where
 g:bn f s
 r64:kY s
 un:∀v:Int,f.params.length≤v→v<f.vars.length→(aL f v).1<0→vi s.ints v=0
 px:∀i k x,zP f i k x→cY f ((i:Int),(k:Int)) s.blk s.pc→PX s x
 br:∀c p,gJ (ah f) c s.blk→bd (ah f) f.blocks.length c=[p]→(bT f p).term.kind=1→(bT f p).term.to0≠(bT f p).term.to1→gb s.bools (bT f p).term.var=decide ((bT f p).term.to0=c)
theorem dQ {f:ac} {i:Nat} {b:aX} (h:f.blocks[i]?=some b):bT f (i:Int)=b:=by unfold bT;rw[Int.toNat_natCast,h];rfl
theorem xD {f:ac} {s:GS} {x:aF} (hF:bM f x) {v:Int} (h0:0≤v) (hne:v≠x.dst):V (ba s x) v=V s v:=by
 unfold ba
 split
 ·split<;>rfl
 ·rename_i ho
  rw[tE]
  by_cases hd:0≤x.dst
  ·exact zO hd h0 hne
  ·exact E1 (Bs hF ho (by omega)) v
theorem zT {P:Act→Prop} (s:GS) (x:aF) (h1:∀e:Int,e≠1→P (.stop e)) (h2:∀v,P (.i v)) (h3:∀v,P (.b v)) (h4:∀v,P (.a v)) (h5:∀v,P (.all v)) (h6:P (.row (s.arrays.set (rG s x).toNat ((dE s (rG s x)).set (bG s x).toNat (vi s.ints (wv x)))))) (h7:∀k v,k≤64→P (.new (s.arrays++[List.replicate k 0]) v)) (h8:∀l,P (.out l)):P (ow s x):=by
 unfold ow
 repeat' (first|exact h1 _ (by decide)|exact h2 _|exact h3 _|exact h4 _|exact h5 _|exact h6|exact h8 _|(refine h7 _ _ ?_;omega)|refine gr (fun _=>?_) (fun _=>?_))
theorem Bx {s:GS} (x:aF) {a:Int} (h0:0≤a) (h1:a<s.arrays.length):a<(ba s x).arrays.length∧(dE (ba s x) a).length=(dE s a).length:=by
 unfold ba
 split
 ·split<;>exact ⟨h1,rfl⟩
 rw[tE]
 refine zT (P:=fun A=>a<(Dc s x.dst A).arrays.length∧(dE (Dc s x.dst A) a).length=(dE s a).length) s x (fun _ _=>⟨h1,Z⟩) (fun _=>⟨h1,Z⟩) (fun _=>⟨h1,Z⟩) (fun _=>⟨h1,Z⟩) (fun _=>⟨h1,Z⟩) ?_ (fun k v _=>?_) (fun _=>⟨h1,Z⟩)
 ·refine ⟨by show a<((s.arrays.set _ _).length:Int);rw[List.length_set];exact h1,?_⟩
  show (((s.arrays.set (rG s x).toNat ((dE s (rG s x)).set (bG s x).toNat (vi s.ints (wv x))))[a.toNat]?).getD []).length=_
  rw[List.getElem?_set]
  split
  ·rename_i hj
   split
   ·rw[Option.getD_some,List.length_set]
    unfold dE
    rw[hj]
   ·omega
  ·rfl
 ·refine ⟨by show a<((s.arrays++[_]).length:Int);rw[qz];omega,?_⟩
  show (((s.arrays++[_])[a.toNat]?).getD []).length=_
  rw[List.getElem?_append_left (by omega)];rfl
theorem Bz {s:GS} (h:kY s) (x:aF):kY (ba s x):=by
 unfold ba
 split
 ·split<;>exact h
 rw[tE]
 have hrow:∀a:Int,(dE s a).length≤64:=fun a=>by
  unfold dE
  cases e:s.arrays[a.toNat]? with
  |none=>simp
  |some r=>exact h r (w4 e)
 refine zT (P:=fun A=>kY (Dc s x.dst A)) s x (fun _ _=>h) (fun _=>h) (fun _=>h) (fun _=>h) (fun _=>h) (fun r hr=>?_) (fun k v hk r hr=>?_) (fun _=>h)
 ·rcases fw hr with hr|hr
  ·exact h r hr
  ·rw[hr,List.length_set];exact hrow _
 ·rcases List.mem_append.1 hr with hr|hr
  ·exact h r hr
  ·rw[List.mem_singleton.1 hr,List.length_replicate];exact hk
section
variable {f:ac} (hR:b5 f)
include hR
theorem b5.inF {i k:Nat} {x:aF} (h:zP f i k x):bM f x∧dN f x=true:=by
 obtain ⟨b,hb,hx⟩:=h
 have hbm:=w4 hb
 have hxm:=w4 hx
 refine ⟨gN ((hR.hS.2.2.2.2.2 b hbm).2.1 x hxm),?_⟩
 have:=hR.hT b hbm
 unfold iH at this
 simp only[wa] at this
 exact List.all_eq_true.1 this.1.2 x hxm
theorem b5.av {i k:Nat} {x:aF} (h:zP f i k x):∀v∈x.args,Av f i k v:=fun v hv=>by
 obtain ⟨b,hb,hx⟩:=h
 obtain ⟨hi,e⟩:=List.getElem?_eq_some_iff.1 hb
 obtain ⟨hk,e2⟩:=List.getElem?_eq_some_iff.1 hx
 have:=(hR.hs.2.2.2 i hi).2.1
 rw[e] at this
 exact this k hk v (by rw[e2];exact hv)
theorem b5.made {i k:Nat} {x:aF} (h:zP f i k x) (h0:0≤x.dst):aL f x.dst=((i:Int),(k:Int)):=by
 obtain ⟨b,hb,hx⟩:=h
 exact hR.hO.inst i k b x hb hx h0
theorem b5.noStart {x:Int}:(0:Int) ∉ ah f x:=fun hm=>by
 by_cases hx:0≤x∧x<f.blocks.length
 ·rw[jO hx.1 (by omega)] at hm
  have:=hR.hT (f.blocks[x.toNat]'(by omega)) (qx _)
  unfold iH at this
  simp only[wa] at this
  have ht:=this.2
  generalize (f.blocks[x.toNat]'(by omega)).term=t at hm ht
  unfold cL at hm
  unfold dZ at ht
  by_cases h0:t.kind=0
  ·rw[if_pos h0] at hm ht
   have:=List.mem_singleton.1 hm
   rw[←this] at ht;simp at ht
  ·rw[if_neg h0] at hm ht
   by_cases h1:t.kind=1
   ·rw[if_pos h1] at hm ht
    simp only[wa,Bool.not_eq_true',decide_eq_false_iff_not] at ht
    split at hm
    ·have:=List.mem_singleton.1 hm;exact ht.1.2 this.symm
    ·rcases List.mem_cons.1 hm with e|hm
     ·exact ht.1.2 e.symm
     ·exact ht.2 (List.mem_singleton.1 hm).symm
   ·rw[if_neg h1] at hm;cases hm
 ·rw[f7 hx] at hm;cases hm
theorem b5.pred {c p:Int} (h:bd (ah f) f.blocks.length c=[p]):c∈ah f p∧∀q,c∈ah f q→q=p:=by
 have key:∀q,q∈bd (ah f) f.blocks.length c↔c∈ah f q:=fun q=>jN hR.hE.grph.toEOk (fun x hx=>f7 hx)
 refine ⟨(key p).1 (by rw[h];exact .head _),fun q hq=>?_⟩
 have:=(key q).2 hq
 rw[h] at this
 exact List.mem_singleton.1 this
theorem b5.one {c p:Int} (hc:om (ah f) c) (h:bd (ah f) f.blocks.length c=[p]):c≠0∧gJ (ah f) p c∧p≠c:=by
 obtain ⟨h1,h2⟩:=hR.pred h
 have h0:c≠0:=fun e=>hR.noStart (e▸h1)
 refine ⟨h0,gJ.of_preds hc h0 fun q hq he=>?_,fun e=>?_⟩
 ·rw[h2 q he] at hq ⊢
  exact .refl hq
 ·subst e
  have:∀b,jG (ah f) (fun _=>True) 0 b→b≠p:=fun b hw=>by
   induction hw with
   |refl _=>exact fun e=>h0 e.symm
   |@step b d _ he _ ih=>exact fun e=>ih (h2 b (e▸he))
  exact this p hc rfl
theorem b5.brAv {c p:Int} (hc:om (ah f) c) (h:bd (ah f) f.blocks.length c=[p]) (hk:(bT f p).term.kind=1):Av f p (fE f p) (bT f p).term.var∧0≤(bT f p).term.var:=by
 obtain ⟨h1,h2⟩:=hR.pred h
 have hp:0≤p∧p<f.blocks.length:=Classical.byContradiction fun hn=>by rw[f7 hn] at h1;cases h1
 obtain ⟨j,rfl⟩:∃j:Nat,p=(j:Int):=⟨p.toNat,by omega⟩
 have hj:f.blocks[j]?=some (f.blocks[j]'(by omega)):=qt (by omega)
 have:=(hR.hs.2.2.2 j (by omega)).2.2
 rw[dQ hj] at hk ⊢
 rw[nt hj]
 refine ⟨this.resolve_left (by omega),?_⟩
 have ht:=hR.run.term _ (qx (show j<f.blocks.length by omega))
 unfold bC at ht
 rw[if_neg (by omega),if_pos hk] at ht
 simp only[wa] at ht
 exact (eG ht.1.1).2
theorem b5.brOut {c p b:Int} (hc:om (ah f) c) (h:bd (ah f) f.blocks.length c=[p]) {v:Int} (hv:Av f p (fE f p) v) (hb:(aL f v).1=b) (h0:0≤b) (hd:gJ (ah f) c b):False:=by
 obtain ⟨_,h2,h3⟩:=hR.one hc h
 have hG:=hR.hE.grph
 rcases hv with hv|⟨e,_⟩|⟨_,_,hv⟩
 ·omega
 ·rw[←e,hb] at h2 h3
  exact h3 (fk hG h2 hd)
 ·rw[hb] at hv
  exact h3 (fk hG h2 (hd.trans hv))
end
end Go.Proofs.YtdilpodccjlkgaaGreatDoor
namespace Go.Proofs.YtdilpodccjlkgaaGreatDoor
theorem E8 (s:GS) (x:aF):(ba s x).blk=s.blk∧(ba s x).pc=s.pc:=by
 unfold ba
 split
 ·split<;>exact ⟨rfl,rfl⟩
 ·rw[tE];cases ow s x<;>exact ⟨rfl,rfl⟩
theorem lO {s:GS} {v:Int} (h0:0≤v):∀(l:List dG) (t:GS),(∀p∈l,0≤p.dst∧p.dst≠v)→V (l.foldl (assign s) t) v=V t v
 |[],_,_=>rfl
 |p::l,t,h=>by
  rw[List.foldl_cons,lO h0 l _ fun q hq=>h q (.tail _ hq),xx]
  exact zO (h p (.head _)).1 h0 fun e=>(h p (.head _)).2 e.symm
theorem mP (s:GS):∀(l:List dG) (t:GS),(l.foldl (assign s) t).arrays=t.arrays∧(l.foldl (assign s) t).ended=t.ended
 |[],_=>⟨rfl,rfl⟩
 |p::l,t=>by rw[List.foldl_cons];exact mP s l (assign s t p)
theorem Do (t:fi) (g:Bool) (h:¬t.kind=0→t.kind=1):(if t.kind=0∨g=true then t.to0 else t.to1)∈cL t∧(t.kind=1→t.to0≠t.to1→g=decide (t.to0=if t.kind=0∨g=true then t.to0 else t.to1)):=by
 unfold cL
 by_cases h0:t.kind=0
 ·simp[h0]
 ·have h1:=h h0
  by_cases e:t.to0=t.to1
  ·simp[h1,e]
  ·cases g<;>simp[h1,e]
section
variable {f:ac} (hR:b5 f)
include hR
theorem gx.inst {s:GS} (hI:gx f s) (he:s.ended=false) {x:aF} (hx:(bT f s.blk).insts[s.pc]?=some x) (he':(dn f s).ended=false):gx f (dn f s):=by
 have hg:=hI.g.step hR.run
 obtain ⟨i,hi⟩:∃i:Nat,s.blk=(i:Int):=⟨s.blk.toNat,by have:=hI.g.b0;omega⟩
 have hil:i<f.blocks.length:=by have:=hI.g.b1;omega
 have hb:=qt hil
 have hat:zP f i s.pc x:=⟨_,hb,by rw[hi,dQ hb] at hx;exact hx⟩
 obtain ⟨hF,hTx⟩:=hR.inF hat
 have hst:dn f s=ba { s with pc:=s.pc+1,st:=s.st+1 } x:=by unfold dn;rw[hx]
 obtain ⟨s0,hs0⟩:∃s0:GS,{ s with pc:=s.pc+1,st:=s.st+1 }=s0:=⟨_,rfl⟩
 have e0:s0.ended=false∧s0.blk=s.blk∧s0.pc=s.pc+1∧s0.arrays=s.arrays∧(∀v,V s0 v=V s v):=by rw[←hs0];exact ⟨he,rfl,rfl,rfl,fun _=>rfl⟩
 have g0:bn f s0:=by
  rw[←hs0]
  have:=hI.g
  exact ⟨this.li,this.lb,this.la,this.i64,this.arr,this.ls,this.lr,this.r64,this.lt,this.b0,this.b1,(List.getElem?_eq_some_iff.1 hx).1⟩
 rw[hs0] at hst
 rw[hst] at hg he' ⊢
 obtain ⟨p1,p2⟩:=E8 s0 x
 have hV:∀v:Int,0≤v→v≠x.dst→V (ba s0 x) v=V s v:=fun v h0 h1=>by rw[xD hF h0 h1];exact e0.2.2.2.2 v
 have mk:∀v:Int,0≤v→v=x.dst→aL f v=((i:Int),(s.pc:Int)):=fun v h0 e=>by rw[e];exact hR.made hat (by omega)
 have avn:∀v:Int,0≤v→Av f s.blk s.pc v→v≠x.dst:=fun v h0 ha e=>by
  unfold Av at ha
  rw[mk v h0 e,hi] at ha
  rcases ha with h|⟨_,h⟩|⟨_,h,_⟩
  ·dsimp only at h;omega
  ·dsimp only at h;omega
  ·exact h rfl
 refine ⟨hg,Bz (s:=s0) (by unfold kY;rw[e0.2.2.2.1];exact hI.r64) x,fun v h1 h2 h3=>?_,fun j k y hy ha=>?_,fun c p hd hp hk ht=>?_⟩
 ·have h0:0≤v:=by omega
  have hne:v≠x.dst:=fun e=>by rw[mk v h0 e] at h3;dsimp only at h3;omega
  have:=hV v h0 hne
  unfold V at this
  simp only[Prod.mk.injEq] at this
  rw[this.1];exact hI.un v h1 h2 h3
 ·rw[p1,p2,e0.2.1,e0.2.2.1,hi] at ha
  obtain ⟨hFy,_⟩:=hR.inF hy
  by_cases hjk:(j:Int)=(i:Int)∧(k:Int)=(s.pc:Int)
  ·have ej:j=i:=by omega
   have ek:k=s.pc:=by omega
   subst ej ek
   have:y=x:=hy.one hat
   subst this
   refine PX.made g0 hF e0.1 he' fun v hv=>?_
   have h0:=(eG (hF.args v hv)).2
   exact avn v h0 (by rw[hi];exact hR.av hat v hv)
  ·have ha':cY f ((j:Int),(k:Int)) s.blk s.pc:=by
    rw[hi]
    rcases xy.1 (show cY f ((j:Int),(k:Int)) (i:Int) ((s.pc:Int)+1) from ha) with h|h
    ·exact h
    ·exact absurd h hjk
   have hP:=hI.px j k y hy ha'
   refine PX.same hI.g hg hFy ⟨fun h0=>?_,fun v hv=>?_,fun a h0 h1=>?_⟩ hP
   ·refine hV _ h0 fun e=>hjk ?_
    have h1:=hR.made hy h0
    rw[mk _ h0 e] at h1
    simp only[Prod.mk.injEq] at h1
    exact ⟨h1.1.symm,h1.2.symm⟩
   ·have h0:=(eG (hFy.args v hv)).2
    refine hV v h0 (avn v h0 ?_)
    exact nX (p:=((j:Int),(k:Int))) hR.hE (hR.av hy v hv) ha' (by dsimp only;omega)
   ·have:=Bx (s:=s0) x h0 (by rw[e0.2.2.2.1];exact h1)
    refine ⟨this.1,this.2.trans ?_⟩
    unfold dE
    rw[e0.2.2.2.1]
 ·rw[p1,e0.2.1] at hd
  have hc:=hd.rch
  obtain ⟨hav,h0⟩:=hR.brAv hc hp hk
  have hne:(bT f p).term.var≠x.dst:=fun e=>hR.brOut hc hp hav (b:=s.blk) (by rw[mk _ h0 e,hi]) hI.g.b0 hd
  have:=hV _ h0 hne
  unfold V at this
  simp only[Prod.mk.injEq] at this
  rw[this.2.1]
  exact hI.br c p hd hp hk ht
theorem gx.term {s:GS} (hI:gx f s) (he:s.ended=false) (hx:(bT f s.blk).insts[s.pc]?=none) (he':(dn f s).ended=false):gx f (dn f s):=by
 have hg:=hI.g.step hR.run
 obtain ⟨i,hi⟩:∃i:Nat,s.blk=(i:Int):=⟨s.blk.toNat,by have:=hI.g.b0;omega⟩
 have hil:i<f.blocks.length:=by have:=hI.g.b1;omega
 have hb:=qt hil
 have hbm:=qx hil
 have hpc:(s.pc:Int)=fE f s.blk:=by
  have h1:=hI.g.pc
  have h2:=List.getElem?_eq_none_iff.1 hx
  rw[hi,nt hb]
  rw[hi,dQ hb] at h1 h2
  omega
 have hk:¬(bT f s.blk).term.kind=2:=fun h=>by
  unfold dn at he'
  rw[hx] at he'
  dsimp only at he'
  rw[if_pos h] at he'
  cases he'
 have hst:dn f s=fv f { s with st:=s.st+1 } (nV f s):=by
  unfold dn;rw[hx];dsimp only;rw[if_neg hk]
 obtain ⟨s0,hs0⟩:∃s0:GS,{ s with st:=s.st+1 }=s0:=⟨_,rfl⟩
 have e0:s0.ended=false∧s0.blk=s.blk∧s0.arrays=s.arrays∧(∀v,V s0 v=V s v):=by rw[←hs0];exact ⟨he,rfl,rfl,fun _=>rfl⟩
 have htm:=hR.run.term _ (mK hI.g.b0 hI.g.b1)
 have hends:ah f s.blk=cL (bT f s.blk).term:=by rw[hi,pw hil,dQ hb]
 obtain ⟨t0',t1'⟩:=zM htm hk
 obtain ⟨c,hcn⟩:∃c,nV f s=c:=⟨_,rfl⟩
 have hmem:c∈ah f s.blk∧((bT f s.blk).term.kind=1→(bT f s.blk).term.to0≠(bT f s.blk).term.to1→gb s.bools (bT f s.blk).term.var=decide ((bT f s.blk).term.to0=c)):=by
  rw[hends,←hcn]
  exact Do _ _ fun h0=>(t1' h0).1
 obtain ⟨hce,hbv⟩:=hmem
 have hcr:0≤c∧c<f.blocks.length:=by
  have:=tD hR.run hI.g hk
  rw[hcn] at this
  exact this
 obtain ⟨to,rfl⟩:∃to:Nat,c=(to:Int):=⟨c.toNat,by omega⟩
 have htl:to<f.blocks.length:=by omega
 have hcb:=qt htl
 rw[hcn,hs0] at hst
 rw[hst] at hg he' ⊢
 unfold fv at hg he' ⊢
 split at he'
 case isFalse=>cases he'
 rename_i hall
 rw[if_pos hall] at hg ⊢
 rw[dQ hcb] at hg ⊢
 have hph:∀p∈(f.blocks[to]'htl).phis,0≤p.dst∧aL f p.dst=((to:Int),-1):=fun p hp=>by
  have:=hR.run.phis _ (qx htl) p hp
  exact ⟨(eG this.1).2,hR.hO.phi to _ p hcb hp⟩
 have hV:∀v:Int,0≤v→¬aL f v=((to:Int),-1)→V (goG ((f.blocks[to]'htl).phis.foldl (assign s0) s0) to) v=V s v:=fun v h0 h1=>by
  show V ((f.blocks[to]'htl).phis.foldl (assign s0) s0) v=_
  rw[lO h0 _ _ fun p hp=>⟨(hph p hp).1,fun e=>h1 (by rw[←e];exact (hph p hp).2)⟩]
  exact e0.2.2.2 v
 have har:(goG ((f.blocks[to]'htl).phis.foldl (assign s0) s0) to).arrays=s.arrays:=(mP s0 _ _).1.trans e0.2.2.1
 have hrch:om (ah f) (to:Int):=hR.hs.2.1 to htl
 have hirch:om (ah f) s.blk:=by rw[hi];exact hR.hs.2.1 i hil
 have hG:=hR.hE.grph
 refine ⟨hg,by unfold kY;rw[har];exact hI.r64,fun v h1 h2 h3=>?_,fun j k y hy ha=>?_,fun d p hd hp hk1 ht=>?_⟩
 ·have:=hV v (by omega) (fun e=>by rw[e] at h3;dsimp only at h3;omega)
  unfold V at this
  simp only[Prod.mk.injEq] at this
  rw[this.1];exact hI.un v h1 h2 h3
 ·have ha:cY f ((j:Int),(k:Int)) (to:Int) 0:=ha
  obtain ⟨hFy,_⟩:=hR.inF hy
  have hjt:(j:Int)≠(to:Int)∧gJ (ah f) (j:Int) (to:Int):=by
   rcases ha with h|⟨_,h⟩|⟨_,h,h'⟩
   ·dsimp only at h;omega
   ·dsimp only at h;omega
   ·exact ⟨h,h'⟩
  have ha':cY f ((j:Int),(k:Int)) s.blk s.pc:=by
   rw[hpc]
   refine xz hirch hce (k:=0) (by omega) ha (fun e=>?_) (fun _=>by dsimp only;omega)
   obtain ⟨B,h1,h2⟩:=hy
   dsimp only at e ⊢
   rw[←e,nt h1]
   have:=(List.getElem?_eq_some_iff.1 h2).1
   omega
  have hP:=hI.px j k y hy ha'
  refine PX.same hI.g hg hFy ⟨fun h0=>?_,fun v hv=>?_,fun a h0 h1=>?_⟩ hP
  ·refine hV _ h0 fun e=>?_
   rw[hR.made hy h0] at e
   simp only[Prod.mk.injEq] at e
   omega
  ·have h0:=(eG (hFy.args v hv)).2
   refine hV v h0 fun e=>?_
   have hv:=hR.av hy v hv
   unfold Av at hv
   rw[e] at hv
   rcases hv with h|⟨h,_⟩|⟨_,_,h⟩
   ·dsimp only at h;omega
   ·exact hjt.1 h.symm
   ·exact hjt.1 (fk hG hjt.2 h)
  ·refine ⟨by rw[har];exact h1,?_⟩
   unfold dE
   rw[har]
 ·have hd:gJ (ah f) d (to:Int):=hd
  have hdr:=hd.rch
  obtain ⟨hav,h0⟩:=hR.brAv hdr hp hk1
  have hne:¬aL f (bT f p).term.var=((to:Int),-1):=fun e=>hR.brOut hdr hp hav (b:=(to:Int)) (by rw[e]) (by omega) hd
  have:=hV _ h0 hne
  unfold V at this
  simp only[Prod.mk.injEq] at this
  rw[this.2.1]
  by_cases e:d=(to:Int)
  ·subst e
   have:=(hR.pred hp).2 s.blk hce
   rw[←this] at hk1 ht ⊢
   exact hbv hk1 ht
  ·exact hI.br d p (hd.pred hirch hce e) hp hk1 ht
theorem gx.step {s:GS} (hI:gx f s) (he:s.ended=false) (he':(dn f s).ended=false):gx f (dn f s):=by
 cases h:(bT f s.blk).insts[s.pc]? with
 |none=>exact hI.term hR he h he'
 |some x=>exact hI.inst hR he h he'
end
end Go.Proofs.YtdilpodccjlkgaaGreatDoor
