/- What the facts rest on stays so: a step, a run; at each place the facts are so. Plain law. No conditions. -/
import Derived.Test.YtdilpodccjlkgaaGreatDoorJi
import Derived.Test.YtdilpodccjlkgaaGreatDoorJm
import Derived.Test.YtdilpodccjlkgaaGreatDoorJc
import Derived.Test.YtdilpodccjlkgaaGreatDoorJa
set_option linter.unusedVariables false
set_option linter.unusedSimpArgs false
set_option linter.unusedSectionVars false
namespace Go.Proofs.YtdilpodccjlkgaaGreatDoor
structure GS where
 ints:List Int
 bools:List Bool
 arrs:List Int
 arrays:List (List Int)
 blk:Int
 pc:Nat
 en:Int
 val:Int
 tr:Int
 trace:List Int
 st:Nat
 ck:Nat→Nat
 ended:Bool
structure xG where
 int:Int
 b:Bool
 arr:Int
structure xH where
 args:List xG
 arrays:List (List Int)
def vi (l:List Int) (v:Int):Int:=(l[v.toNat]?).getD 0
def bj (x:aF):Int:=(x.args[0]?).getD 0
def bY (x:aF):Int:=(x.args[1]?).getD 0
def wH (x:aF):Int:=(x.args[2]?).getD 0
def dB (s:GS) (a:Int):List Int:=(s.arrays[a.toNat]?).getD []
def dn (s:GS) (a i:Int):Bool:=decide (0≤a∧a<s.arrays.length∧0≤i∧i<(dB s a).length)
def xI (l:List Int) (ints:List Int):Int:=if 1<l.length then vi ints ((l[1]?).getD 0) else 0
def cZ (s:GS) (op:Int) (l:List Int):Bool:=
 if op=18 then dn s (vi s.arrs ((l[0]?).getD 0)) (xI l s.ints)
 else if op=19 then decide (0≤vi s.arrs ((l[0]?).getD 0))
 else if op=20 then decide (vi s.ints ((l[0]?).getD 0)≠0)
 else if op=21 then decide (dp 0 (vi s.ints ((l[0]?).getD 0)) (xI l s.ints))
 else if op=22 then decide (dp 1 (vi s.ints ((l[0]?).getD 0)) (xI l s.ints))
 else if op=23 then decide (dp 2 (vi s.ints ((l[0]?).getD 0)) (xI l s.ints))
 else decide (0≤vi s.ints ((l[0]?).getD 0)∧vi s.ints ((l[0]?).getD 0)≤64)
def lT (s:GS) (t:Nat):GS:={ s with ck:=fun i=>if i=t then s.ck i+1 else s.ck i }
def dq (s:GS) (e:Int):GS:={ s with en:=e,ended:=true }
def Dn (s:GS) (t:Int):GS:={ s with en:=1,tr:=t,ended:=true }
def stI (s:GS) (d v:Int):GS:={ s with ints:=s.ints.set d.toNat v }
def stB (s:GS) (d:Int) (v:Bool):GS:={ s with bools:=s.bools.set d.toNat v }
def stA (s:GS) (d v:Int):GS:={ s with arrs:=s.arrs.set d.toNat v }
def qK (a b:Int):Int:=IntKind.i64.wrap (a.tdiv b)
def lP (a b:Int):Int:=if b=-1 then 0 else IntKind.i64.wrap (a - IntKind.i64.wrap (IntKind.i64.wrap (a.tdiv b)*b))
def aG (s:GS) (x:aF):Int:=vi s.ints (bj x)
def bG (s:GS) (x:aF):Int:=vi s.ints (bY x)
def pG (s:GS) (x:aF):Bool:=gb s.bools (bj x)
def qG (s:GS) (x:aF):Bool:=gb s.bools (bY x)
def rG (s:GS) (x:aF):Int:=vi s.arrs (bj x)
def doG (s:GS) (x:aF):GS:=
 if x.op=0 then stI s x.dst x.num
 else if x.op=1∨x.op=25∨x.op=26 then stA (stB (stI s x.dst (aG s x)) x.dst (pG s x)) x.dst (rG s x)
 else if x.op=2 then stI s x.dst (IntKind.i64.wrap (iu 0 (aG s x) (bG s x)))
 else if x.op=3 then stI s x.dst (IntKind.i64.wrap (iu 1 (aG s x) (bG s x)))
 else if x.op=4 then stI s x.dst (IntKind.i64.wrap (iu 2 (aG s x) (bG s x)))
 else if x.op=5 then (if bG s x=0 then dq s 2 else stI s x.dst (qK (aG s x) (bG s x)))
 else if x.op=6 then (if bG s x=0 then dq s 2 else stI s x.dst (lP (aG s x) (bG s x)))
 else if x.op=7 then stB s x.dst (decide (aG s x=bG s x))
 else if x.op=8 then stB s x.dst (decide (aG s x<bG s x))
 else if x.op=9 then stB s x.dst (decide (aG s x≤bG s x))
 else if x.op=10 then stB s x.dst (!pG s x)
 else if x.op=11 then stB s x.dst (pG s x&&qG s x)
 else if x.op=12 then (if rG s x<0 then dq s 2 else stI s x.dst ((dB s (rG s x)).length))
 else if x.op=13 then (if dn s (rG s x) (bG s x)=true then stI s x.dst (vi (dB s (rG s x)) (bG s x)) else dq s 2)
 else if x.op=14 then (if dn s (rG s x) (bG s x)=true then { s with arrays:=s.arrays.set (rG s x).toNat ((dB s (rG s x)).set (bG s x).toNat (vi s.ints (wH x))) } else dq s 2)
 else if x.op=15 then (if aG s x<0∨64<aG s x then dq s 2 else if 32≤s.arrays.length then dq s 3 else stA { s with arrays:=s.arrays++[List.replicate (aG s x).toNat 0] } x.dst s.arrays.length)
 else if x.op=16 then stA s x.dst (-1)
 else (if 4096≤s.trace.length then dq s 3 else { s with trace:=s.trace++[aG s x] })
def ba (s:GS) (x:aF):GS:=
 if 18≤x.op∧x.op≤24 then (if cZ s x.op x.args=true then lT s (x.op - 17).toNat else Dn (lT s (x.op - 17).toNat) (x.op - 17))
 else doG s x
def cA (f:ac) (b:Int):aX:=(f.blocks[b.toNat]?).getD ⟨⟨#[]⟩,[],[],⟨2,0,0,0⟩⟩
def er (p:dF) (b:Int):Int:=((p.from_.zip p.args).find? fun q=>decide (q.1=b)).elim (-1) (·.2)
def assign (s t:GS) (p:dF):GS:=stA (stB (stI t p.dst (vi s.ints (er p s.blk))) p.dst (gb s.bools (er p s.blk))) p.dst (vi s.arrs (er p s.blk))
def goG (s:GS) (to:Int):GS:={ s with blk:=to,pc:=0 }
def ep (f:ac) (s:GS) (to:Int):GS:=
 if (cA f to).phis.all (fun p=>decide (0≤er p s.blk))=true then goG ((cA f to).phis.foldl (assign s) s) to else dq (goG s to) 2
def lU (f:ac) (s:GS):Int:=if (cA f s.blk).term.kind=0∨gb s.bools (cA f s.blk).term.var=true then (cA f s.blk).term.to0 else (cA f s.blk).term.to1
def cQ (f:ac) (s:GS):GS:=
 match (cA f s.blk).insts[s.pc]? with
 |some x=>ba { s with pc:=s.pc+1,st:=s.st+1 } x
 |none=>if (cA f s.blk).term.kind=2 then dq { s with st:=s.st+1,val:=vi s.ints (cA f s.blk).term.var } 0 else ep f { s with st:=s.st+1 } (lU f s)
def fJ (f:ac):Nat→GS→GS
 |0,s=>s
 |k+1,s=>if s.ended=true then s else fJ f k (cQ f s)
def nd (f:ac) (i:Nat):Int:=((f.vars[i]?).map (·.ty)).getD 0
def rQ (f:ac) (i:Nat) (a:xG):Int:=if nd f i=0 then a.int else 0
def rR (f:ac) (i:Nat) (a:xG):Bool:=if nd f i=0 then false else if nd f i=1 then a.b else false
def qL (f:ac) (i:Nat) (a:xG):Int:=if nd f i=0 then -1 else if nd f i=1 then -1 else a.arr
def dR {α β:Type} (g:Nat→α→β) (d:β) (n:Nat) (l:List α):List β:=l.zipIdx.map (fun q=>g q.2 q.1)++List.replicate (n - l.length) d
def k8 (f:ac) (i:xH):GS:=⟨dR (rQ f) 0 f.vars.length i.args,dR (rR f) false f.vars.length i.args,dR (qL f) (-1) f.vars.length i.args,i.arrays,0,0,3,0,0,[],0,fun _=>0,false⟩
structure bl (f:ac) (s:GS):Prop where
 li:s.ints.length=f.vars.length
 lb:s.bools.length=f.vars.length
 la:s.arrs.length=f.vars.length
 i64:∀x∈s.ints,bB x
 arr:∀x∈s.arrs,-1≤x∧x<s.arrays.length
 ls:s.arrays.length≤40
 lr:∀r∈s.arrays,r.length≤100
 r64:∀r∈s.arrays,∀x∈r,bB x
 lt:s.trace.length≤4096
 b0:0≤s.blk
 b1:s.blk<f.blocks.length
 pc:s.pc≤(cA f s.blk).insts.length
theorem gd {l:List Int} {v:Int} (h1:v<l.length) (h0:0≤v):l[v.toNat]?=some (vi l v):=by
 unfold vi;rw[qt (by omega)];rfl
theorem GP {l:List Int} {v:Int} (h1:v<l.length) (h0:0≤v):vi l v∈l:=w4 (gd h1 h0)
theorem qM {l:List Int} {v:Int} (h:∀x∈l,bB x):bB (vi l v):=by
 unfold vi
 cases e:l[v.toNat]? with
 |none=>exact ⟨by decide,by decide⟩
 |some x=>exact h x (w4 e)
theorem iy {s:GS} {a:Int} (h0:0≤a) (h1:a<s.arrays.length):s.arrays[a.toNat]?=some (dB s a):=by
 unfold dB;rw[qt (by omega)];rfl
theorem mR {s:GS} {a:Int} (h0:0≤a) (h1:a<s.arrays.length):dB s a∈s.arrays:=w4 (iy h0 h1)
theorem fw {α:Type} {l:List α} {n:Nat} {a x:α} (h:x∈l.set n a):x∈l∨x=a:=List.mem_or_eq_of_mem_set h
theorem bl.stI {f:ac} {s:GS} (h:bl f s) {d v:Int} (hv:bB v):bl f (stI s d v):=
 ⟨by simp[Go.Proofs.YtdilpodccjlkgaaGreatDoor.stI,h.li],h.lb,h.la,fun x hx=>(fw hx).elim (h.i64 x) (fun e=>e▸hv),h.arr,h.ls,h.lr,h.r64,h.lt,h.b0,h.b1,h.pc⟩
theorem bl.stB {f:ac} {s:GS} (h:bl f s) {d:Int} {v:Bool}:bl f (stB s d v):=
 ⟨h.li,by simp[Go.Proofs.YtdilpodccjlkgaaGreatDoor.stB,h.lb],h.la,h.i64,h.arr,h.ls,h.lr,h.r64,h.lt,h.b0,h.b1,h.pc⟩
theorem bl.stA {f:ac} {s:GS} (h:bl f s) {d v:Int} (hv:-1≤v∧v<s.arrays.length):bl f (stA s d v):=
 ⟨h.li,h.lb,by simp[Go.Proofs.YtdilpodccjlkgaaGreatDoor.stA,h.la],h.i64,fun x hx=>(fw hx).elim (h.arr x) (fun e=>e▸hv),h.ls,h.lr,h.r64,h.lt,h.b0,h.b1,h.pc⟩
theorem bl.stop {f:ac} {s:GS} (h:bl f s) (e:Int):bl f (dq s e):=⟨h.li,h.lb,h.la,h.i64,h.arr,h.ls,h.lr,h.r64,h.lt,h.b0,h.b1,h.pc⟩
theorem bl.trap {f:ac} {s:GS} (h:bl f s) (t:Int):bl f (Dn s t):=⟨h.li,h.lb,h.la,h.i64,h.arr,h.ls,h.lr,h.r64,h.lt,h.b0,h.b1,h.pc⟩
theorem bl.bump {f:ac} {s:GS} (h:bl f s) (t:Nat):bl f (lT s t):=⟨h.li,h.lb,h.la,h.i64,h.arr,h.ls,h.lr,h.r64,h.lt,h.b0,h.b1,h.pc⟩
theorem GQ {f:ac} {s:GS} (h:bl f s) {v:Int} (h1:v<f.vars.length) (h0:0≤v):-1≤vi s.arrs v∧vi s.arrs v<s.arrays.length:=
 h.arr _ (GP (by rw[h.la];exact h1) h0)
theorem iz {f:ac} {s:GS} (h:bl f s) {v:Int} (hn:v<f.vars.length∧0≤v):-1≤vi s.arrs v∧vi s.arrs v<s.arrays.length:=GQ h hn.1 hn.2
theorem gS {s:GS} {a i:Int}:dn s a i=true↔0≤a∧a<s.arrays.length∧0≤i∧i<(dB s a).length:=by unfold dn;rw[wg]
theorem zW (x:Int):bB (IntKind.i64.wrap x):=by
 rw[eH];unfold bB;omega
theorem GR (a b:Int):bB (lP a b):=by
 unfold lP;split
 ·exact ⟨by decide,by decide⟩
 ·exact zW _
theorem eV {f:ac} {v:Int} (h:bd f v=true):v<f.vars.length∧0≤v:=by
 unfold bd at h;simp at h;exact ⟨h.2,h.1⟩
theorem bL.a0 {f:ac} {x:aF} (h:bL f x) (hl:0<x.args.length):bj x<f.vars.length∧0≤bj x:=by
 unfold bj;rw[qt hl];exact eV (h.args _ (qx hl))
theorem bL.a1 {f:ac} {x:aF} (h:bL f x) (hl:1<x.args.length):bY x<f.vars.length∧0≤bY x:=by
 unfold bY;rw[qt hl];exact eV (h.args _ (qx hl))
theorem bL.a2 {f:ac} {x:aF} (h:bL f x) (hl:2<x.args.length):wH x<f.vars.length∧0≤wH x:=by
 unfold wH;rw[qt hl];exact eV (h.args _ (qx hl))
theorem GT:∀j:Nat,j<27→(bb (j:Int)).length=([0,1,2,2,2,2,2,2,2,2,1,2,1,2,3,1,0,1,2,1,1,2,2,2,1,2,2][j]?).getD 0:=by decide
theorem bL.argc {f:ac} {x:aF} (h:bL f x):x.args.length=([0,1,2,2,2,2,2,2,2,2,1,2,1,2,3,1,0,1,2,1,1,2,2,2,1,2,2][x.op.toNat]?).getD 0:=by
 have h1:=h.op
 obtain ⟨j,e⟩:∃j:Nat,x.op=(j:Int):=⟨x.op.toNat,by omega⟩
 rw[h.len,e,GT j (by omega),Int.toNat_natCast]
theorem Do:∀j:Nat,j<27→cS (j:Int)=([true,true,true,true,true,true,true,true,true,true,true,true,true,true,false,true,true,false,false,false,false,false,false,false,false,true,true][j]?).getD false:=by decide
theorem bL.made {f:ac} {x:aF} (h:bL f x) (hm:([true,true,true,true,true,true,true,true,true,true,true,true,true,true,false,true,true,false,false,false,false,false,false,false,false,true,true][x.op.toNat]?).getD false=true):x.dst<f.vars.length∧0≤x.dst:=by
 have h1:=h.op
 obtain ⟨j,e⟩:∃j:Nat,x.op=(j:Int):=⟨x.op.toNat,by omega⟩
 rw[e,Int.toNat_natCast,←Do j (by omega),←e] at hm
 rcases h.dst with g|g
 ·rw[g.1] at hm;cases hm
 ·exact eV g.2.2
theorem bl.doG {f:ac} {s:GS} (h:bl f s) {x:aF} (hx:bL f x) (h64:bB x.num):bl f (doG s x):=by
 have hc:=hx.argc
 have st:∀e,bl f (dq s e):=h.stop
 have wr:∀d v,bl f (Go.Proofs.YtdilpodccjlkgaaGreatDoor.stI s d (IntKind.i64.wrap v)):=fun _ _=>h.stI (zW _)
 have bo:∀d v,bl f (Go.Proofs.YtdilpodccjlkgaaGreatDoor.stB s d v):=fun _ _=>h.stB
 unfold Go.Proofs.YtdilpodccjlkgaaGreatDoor.doG
 by_cases e:x.op=0
 ·rw[if_pos e];exact h.stI h64
 rw[if_neg e];clear e
 by_cases e:x.op=1∨x.op=25∨x.op=26
 ·rw[if_pos e]
  refine bl.stA (s:=Go.Proofs.YtdilpodccjlkgaaGreatDoor.stB (Go.Proofs.YtdilpodccjlkgaaGreatDoor.stI s x.dst (aG s x)) x.dst (pG s x)) (h.stI (qM h.i64)).stB ?_
  exact iz h (hx.a0 (by rcases e with e|e|e<;>(rw[e] at hc;rw[hc];decide)))
 rw[if_neg e];clear e
 by_cases e:x.op=2
 ·rw[if_pos e];exact wr _ _
 rw[if_neg e];clear e
 by_cases e:x.op=3
 ·rw[if_pos e];exact wr _ _
 rw[if_neg e];clear e
 by_cases e:x.op=4
 ·rw[if_pos e];exact wr _ _
 rw[if_neg e];clear e
 by_cases e:x.op=5
 ·rw[if_pos e]
  split
  ·exact st 2
  ·exact wr _ _
 rw[if_neg e];clear e
 by_cases e:x.op=6
 ·rw[if_pos e]
  split
  ·exact st 2
  ·exact h.stI (GR _ _)
 rw[if_neg e];clear e
 by_cases e:x.op=7
 ·rw[if_pos e];exact bo _ _
 rw[if_neg e];clear e
 by_cases e:x.op=8
 ·rw[if_pos e];exact bo _ _
 rw[if_neg e];clear e
 by_cases e:x.op=9
 ·rw[if_pos e];exact bo _ _
 rw[if_neg e];clear e
 by_cases e:x.op=10
 ·rw[if_pos e];exact bo _ _
 rw[if_neg e];clear e
 by_cases e:x.op=11
 ·rw[if_pos e];exact bo _ _
 rw[if_neg e];clear e
 by_cases e:x.op=12
 ·rw[if_pos e]
  split
  ·exact st 2
  ·rename_i hr
   have hl:=h.lr _ (mR (by omega) (iz h (hx.a0 (by rw[e] at hc;rw[hc];decide))).2:dB s (rG s x)∈s.arrays)
   exact h.stI ⟨by omega,by omega⟩
 rw[if_neg e];clear e
 by_cases e:x.op=13
 ·rw[if_pos e]
  split
  ·rename_i hp
   obtain ⟨h1,h2,_⟩:=gS.1 hp
   exact h.stI (qM (h.r64 _ (mR h1 h2)))
  ·exact st 2
 rw[if_neg e];clear e
 by_cases e:x.op=14
 ·rw[if_pos e]
  split
  ·rename_i hp
   obtain ⟨h1,h2,_⟩:=gS.1 hp
   refine ⟨h.li,h.lb,h.la,h.i64,fun y hy=>by simpa using h.arr y hy,by simpa using h.ls,fun r hr=>?_,fun r hr=>?_,h.lt,h.b0,h.b1,h.pc⟩
   ·rcases fw hr with hr|hr
    ·exact h.lr r hr
    ·rw[hr,List.length_set];exact h.lr _ (mR h1 h2)
   ·rcases fw hr with hr|hr
    ·exact h.r64 r hr
    ·intro y hy
     rw[hr] at hy
     rcases fw hy with hy|hy
     ·exact h.r64 _ (mR h1 h2) y hy
     ·rw[hy];exact qM h.i64
  ·exact st 2
 rw[if_neg e];clear e
 by_cases e:x.op=15
 ·rw[if_pos e]
  split
  ·exact st 2
  ·rename_i ha
   split
   ·exact st 3
   ·rename_i hs
    refine bl.stA (s:={ s with arrays:=s.arrays++[List.replicate (aG s x).toNat 0] }) ⟨h.li,h.lb,h.la,h.i64,fun y hy=>?_,?_,fun r hr=>?_,fun r hr=>?_,h.lt,h.b0,h.b1,h.pc⟩ ?_
    ·have:=h.arr y hy
     simp only[qz,List.length_singleton];omega
    ·simp only[qz,List.length_singleton];omega
    ·rcases List.mem_append.1 hr with hr|hr
     ·exact h.lr r hr
     ·rw[List.mem_singleton.1 hr,List.length_replicate];omega
    ·rcases List.mem_append.1 hr with hr|hr
     ·exact h.r64 r hr
     ·intro y hy
      rw[List.mem_singleton.1 hr] at hy
      rw[(List.mem_replicate.1 hy).2];exact ⟨by decide,by decide⟩
    ·simp only[qz,List.length_singleton];omega
 rw[if_neg e];clear e
 by_cases e:x.op=16
 ·rw[if_pos e];exact h.stA ⟨by omega,by omega⟩
 rw[if_neg e];clear e
 split
 ·exact st 3
 ·rename_i ht
  exact ⟨h.li,h.lb,h.la,h.i64,h.arr,h.ls,h.lr,h.r64,by simp only[qz,List.length_singleton];omega,h.b0,h.b1,h.pc⟩
theorem bl.inst {f:ac} {s:GS} (h:bl f s) {x:aF} (hx:bL f x) (h64:bB x.num):bl f (ba s x):=by
 unfold ba
 split
 ·split
  ·exact h.bump _
  ·exact (h.bump _).trap _
 ·exact h.doG hx h64
structure vG (f:ac):Prop where
 pos:0<f.blocks.length
 phis:∀b∈f.blocks,∀p∈b.phis,tA f p
 insts:∀b∈f.blocks,∀x∈b.insts,bL f x∧bB x.num
 term:∀b∈f.blocks,bH f b.term=true
theorem tL {f:ac} {b:Int} (h0:0≤b) (h1:b<f.blocks.length):f.blocks[b.toNat]?=some (cA f b):=by
 unfold cA;rw[qt (by omega)];rfl
theorem mS {f:ac} {b:Int} (h0:0≤b) (h1:b<f.blocks.length):cA f b∈f.blocks:=w4 (tL h0 h1)
theorem sP {p:dF} {b:Int} (h:0≤er p b):er p b∈p.args:=by
 unfold er at h ⊢
 cases e:(p.from_.zip p.args).find? fun q=>decide (q.1=b) with
 |none=>rw[e] at h;simp at h
 |some q=>exact (List.of_mem_zip (List.mem_of_find?_eq_some e)).2
theorem bl.assign {f:ac} {s t:GS} (h:bl f s) (ht:bl f t) (ha:t.arrays=s.arrays) {p:dF} (hp:tA f p) (h0:0≤er p s.blk):bl f (assign s t p)∧(assign s t p).arrays=s.arrays:=by
 have hv:=eV (List.all_eq_true.1 hp.2.2.2.1 _ (sP h0))
 refine ⟨bl.stA (s:=Go.Proofs.YtdilpodccjlkgaaGreatDoor.stB (Go.Proofs.YtdilpodccjlkgaaGreatDoor.stI t p.dst _) p.dst _) (ht.stI (qM h.i64)).stB ?_,ha⟩
 show _∧_<(t.arrays.length:Int)
 rw[ha];exact iz h hv
theorem bl.assigns {f:ac} {s:GS} (h:bl f s):∀(l:List dF) (t:GS),bl f t→t.arrays=s.arrays→(∀p∈l,tA f p∧0≤er p s.blk)→bl f (l.foldl (Go.Proofs.YtdilpodccjlkgaaGreatDoor.assign s) t)
 |[],t,ht,_,_=>ht
 |p::l,t,ht,ha,hl=>by
  obtain ⟨h1,h2⟩:=h.assign ht ha (hl p (.head _)).1 (hl p (.head _)).2
  exact h.assigns l _ h1 h2 fun q hq=>hl q (.tail _ hq)
theorem bl.goG {f:ac} {s:GS} (h:bl f s) {to:Int} (h0:0≤to) (h1:to<f.blocks.length):bl f (goG s to):=⟨h.li,h.lb,h.la,h.i64,h.arr,h.ls,h.lr,h.r64,h.lt,h0,h1,qw _⟩
theorem bl.enter {f:ac} {s:GS} (hR:vG f) (h:bl f s) {to:Int} (h0:0≤to) (h1:to<f.blocks.length):bl f (ep f s to):=by
 unfold ep
 split
 ·rename_i ha
  exact (h.assigns _ s h rfl fun p hp=>⟨hR.phis _ (mS h0 h1) p hp,wd (List.all_eq_true.1 ha p hp)⟩).goG h0 h1
 ·exact (h.goG h0 h1).stop 2
theorem zX {f:ac} {t:fk} (h:bH f t=true) (hk:¬t.kind=2):(0≤t.to0∧t.to0<f.blocks.length)∧(¬t.kind=0→t.kind=1∧(0≤t.to1∧t.to1<f.blocks.length)):=by
 unfold bH at h
 split at h
 ·rename_i e
  simp only[wa,eN,wg] at h
  exact ⟨h.1.1,fun g=>absurd e g⟩
 ·split at h
  ·rename_i e
   simp only[wa,eN,wg] at h
   exact ⟨h.1.2,fun _=>⟨e,h.2⟩⟩
  ·simp[hk] at h
theorem tM {f:ac} (hR:vG f) {s:GS} (h:bl f s) (hk:¬(cA f s.blk).term.kind=2):0≤lU f s∧lU f s<f.blocks.length:=by
 have ht:=zX (hR.term _ (mS h.b0 h.b1)) hk
 unfold lU
 split
 ·exact ht.1
 ·rename_i e
  exact (ht.2 fun g=>e (.inl g)).2
theorem bl.up {f:ac} {s:GS} (h:bl f s) (n:Nat) (v:Int):bl f { s with st:=n,val:=v }:=⟨h.li,h.lb,h.la,h.i64,h.arr,h.ls,h.lr,h.r64,h.lt,h.b0,h.b1,h.pc⟩
theorem bl.step {f:ac} (hR:vG f) {s:GS} (h:bl f s):bl f (cQ f s):=by
 unfold cQ
 split
 ·rename_i x hx
  obtain ⟨hi,h64⟩:=hR.insts _ (mS h.b0 h.b1) x (w4 hx)
  obtain ⟨hp,_⟩:=List.getElem?_eq_some_iff.1 hx
  exact bl.inst (s:={ s with pc:=s.pc+1,st:=s.st+1 }) ⟨h.li,h.lb,h.la,h.i64,h.arr,h.ls,h.lr,h.r64,h.lt,h.b0,h.b1,hp⟩ hi h64
 ·split
  ·exact (h.up _ _).stop 0
  ·rename_i hk
   obtain ⟨h0,h1⟩:=tM hR h hk
   exact bl.enter hR (s:={ s with st:=s.st+1 }) (h.up _ s.val) h0 h1
end Go.Proofs.YtdilpodccjlkgaaGreatDoor
namespace Go.Proofs.YtdilpodccjlkgaaGreatDoor
theorem gu {α:Type} {P:α→Prop} {c:Prop} [Decidable c] {a b:α} (h1:c→P a) (h2:¬c→P b):P (if c then a else b):=by
 split
 ·exact h1 (by assumption)
 ·exact h2 (by assumption)
theorem zY {P:GS→Prop} (s:GS) (x:aF) (h1:∀e,P (dq s e)) (h2:∀v,P (stI s x.dst v)) (h3:∀v,P (stB s x.dst v)) (h4:∀v,P (stA s x.dst v)) (h5:∀a b c,P (stA (stB (stI s x.dst a) x.dst b) x.dst c)) (h6:∀A,P { s with arrays:=A })
  (h7:∀A v,P (stA { s with arrays:=A } x.dst v)) (h8:∀t,P { s with trace:=t }):P (doG s x):=by
 unfold doG
 refine gu (P:=P) (fun _=>h2 _) fun _=>gu (P:=P) (fun _=>h5 _ _ _) fun _=>gu (P:=P) (fun _=>h2 _) fun _=>gu (P:=P) (fun _=>h2 _) fun _=>gu (P:=P) (fun _=>h2 _) fun _=>
  gu (P:=P) (fun _=>gu (P:=P) (fun _=>h1 _) fun _=>h2 _) fun _=>gu (P:=P) (fun _=>gu (P:=P) (fun _=>h1 _) fun _=>h2 _) fun _=>gu (P:=P) (fun _=>h3 _) fun _=>gu (P:=P) (fun _=>h3 _) fun _=>gu (P:=P) (fun _=>h3 _) fun _=>
  gu (P:=P) (fun _=>h3 _) fun _=>gu (P:=P) (fun _=>h3 _) fun _=>gu (P:=P) (fun _=>gu (P:=P) (fun _=>h1 _) fun _=>h2 _) fun _=>gu (P:=P) (fun _=>gu (P:=P) (fun _=>h2 _) fun _=>h1 _) fun _=>gu (P:=P) (fun _=>gu (P:=P) (fun _=>h6 _) fun _=>h1 _) fun _=>
  gu (P:=P) (fun _=>gu (P:=P) (fun _=>h1 _) fun _=>gu (P:=P) (fun _=>h1 _) fun _=>h7 _ _) fun _=>gu (P:=P) (fun _=>h4 _) fun _=>gu (P:=P) (fun _=>h1 _) fun _=>h8 _
theorem Fa (s:GS) (x:aF):(ba s x).st=s.st:=by
 unfold ba
 split
 ·split<;>rfl
 ·exact zY (P:=fun t=>t.st=s.st) s x (fun _=>rfl) (fun _=>rfl) (fun _=>rfl) (fun _=>rfl) (fun _ _ _=>rfl) (fun _=>rfl) (fun _ _=>rfl) (fun _=>rfl)
theorem Fb (s:GS) (x:aF) (i:Nat):(ba s x).ck i≤s.ck i+1:=by
 unfold ba
 split
 ·split
  ·show (if i=_ then s.ck i+1 else s.ck i)≤_
   split<;>omega
  ·show (if i=_ then s.ck i+1 else s.ck i)≤_
   split<;>omega
 ·exact zY (P:=fun t=>t.ck i≤s.ck i+1) s x (fun _=>Nat.le_succ _) (fun _=>Nat.le_succ _) (fun _=>Nat.le_succ _) (fun _=>Nat.le_succ _) (fun _ _ _=>Nat.le_succ _) (fun _=>Nat.le_succ _) (fun _ _=>Nat.le_succ _) (fun _=>Nat.le_succ _)
theorem mT (s:GS):∀(l:List dF) (t:GS),(l.foldl (assign s) t).st=t.st∧(l.foldl (assign s) t).ck=t.ck∧(l.foldl (assign s) t).ended=t.ended
 |[],_=>⟨rfl,rfl,rfl⟩
 |p::l,t=>mT s l (assign s t p)
theorem qN (f:ac) (s:GS) (to:Int):(ep f s to).st=s.st∧(ep f s to).ck=s.ck:=by
 unfold ep
 split
 ·obtain ⟨h1,h2,_⟩:=mT s (cA f to).phis s
  exact ⟨h1,h2⟩
 ·exact ⟨rfl,rfl⟩
theorem Fc (f:ac) (s:GS):(cQ f s).st=s.st+1:=by
 unfold cQ
 split
 ·rw[Fa]
 ·split
  ·rfl
  ·rw[(qN f _ _).1]
theorem Fd (f:ac) (s:GS) (i:Nat):(cQ f s).ck i≤s.ck i+1:=by
 unfold cQ
 split
 ·exact Fb _ _ i
 ·split
  ·exact Nat.le_succ _
  ·rw[(qN f _ _).2];exact Nat.le_succ _
theorem iZ {f:ac} {s:GS} (h:s.ended=true):∀k,fJ f k s=s
 |0=>rfl
 |k+1=>by unfold fJ;rw[if_pos h]
def iL (f:ac) (i:xH) (q:xG × Nat):Bool:=decide (nd f q.2=2∧(q.1.arr < -1∨(i.arrays.length:Int)≤q.1.arr))
def fx (f:ac) (i:xH):Int:=if ¬i.args.length=f.params.length then 1 else if i.args.zipIdx.any (iL f i)=true then 1 else if 32<i.arrays.length then 4 else if i.arrays.any (fun r=>decide (64<r.length))=true then 4 else 0
def xJ (i:xH):Prop:=(∀a∈i.args,bB a.int)∧∀r∈i.arrays,∀x∈r,bB x
theorem vH {α β:Type} {g:Nat→α→β} {d:β} {n:Nat} {l:List α} {x:β} (h:x∈dR g d n l):(∃j a,l[j]?=some a∧x=g j a)∨x=d:=by
 unfold dR at h
 rcases List.mem_append.1 h with h|h
 ·obtain ⟨⟨a,j⟩,hm,rfl⟩:=List.mem_map.1 h
  exact .inl ⟨j,a,List.mk_mem_zipIdx_iff_getElem?.1 hm,rfl⟩
 ·exact .inr (List.mem_replicate.1 h).2
theorem bl.beg {f:ac} {i:xH} (hR:vG f) (hp:f.params.length≤f.vars.length) (ht:∀j,0≤nd f j∧nd f j≤2) (h:fx f i=0) (h64:xJ i):bl f (k8 f i)∧i.args.length≤f.vars.length:=by
 unfold fx at h
 split at h
 ·cases h
 rename_i h1
 split at h
 ·cases h
 rename_i h2
 split at h
 ·cases h
 rename_i h3
 split at h
 ·cases h
 rename_i h4
 have h1:i.args.length=f.params.length:=Classical.not_not.1 h1
 have hr:∀r∈i.arrays,r.length≤64:=fun r hr=>by
  refine Classical.byContradiction fun hn=>h4 (List.any_eq_true.2 ⟨r,hr,w8 (by omega)⟩)
 have hl:i.args.length≤f.vars.length:=by omega
 have hf:∀{β:Type} (g:Nat→xG→β) (d:β),(dR g d f.vars.length i.args).length=f.vars.length:=fun g d=>by unfold dR;simp;omega
 refine ⟨⟨hf _ _,hf _ _,hf _ _,fun x hx=>?_,fun x hx=>?_,by show i.arrays.length≤40;omega,fun r h=>Nat.le_trans (hr r h) (by omega),h64.2,qw _,Int.le_refl _,by show (0:Int)<f.blocks.length;have:=hR.pos;omega,qw _⟩,hl⟩
 ·rcases vH hx with ⟨j,a,ha,rfl⟩|rfl
  ·unfold rQ;split
   ·exact h64.1 a (w4 ha)
   ·exact ⟨by decide,by decide⟩
  ·exact ⟨by decide,by decide⟩
 ·show _∧_<(i.arrays.length:Int)
  rcases vH hx with ⟨j,a,ha,rfl⟩|rfl
  ·unfold qL
   split
   ·exact ⟨by omega,by omega⟩
   split
   ·exact ⟨by omega,by omega⟩
   have:=ht j
   have hb:¬iL f i (a,j)=true:=fun hb=>h2 (List.any_eq_true.2 ⟨(a,j),w4 (i:=j) (by rw[List.getElem?_zipIdx,ha];simp),hb⟩)
   unfold iL at hb
   simp only[wg] at hb
   have h2':nd f j=2:=by omega
   omega
  ·exact ⟨by omega,by omega⟩
end Go.Proofs.YtdilpodccjlkgaaGreatDoor
namespace Go.Proofs.YtdilpodccjlkgaaGreatDoor
def V (s:GS) (v:Int):Int × Bool × Int:=(vi s.ints v,gb s.bools v,vi s.arrs v)
theorem vI {l:List Int} {d v x:Int} (h0:0≤d) (g0:0≤v) (hne:v≠d):vi (l.set d.toNat x) v=vi l v:=by
 unfold vi;rw[List.getElem?_set_ne (by omega)]
theorem qO {l:List Int} {d x:Int} (h0:0≤d) (h1:d<l.length):vi (l.set d.toNat x) d=x:=by
 unfold vi;rw[List.getElem?_set_self (by omega)];rfl
theorem vJ {l:List Bool} {d v:Int} {x:Bool} (h0:0≤d) (g0:0≤v) (hne:v≠d):gb (l.set d.toNat x) v=gb l v:=by
 unfold gb;rw[List.getElem?_set_ne (by omega)]
theorem Gd {l:List Bool} {d:Int} {x:Bool} (h0:0≤d) (h1:d<l.length):gb (l.set d.toNat x) d=x:=by
 unfold gb;rw[List.getElem?_set_self (by omega)];rfl
inductive Act where
 |stop (e:Int)
 |i (v:Int)
 |b (v:Bool)
 |a (v:Int)
 |all (v:Int × Bool × Int)
 |row (l:List (List Int))
 |new (l:List (List Int)) (v:Int)
 |out (l:List Int)
def BB (s:GS) (d:Int):Act→GS
 |.stop e=>dq s e
 |.i v=>stI s d v
 |.b v=>stB s d v
 |.a v=>stA s d v
 |.all v=>stA (stB (stI s d v.1) d v.2.1) d v.2.2
 |.row l=>{ s with arrays:=l }
 |.new l v=>stA { s with arrays:=l } d v
 |.out l=>{ s with trace:=l }
def nD (s:GS) (x:aF):Act:=
 if x.op=0 then .i x.num
 else if x.op=1∨x.op=25∨x.op=26 then .all (aG s x,pG s x,rG s x)
 else if x.op=2 then .i (IntKind.i64.wrap (iu 0 (aG s x) (bG s x)))
 else if x.op=3 then .i (IntKind.i64.wrap (iu 1 (aG s x) (bG s x)))
 else if x.op=4 then .i (IntKind.i64.wrap (iu 2 (aG s x) (bG s x)))
 else if x.op=5 then (if bG s x=0 then .stop 2 else .i (qK (aG s x) (bG s x)))
 else if x.op=6 then (if bG s x=0 then .stop 2 else .i (lP (aG s x) (bG s x)))
 else if x.op=7 then .b (decide (aG s x=bG s x))
 else if x.op=8 then .b (decide (aG s x<bG s x))
 else if x.op=9 then .b (decide (aG s x≤bG s x))
 else if x.op=10 then .b (!pG s x)
 else if x.op=11 then .b (pG s x&&qG s x)
 else if x.op=12 then (if rG s x<0 then .stop 2 else .i ((dB s (rG s x)).length))
 else if x.op=13 then (if dn s (rG s x) (bG s x)=true then .i (vi (dB s (rG s x)) (bG s x)) else .stop 2)
 else if x.op=14 then (if dn s (rG s x) (bG s x)=true then .row (s.arrays.set (rG s x).toNat ((dB s (rG s x)).set (bG s x).toNat (vi s.ints (wH x)))) else .stop 2)
 else if x.op=15 then (if aG s x<0∨64<aG s x then .stop 2 else if 32≤s.arrays.length then .stop 3 else .new (s.arrays++[List.replicate (aG s x).toNat 0]) s.arrays.length)
 else if x.op=16 then .a (-1)
 else (if 4096≤s.trace.length then .stop 3 else .out (s.trace++[aG s x]))
theorem Fe {s:GS} {d:Int} {c:Prop} [Decidable c] {p q:GS} {u v:Act} (h1:c→p=BB s d u) (h2:¬c→q=BB s d v):(if c then p else q)=BB s d (if c then u else v):=by
 by_cases h:c
 ·rw[if_pos h,if_pos h];exact h1 h
 ·rw[if_neg h,if_neg h];exact h2 h
theorem nE (s:GS) (x:aF):doG s x=BB s x.dst (nD s x):=by
 unfold doG nD
 repeat' (first|rfl|refine Fe (fun _=>?_) (fun _=>?_))
structure Dp (s t:GS) (x y:aF):Prop where
 op:x.op=y.op
 num:x.num=y.num
 a0:0<x.args.length→V s (bj x)=V t (bj y)
 a1:1<x.args.length→V s (bY x)=V t (bY y)
 a2:2<x.args.length→V s (wH x)=V t (wH y)
theorem Dp.reads {s t:GS} {x y:aF} (h:Dp s t x y):(0<x.args.length→aG s x=aG t y∧pG s x=pG t y∧rG s x=rG t y)∧(1<x.args.length→bG s x=bG t y∧qG s x=qG t y)∧(2<x.args.length→vi s.ints (wH x)=vi t.ints (wH y)):=
 ⟨fun hl=>by have:=h.a0 hl;unfold V at this;simp only[Prod.mk.injEq] at this;exact this,fun hl=>by have:=h.a1 hl;unfold V at this;simp only[Prod.mk.injEq] at this;exact ⟨this.1,this.2.1⟩,fun hl=>by have:=h.a2 hl;unfold V at this;simp only[Prod.mk.injEq] at this;exact this.1⟩
theorem vK {s t:GS} (ha:s.arrays=t.arrays) (a i:Int):dn s a i=dn t a i:=by unfold dn dB;rw[ha]
theorem BC {s t:GS} (ha:s.arrays=t.arrays) (a:Int):dB s a=dB t a:=by unfold dB;rw[ha]
set_option maxRecDepth 4000 in
theorem Hv {f:ac} {s t:GS} {x y:aF} (hF:bL f x) (ho:¬(18≤x.op∧x.op≤24)) (h:Dp s t x y) (ha:s.arrays=t.arrays) (htr:s.trace=t.trace):nD s x=nD t y:=by
 obtain ⟨r0,r1,r2⟩:=h.reads
 have hc:=hF.argc
 have hop:=hF.op
 unfold nD
 simp only[←h.op,←h.num,←vK ha,←BC ha,←ha,←htr]
 obtain ⟨j,hj⟩:∃j:Nat,x.op=(j:Int):=⟨x.op.toNat,by omega⟩
 rw[hj] at hc ho
 rw[hj]
 have:j=0∨j=1∨j=2∨j=3∨j=4∨j=5∨j=6∨j=7∨j=8∨j=9∨j=10∨j=11∨j=12∨j=13∨j=14∨j=15∨j=16∨j=17∨j=25∨j=26:=by omega
 rcases this with rfl|rfl|rfl|rfl|rfl|rfl|rfl|rfl|rfl|rfl|rfl|rfl|rfl|rfl|rfl|rfl|rfl|rfl|rfl|rfl
 all_goals
  have hc:x.args.length=_:=hc
  simp only[Int.toNat_natCast,List.getElem?_cons_zero,List.getElem?_cons_succ,Option.getD_some] at hc
  first
  |(rw[(r0 (by omega)).1,(r0 (by omega)).2.1,(r0 (by omega)).2.2,(r1 (by omega)).1,(r1 (by omega)).2,r2 (by omega)];done)
  |(rw[(r0 (by omega)).1,(r0 (by omega)).2.1,(r0 (by omega)).2.2,(r1 (by omega)).1,(r1 (by omega)).2];done)
  |(simp[(r0 (by omega)).1,(r0 (by omega)).2.1,(r0 (by omega)).2.2,(r1 (by omega)).1,(r1 (by omega)).2,r2 (by omega)];done)
  |(simp[(r0 (by omega)).1,(r0 (by omega)).2.1,(r0 (by omega)).2.2,(r1 (by omega)).1,(r1 (by omega)).2];done)
  |(simp[(r0 (by omega)).1,(r0 (by omega)).2.1,(r0 (by omega)).2.2];done)
  |simp
theorem zZ {s:GS} {d:Int} {A:Act} {v:Int} (h:0≤d) (h0:0≤v) (hne:v≠d):V (BB s d A) v=V s v:=by
 cases A<;>unfold V BB<;>simp only[dq,stI,stB,stA,vI h h0 hne,vJ h h0 hne]
theorem BD {f:ac} {s:GS} {x:aF} (hF:bL f x) (ho:¬(18≤x.op∧x.op≤24)) (hd:x.dst<0):(∃e,nD s x=.stop e)∨(∃l,nD s x=.row l)∨∃l,nD s x=.out l:=by
 have hop:=hF.op
 obtain ⟨j,hj⟩:∃j:Nat,x.op=(j:Int):=⟨x.op.toNat,by omega⟩
 have hm:cS x.op=false:=by
  rcases hF.dst with h|⟨_,_,h⟩
  ·exact h.1
  ·have:=(eV h).2;omega
 rw[hj,Do j (by omega)] at hm
 have:j=14∨j=17:=by
  rw[hj] at ho
  have:j=0∨j=1∨j=2∨j=3∨j=4∨j=5∨j=6∨j=7∨j=8∨j=9∨j=10∨j=11∨j=12∨j=13∨j=14∨j=15∨j=16∨j=17∨j=25∨j=26:=by omega
  rcases this with h|h|h|h|h|h|h|h|h|h|h|h|h|h|h|h|h|h|h|h
  all_goals (subst h;first|(exact absurd hm (by decide))|omega)
 unfold nD
 rw[hj]
 rcases this with rfl|rfl
 ·simp;by_cases h:dn s (rG s x) (bG s x)=true<;>simp[h]
 ·simp;by_cases h:4096≤s.trace.length<;>simp[h]
theorem Ff {s:GS} {d:Int} {A:Act} (h:(∃e,A=.stop e)∨(∃l,A=.row l)∨∃l,A=.out l) (v:Int):V (BB s d A) v=V s v:=by
 rcases h with ⟨_,rfl⟩|⟨_,rfl⟩|⟨_,rfl⟩<;>rfl
theorem xK (s t:GS) (p:dF):assign s t p=BB t p.dst (.all (V s (er p s.blk))):=rfl
end Go.Proofs.YtdilpodccjlkgaaGreatDoor
namespace Go.Proofs.YtdilpodccjlkgaaGreatDoor
def HY (op:Int):Bool:=decide (op=0∨(2≤op∧op≤12)∨op=16)
def HZ (op:Int):Bool:=decide (op=2∨op=4∨op=7∨op=11)
def vL (r:Int→Int) (x:aF):aF:=⟨x.op,x.dst,x.args.map r,x.num⟩
def Dq (x y:aF):Bool:=HY x.op&&(decide (x.op=y.op∧x.num=y.num)&&(decide (x.args=y.args)||(HZ x.op&&(decide (x.args.length=2)&&decide (x.args=y.args.reverse)))))
def xL (f:ac) (i k:Nat) (x:aF):Prop:=∃b,f.blocks[i]?=some b∧b.insts[k]?=some x
def ka (f:ac) (i k:Nat) (x:aF):Prop:=xL f i k x∧HY x.op=true
def ie (f:ac) (i' k' i k:Nat):Prop:=cY f ((i':Int),(k':Int)) i k
theorem xL.one {f:ac} {i k:Nat} {x y:aF} (h:xL f i k x) (g:xL f i k y):x=y:=by
 obtain ⟨b,h1,h2⟩:=h
 obtain ⟨c,g1,g2⟩:=g
 rw[h1] at g1
 cases Option.some.inj g1
 rw[h2] at g2
 exact Option.some.inj g2
structure H0 (f:ac) (r:Int→Int):Prop where
 id:∀v,(∀i k x,ka f i k x→x.dst≠v)→r v=v
 rt:∀i k y,ka f i k y→r y.dst=y.dst∨∃i' k' x,ka f i' k' x∧ie f i' k' i k∧r x.dst=x.dst∧r y.dst=x.dst∧Dq (vL r x) (vL r y)=true
 no:∀i k y i' k' x,ka f i k y→ka f i' k' x→ie f i' k' i k→r x.dst=x.dst→r y.dst=y.dst→Dq (vL r x) (vL r y)=false
structure IK (f:ac) (rk:Nat→Nat→Nat):Prop where
 less:∀i k y i' k' x,ka f i k y→ka f i' k' x→ie f i' k' i k→rk i' k'<rk i k
 arg:∀i k y a i' k' x,ka f i k y→a∈y.args→ka f i' k' x→x.dst=a→ie f i' k' i k
 total:∀i k y i1 k1 x1 i2 k2 x2,ka f i k y→ka f i1 k1 x1→ka f i2 k2 x2→ie f i1 k1 i k→ie f i2 k2 i k→ie f i1 k1 i2 k2∨ie f i2 k2 i1 k1∨(i1=i2∧k1=k2)
 trans:∀i k y i1 k1 x1 i2 k2 x2,ka f i k y→ka f i1 k1 x1→ka f i2 k2 x2→ie f i1 k1 i2 k2→ie f i2 k2 i k→ie f i1 k1 i k
 made:∀i k y i1 k1 x1,ka f i k y→ka f i1 k1 x1→x1.dst=y.dst→i1=i∧k1=k
theorem BE {N:Int→Int} {b a:Int} (h:gA N b a):∀c,gA N b c→gA N a c∨gA N c a:=by
 induction h with
 |refl=>exact fun c hc=>.inl hc
 |up h1 h2 h3 ih=>
  intro c hc
  rcases hc.cases' with e|⟨_,_,g⟩
  ·rw[e];exact .inr (.up h1 h2 h3)
  ·exact ih c g
theorem BF {E:Int→List Int} {n:Nat} (hG:fS E n) {a b c:Int} (h:gJ E a b) (k:gJ E c b):gJ E c a∨gJ E a c:=by
 have hb:b∈aB E n:=(bQ hG.toEOk b).2 h.1
 have ha:a∈aB E n:=(bQ hG.toEOk a).2 h.rch
 have hc:c∈aB E n:=(bQ hG.toEOk c).2 k.rch
 rcases BE ((hG.dom_iff hb).1 h) c ((hG.dom_iff hb).1 k) with g|g
 ·exact .inl ((hG.dom_iff ha).2 g)
 ·exact .inr ((hG.dom_iff hc).2 g)
end Go.Proofs.YtdilpodccjlkgaaGreatDoor
namespace Go.Proofs.YtdilpodccjlkgaaGreatDoor
theorem fm {E:Int→List Int} {n:Nat} (hG:fS E n) {a b:Int} (h:gJ E a b) (k:gJ E b a):a=b:=by
 have hb:b∈aB E n:=(bQ hG.toEOk b).2 h.1
 have ha:a∈aB E n:=(bQ hG.toEOk a).2 k.1
 have l1:=hG.lev_anc hb ((hG.dom_iff hb).1 h)
 have l2:=hG.lev_anc ha ((hG.dom_iff ha).1 k)
 exact l1.2.2 l2.2.1
def Av (f:ac) (b k:Int) (v:Int):Prop:=cY f (aL f v) b k
section
variable {f:ac} (hE:bV f)
include hE
theorem Hw {m p:gB} (h1:cY f m p.1 p.2) (h2:cY f p m.1 m.2) (h0:0≤m.1) (g0:0≤p.1):False:=by
 rcases h1 with h1|⟨e1,l1⟩|⟨_,n1,d1⟩
 ·omega
 ·rcases h2 with h2|⟨e2,l2⟩|⟨_,n2,d2⟩
  ·omega
  ·omega
  ·exact n2 e1.symm
 ·rcases h2 with h2|⟨e2,l2⟩|⟨_,n2,d2⟩
  ·omega
  ·exact n1 e2.symm
  ·exact n1 (fm hE.grph d1 d2)
theorem od {m p:gB} {b k:Int} (h1:cY f m p.1 p.2) (h2:cY f p b k) (g0:0≤p.1):cY f m b k:=by
 rcases h1 with h1|⟨e1,l1⟩|⟨h0,n1,d1⟩
 ·exact .inl h1
 ·rcases h2 with h2|⟨e2,l2⟩|⟨_,n2,d2⟩
  ·omega
  ·exact .inr (.inl ⟨by omega,by omega⟩)
  ·exact .inr (.inr ⟨by omega,by omega,by rw[e1];exact d2⟩)
 ·rcases h2 with h2|⟨e2,l2⟩|⟨_,n2,d2⟩
  ·omega
  ·exact .inr (.inr ⟨h0,by omega,by rw[←e2];exact d1⟩)
  ·refine .inr (.inr ⟨h0,fun e=>?_,d1.trans d2⟩)
   have:=fm hE.grph d1 (by rw[e];exact d2)
   exact n1 this
omit hE in
theorem Dr {m:gB} {b k k':Int} (h:cY f m b k) (hk:k≤k'):cY f m b k':=by
 rcases h with h|⟨h1,h2⟩|h
 ·exact .inl h
 ·exact .inr (.inl ⟨h1,by omega⟩)
 ·exact .inr (.inr h)
omit hE in
theorem xM {m:gB} {b k:Int}:cY f m b (k+1)↔cY f m b k∨(m.1=b∧m.2=k):=by
 constructor
 ·rintro (h|⟨h1,h2⟩|h)
  ·exact .inl (.inl h)
  ·by_cases e:m.2=k
   ·exact .inr ⟨h1,e⟩
   ·exact .inl (.inr (.inl ⟨h1,by omega⟩))
  ·exact .inl (.inr (.inr h))
 ·rintro (h|⟨h1,h2⟩)
  ·exact Dr h (by omega)
  ·exact .inr (.inl ⟨h1,by omega⟩)
omit hE in
theorem xN {m:gB} {b c:Int} (hb:oA (ah f) b) (hc:c∈ah f b) {k:Int} (hk:k≤0) (h:cY f m c k) (hL:m.1=b→m.2<fE f b) (hm:m.1=c→k≤m.2):cY f m b (fE f b):=by
 rcases h with h|⟨h1,h2⟩|⟨h0,h1,h2⟩
 ·exact .inl h
 ·have:=hm h1;omega
 ·have hd:=h2.pred hb hc h1
  by_cases e:m.1=b
  ·exact .inr (.inl ⟨e,hL e⟩)
  ·exact .inr (.inr ⟨h0,e,hd⟩)
end
theorem gv {f:ac} {v:Int} (h:0≤(aL f v).1):∃(i:Nat) (b:aX),f.blocks[i]?=some b∧(aL f v).1=i∧((∃p∈b.phis,p.dst=v∧(aL f v).2=-1)∨∃(k:Nat) (x:aF),b.insts[k]?=some x∧x.dst=v∧(aL f v).2=k):=by
 obtain ⟨i,b,h1,h2⟩:=vF h
 refine ⟨i,b,h1,?_,?_⟩
 ·rcases h2 with ⟨p,_,_,e⟩|⟨k,x,_,_,e⟩<;>rw[e]
 ·rcases h2 with ⟨p,h3,h4,e⟩|⟨k,x,h3,h4,e⟩
  ·exact .inl ⟨p,h3,h4,by rw[e]⟩
  ·exact .inr ⟨k,x,h3,h4,by rw[e]⟩
structure H1 (f:ac):Prop where
 inst:∀(i k:Nat) (b:aX) (x:aF),f.blocks[i]?=some b→b.insts[k]?=some x→0≤x.dst→aL f x.dst=((i:Int),(k:Int))
 phi:∀(i:Nat) (b:aX) (p:dF),f.blocks[i]?=some b→p∈b.phis→aL f p.dst=((i:Int),-1)
theorem Fg {f:ac} (ho:zI f) (hi:∀b∈f.blocks,∀x∈b.insts,x.dst<f.vars.length) (hp:∀b∈f.blocks,∀p∈b.phis,0≤p.dst∧p.dst<f.vars.length):H1 f:=by
 have len:∀d:Int,0≤d→d<f.vars.length→(bu f d).length≤1:=fun d h0 h1=>by
  have:=(ho d.toNat (by omega)).1
  rwa [show ((d.toNat:Nat):Int)=d by omega] at this
 refine ⟨fun i k b x h1 h2 h0=>?_,fun i b p h1 h2=>?_⟩
 ·exact vE (len _ h0 (hi b (w4 h1) x (w4 h2))) (k7.2 ⟨i,b,h1,nC.2 (.inr ⟨k,x,h2,rfl,rfl⟩)⟩)
 ·obtain ⟨g0,g1⟩:=hp b (w4 h1) p h2
  exact vE (len _ g0 g1) (k7.2 ⟨i,b,h1,nC.2 (.inl ⟨p,h2,rfl,rfl⟩)⟩)
theorem nF {f:ac} {i:Nat} {b:aX} (h:f.blocks[i]?=some b):fE f (i:Int)=b.insts.length:=by
 unfold fE;rw[show ((i:Int)).toNat=i from rfl,h];rfl
end Go.Proofs.YtdilpodccjlkgaaGreatDoor
namespace Go.Proofs.YtdilpodccjlkgaaGreatDoor
structure KS where
 l:List fH
 p:List (Int × List Int)
def et (K:KS) (a b c:Int):KS:=if -bN≤c∧c≤bN∧K.l.length<8192 then ⟨K.l++[⟨a,b,c⟩],K.p⟩ else K
def addO (K:KS) (a b:Int) (o:Option Int):KS:=match o with|some c=>et K a b c|none=>K
def iA (K:KS) (a b:Int):KS:=et (et K a b 0) b a 0
section
variable (f:ac)
def fo (K:KS) (a b:Int):Option Int:=fu K.l (f.vars.length+1) a b
def e9 (K:KS) (a b c:Int):Bool:=o6 K.l (f.vars.length+1) a b c
def dV:Int:=f.vars.length
def vM (K:KS) (v:Int):Option fI:=match fo f K (dV f) v,fo f K v (dV f) with|some lo,some hi=>some (-lo,hi)|_,_=>none
def Ds (k:Nat) (a b:fI):Bool:=decide (a.2<a.1∨b.2<b.1∨kj k a b)
def mU (K:KS) (k:Nat) (y z:Int):Bool:=match vM f K y,vM f K z with|some a,some b=>Ds k a b|_,_=>false
def qP (K:KS) (op:Int) (l:List Int):Bool:=K.p.any fun q=>decide (q.1=op∧q.2=l)
def nG (K:KS) (v:Int):Bool:=e9 f K (dV f) v 0
def mV (K:KS) (x:aF):KS:=
 if qP K (x.op+19) x.args=false∧mU f K (x.op - 2).toNat (bj x) (bY x)=false then K
 else if x.op=3 then addO (addO K x.dst (bj x) (fo f K (dV f) (bY x))) (bj x) x.dst (fo f K (bY x) (dV f))
 else addO (addO (addO (addO K x.dst (bj x) (fo f K (bY x) (dV f))) (bj x) x.dst (fo f K (dV f) (bY x))) x.dst (bY x) (fo f K (bj x) (dV f))) (bY x) x.dst (fo f K (dV f) (bj x))
def eW (K:KS) (x:aF):KS:=if nG f K (bj x)=true∧(nG f K (bY x)=true∨x.op=6) then et (et K (dV f) x.dst 0) x.dst (bj x) 0 else K
def jA (K:KS) (x:aF):KS:=if nG f K (bY x)=true∧x.op=6 then et (eW f K x) x.dst (bY x) (-1) else eW f K x
def lV (K:KS) (x:aF):KS:=
 if x.op=0∧-bN≤x.num∧x.num≤bN then et (et K x.dst (dV f) x.num) (dV f) x.dst (-x.num)
 else if (x.op=1∧¬bf f x.dst=1)∨x.op=12∨x.op=15 then iA K x.dst (bj x)
 else if x.op=16 then iA K x.dst (dV f)
 else if x.op=2∨x.op=3 then mV f K x
 else if x.op=5∨x.op=6 then jA f K x
 else K
def lW (K:KS) (x:aF):KS:=
 if x.op=18 then et (et ⟨K.l,K.p++[(x.op,x.args)]⟩ (dV f) (bY x) 0) (bY x) (bj x) (-1)
 else if x.op=24 then et (et ⟨K.l,K.p++[(x.op,x.args)]⟩ (dV f) (bj x) 0) (bj x) (dV f) 64
 else if x.op=20 then
  if nG f K (bj x)=true then et ⟨K.l,K.p++[(x.op,x.args)]⟩ (dV f) (bj x) (-1)
  else if e9 f K (bj x) (dV f) 0=true then et ⟨K.l,K.p++[(x.op,x.args)]⟩ (bj x) (dV f) (-1)
  else ⟨K.l,K.p++[(x.op,x.args)]⟩
 else ⟨K.l,K.p++[(x.op,x.args)]⟩
def d5 (K:KS) (x:aF):KS:=if 18≤x.op∧x.op≤24 then lW f K x else lV f K x
def dz (v:Int):Option aF:=if 0≤(aL f v).1∧0≤(aL f v).2 then (f.blocks[(aL f v).1.toNat]?).bind fun b=>b.insts[(aL f v).2.toNat]? else none
def Fh (v:Int):Bool:=match dz f v with|some y=>decide (y.op=15)|none=>false
def iM (K:KS) (x:aF):Bool:=qP K x.op x.args ||
 (if x.op=18 then e9 f K (dV f) (bY x) 0&&e9 f K (bY x) (bj x) (-1)
  else if x.op=19 then Fh f (bj x)||e9 f K (dV f) (bj x) (-1)
  else if x.op=20 then e9 f K (dV f) (bj x) (-1)||e9 f K (bj x) (dV f) (-1)
  else if x.op=24 then e9 f K (dV f) (bj x) 0&&e9 f K (bj x) (dV f) 64
  else mU f K (x.op - 21).toNat (bj x) (bY x))
structure wI where
 a:Int
 b:Int
 n:Int
def gx (K:KS) (r:wI):KS:=if r.n=0 then et K r.a r.b (-1) else if r.n=1 then et K r.a r.b 0 else if r.n=2 then iA K r.a r.b else K
end
section
variable {u:Int→Int}
def sQ (u:Int→Int) (q:fH):Prop:=(0≤q.a∧0≤q.b)∧u q.a≤u q.b+q.c
def wJ (u:Int→Int) (b:Int) (r:List (Option Int)):Prop:=∀v m,0≤v→jn r v=some m→u v≤u b+m
theorem Dt {r:List (Option Int)} {a v:Int} {m:Option Int} {k:Int} (ha:0≤a) (hv:0≤v) (h:jn (r.set a.toNat m) v=some k):(v=a∧m=some k)∨jn r v=some k:=by
 unfold jn at h ⊢
 by_cases e:a.toNat=v.toNat
 ·rw[e,List.getElem?_set] at h
  rw[if_pos rfl] at h
  split at h
  ·left
   exact ⟨by omega,h⟩
  ·cases h
 ·rw[List.getElem?_set_ne e] at h
  exact .inr h
theorem wJ.set {b a m:Int} {r:List (Option Int)} (h:wJ u b r) (ha:0≤a) (hm:u a≤u b+m):wJ u b (r.set a.toNat (some m)):=fun v k hv hk=>by
 rcases Dt ha hv hk with ⟨rfl,e⟩|hk
 ·cases e;exact hm
 ·exact h v k hv hk
theorem wJ.step {b:Int} {now next:List (Option Int)} (hn:wJ u b now) (h:wJ u b next) {q:fH} (hq:sQ u q):wJ u b (kH now next q):=by
 unfold kH
 obtain ⟨⟨h0,h1⟩,h2⟩:=hq
 split
 ·exact h
 ·rename_i s hs
  have:=hn _ _ h1 hs
  split
  ·exact h.set h0 (by omega)
  ·split
   ·exact h.set h0 (by omega)
   ·exact h
theorem wJ.fur {b:Int} {now:List (Option Int)} (hn:wJ u b now):∀(l:List fH) (next:List (Option Int)),wJ u b next→(∀q∈l,sQ u q)→wJ u b (l.foldl (kH now) next)
 |[],_,h,_=>h
 |q::l,_,h,hl=>hn.fur l _ (hn.step h (hl q (.head _))) fun p hp=>hl p (.tail _ hp)
theorem wJ.it {b:Int} {l:List fH} (hl:∀q∈l,sQ u q):∀(k:Nat) (r:List (Option Int)),wJ u b r→wJ u b (Az l k r)
 |0,_,h=>h
 |k+1,r,h=>wJ.it hl k _ (h.fur l r h hl)
theorem sR {l:List fH} (hl:∀q∈l,sQ u q) {n:Nat} {a b m:Int} (ha:0≤a) (hb:0≤b) (h:fu l n a b=some m):u a≤u b+m:=by
 refine wJ.it (u:=u) (b:=b) hl 6 _ (fun v k hv hk=>?_) a m ha h
 rcases Dt hb hv hk with ⟨rfl,e⟩|hk
 ·cases e;omega
 ·unfold jn at hk
  rw[List.getElem?_replicate] at hk
  split at hk<;>cases hk
theorem BG {l:List fH} (hl:∀q∈l,sQ u q) {n:Nat} {a b c:Int} (ha:0≤a) (hb:0≤b) (h:o6 l n a b c=true):u a≤u b+c:=by
 unfold o6 at h
 split at h
 ·rename_i m hm
  have:=sR hl ha hb hm
  have:=wd h
  omega
 ·cases h
end
end Go.Proofs.YtdilpodccjlkgaaGreatDoor
namespace Go.Proofs.YtdilpodccjlkgaaGreatDoor
set_option linter.unusedSectionVars false
section
variable {l:List fH} {n:Nat} {b:Int} (hl:∀q∈l,Cn n q) (hb:oL n b)
include hb
end
end Go.Proofs.YtdilpodccjlkgaaGreatDoor
namespace Go.Proofs.YtdilpodccjlkgaaGreatDoor
structure PX (s:GS) (x:aF):Prop where
 ck:18≤x.op→x.op≤24→cZ s x.op x.args=true
 i0:x.op=0→vi s.ints x.dst=x.num
 i1:x.op=1→V s x.dst=V s (bj x)
 i2:x.op=2→vi s.ints x.dst=IntKind.i64.wrap (iu 0 (aG s x) (bG s x))
 i3:x.op=3→vi s.ints x.dst=IntKind.i64.wrap (iu 1 (aG s x) (bG s x))
 i5:x.op=5→bG s x≠0∧vi s.ints x.dst=qK (aG s x) (bG s x)
 i6:x.op=6→bG s x≠0∧vi s.ints x.dst=lP (aG s x) (bG s x)
 i7:x.op=7→gb s.bools x.dst=decide (aG s x=bG s x)
 i8:x.op=8→gb s.bools x.dst=decide (aG s x<bG s x)
 i9:x.op=9→gb s.bools x.dst=decide (aG s x≤bG s x)
 i10:x.op=10→gb s.bools x.dst=!pG s x
 i11:x.op=11→gb s.bools x.dst=(pG s x&&qG s x)
 i12:x.op=12→0≤rG s x∧vi s.ints x.dst=(dB s (rG s x)).length
 i15:x.op=15→0≤vi s.arrs x.dst∧((dB s (vi s.arrs x.dst)).length:Int)=aG s x
 i16:x.op=16→vi s.arrs x.dst=-1
theorem bL.cnt {f:ac} {x:aF} {k:Int} (h:bL f x) (e:x.op=k):x.args.length=([0,1,2,2,2,2,2,2,2,2,1,2,1,2,3,1,0,1,2,1,1,2,2,2,1,2,2][k.toNat]?).getD 0:=e▸h.argc
structure qQ (s t:GS) (x:aF):Prop where
 hd:0≤x.dst→V t x.dst=V s x.dst
 ha:∀v∈x.args,V t v=V s v
 hr:∀a:Int,0≤a→a<s.arrays.length→a<t.arrays.length∧(dB t a).length=(dB s a).length
theorem lQ {s t:GS} {v:Int} (h:V t v=V s v):vi t.ints v=vi s.ints v∧gb t.bools v=gb s.bools v∧vi t.arrs v=vi s.arrs v:=by
 unfold V at h;simp only[Prod.mk.injEq] at h;exact h
section
variable {f:ac} {s t:GS} {x:aF}
theorem qQ.e0 (h:qQ s t x) (hl:0<x.args.length):aG t x=aG s x∧pG t x=pG s x∧rG t x=rG s x:=by
 have hm:bj x∈x.args:=by unfold bj;rw[qt hl];exact qx hl
 exact lQ (h.ha _ hm)
theorem qQ.e1 (h:qQ s t x) (hl:1<x.args.length):bG t x=bG s x∧qG t x=qG s x:=by
 have hm:bY x∈x.args:=by unfold bY;rw[qt hl];exact qx hl
 exact ⟨(lQ (h.ha _ hm)).1,(lQ (h.ha _ hm)).2.1⟩
theorem bL.d {k:Int} (hF:bL f x) (e:x.op=k) (hm:([true,true,true,true,true,true,true,true,true,true,true,true,true,true,false,true,true,false,false,false,false,false,false,false,false,true,true][k.toNat]?).getD false=true):x.dst<f.vars.length∧0≤x.dst:=hF.made (e▸hm)
theorem xO (hs:bl f s) (ht:bl f t) (h:qQ s t x) {v i:Int} (hv:v<f.vars.length∧0≤v):dn t (vi s.arrs v) i=dn s (vi s.arrs v) i:=by
 have ha:=iz hs hv
 unfold dn
 by_cases h0:0≤vi s.arrs v
 ·obtain ⟨g1,g2⟩:=h.hr _ h0 ha.2
  rw[g2]
  simp only[h0,g1,ha.2,true_and]
 ·simp[h0]
theorem BH (hs:bl f s) (ht:bl f t) (hF:bL f x) (h1:18≤x.op) (h2:x.op≤24) (h:qQ s t x):cZ t x.op x.args=cZ s x.op x.args:=by
 have hl:0<x.args.length:=by
  obtain ⟨j,hj⟩:∃j:Nat,x.op=(j:Int):=⟨x.op.toNat,by omega⟩
  rw[hF.argc,hj]
  have:j=18∨j=19∨j=20∨j=21∨j=22∨j=23∨j=24:=by omega
  rcases this with rfl|rfl|rfl|rfl|rfl|rfl|rfl<;>decide
 obtain ⟨e1,e2,e3⟩:=h.e0 hl
 have e1:vi t.ints ((x.args[0]?).getD 0)=vi s.ints ((x.args[0]?).getD 0):=e1
 have e3:vi t.arrs ((x.args[0]?).getD 0)=vi s.arrs ((x.args[0]?).getD 0):=e3
 have e4:xI x.args t.ints=xI x.args s.ints:=by
  unfold xI
  split
  ·rename_i h1;exact (h.e1 h1).1
  ·rfl
 have e5:dn t (vi s.arrs ((x.args[0]?).getD 0)) (xI x.args s.ints)=dn s (vi s.arrs ((x.args[0]?).getD 0)) (xI x.args s.ints):=xO hs ht h (hF.a0 hl)
 unfold cZ
 rw[e1,e3,e4,e5]
theorem PX.same (hs:bl f s) (ht:bl f t) (hF:bL f x) (h:qQ s t x) (p:PX s x):PX t x:=by
 have row:∀{v:Int},v<f.vars.length∧0≤v→0≤vi s.arrs v→(dB t (vi s.arrs v)).length=(dB s (vi s.arrs v)).length:=fun hv h0=>(h.hr _ h0 (iz hs hv).2).2
 constructor
 ·intro h1 h2
  rw[BH hs ht hF h1 h2 h];exact p.ck h1 h2
 ·intro e
  rw[(lQ (h.hd (hF.d e rfl).2)).1];exact p.i0 e
 ·intro e
  have hm:bj x∈x.args:=by unfold bj;rw[qt (by rw[hF.cnt e];decide)];exact qx _
  rw[h.hd (hF.d e rfl).2,h.ha _ hm];exact p.i1 e
 ·intro e
  rw[(lQ (h.hd (hF.d e rfl).2)).1,(h.e0 (by rw[hF.cnt e];decide)).1,(h.e1 (by rw[hF.cnt e];decide)).1];exact p.i2 e
 ·intro e
  rw[(lQ (h.hd (hF.d e rfl).2)).1,(h.e0 (by rw[hF.cnt e];decide)).1,(h.e1 (by rw[hF.cnt e];decide)).1];exact p.i3 e
 ·intro e
  rw[(lQ (h.hd (hF.d e rfl).2)).1,(h.e0 (by rw[hF.cnt e];decide)).1,(h.e1 (by rw[hF.cnt e];decide)).1];exact p.i5 e
 ·intro e
  rw[(lQ (h.hd (hF.d e rfl).2)).1,(h.e0 (by rw[hF.cnt e];decide)).1,(h.e1 (by rw[hF.cnt e];decide)).1];exact p.i6 e
 ·intro e
  rw[(lQ (h.hd (hF.d e rfl).2)).2.1,(h.e0 (by rw[hF.cnt e];decide)).1,(h.e1 (by rw[hF.cnt e];decide)).1];exact p.i7 e
 ·intro e
  rw[(lQ (h.hd (hF.d e rfl).2)).2.1,(h.e0 (by rw[hF.cnt e];decide)).1,(h.e1 (by rw[hF.cnt e];decide)).1];exact p.i8 e
 ·intro e
  rw[(lQ (h.hd (hF.d e rfl).2)).2.1,(h.e0 (by rw[hF.cnt e];decide)).1,(h.e1 (by rw[hF.cnt e];decide)).1];exact p.i9 e
 ·intro e
  rw[(lQ (h.hd (hF.d e rfl).2)).2.1,(h.e0 (by rw[hF.cnt e];decide)).2.1];exact p.i10 e
 ·intro e
  rw[(lQ (h.hd (hF.d e rfl).2)).2.1,(h.e0 (by rw[hF.cnt e];decide)).2.1,(h.e1 (by rw[hF.cnt e];decide)).2];exact p.i11 e
 ·intro e
  rw[(lQ (h.hd (hF.d e rfl).2)).1,(h.e0 (by rw[hF.cnt e];decide)).2.2]
  obtain ⟨h0,h1⟩:=p.i12 e
  refine ⟨h0,?_⟩
  unfold rG at h0 ⊢
  rw[row (hF.a0 (by rw[hF.cnt e];decide)) h0];exact h1
 ·intro e
  rw[(lQ (h.hd (hF.d e rfl).2)).2.2,(h.e0 (by rw[hF.cnt e];decide)).1]
  obtain ⟨h0,h1⟩:=p.i15 e
  exact ⟨h0,by rw[row (hF.d e rfl) h0];exact h1⟩
 ·intro e
  rw[(lQ (h.hd (hF.d e rfl).2)).2.2];exact p.i16 e
theorem Fi {s:GS} {l:List Int} {d:Int}:dB (stA { s with arrays:=s.arrays++[l] } d s.arrays.length) (s.arrays.length:Int)=l:=by
 unfold dB stA;simp
theorem PX.made (hs:bl f s) (hF:bL f x) (h0:s.ended=false) (he:(ba s x).ended=false) (hne:∀v∈x.args,v≠x.dst):PX (ba s x) x:=by
 have n0:0<x.args.length→bj x≠x.dst∧0≤bj x:=fun hl=>⟨hne _ (by unfold bj;rw[qt hl];exact qx _),(hF.a0 hl).2⟩
 have n1:1<x.args.length→bY x≠x.dst∧0≤bY x:=fun hl=>⟨hne _ (by unfold bY;rw[qt hl];exact qx _),(hF.a1 hl).2⟩
 have I:∀{k:Int} (w:Int),x.op=k→x.dst<f.vars.length∧0≤x.dst→(0<x.args.length∧1<x.args.length)→aG (stI s x.dst w) x=aG s x∧bG (stI s x.dst w) x=bG s x∧vi (stI s x.dst w).ints x.dst=w:=fun w _ hd hl=>
  ⟨vI hd.2 (n0 hl.1).2 (n0 hl.1).1,vI hd.2 (n1 hl.2).2 (n1 hl.2).1,qO hd.2 (by rw[hs.li];exact hd.1)⟩
 have B:∀{k:Int} (w:Bool),x.op=k→x.dst<f.vars.length∧0≤x.dst→gb (stB s x.dst w).bools x.dst=w:=fun w _ hd=>Gd hd.2 (by rw[hs.lb];exact hd.1)
 constructor
 ·intro h1 h2
  unfold ba at he ⊢
  rw[if_pos ⟨h1,h2⟩] at he ⊢
  split at he
  ·rename_i hp
   rw[if_pos hp];exact hp
  ·cases he
 ·intro e
  have hd:=hF.d e rfl
  rw[show ba s x=stI s x.dst x.num by unfold ba doG;simp[e]]
  exact qO hd.2 (by rw[hs.li];exact hd.1)
 ·intro e
  have hd:=hF.d e rfl
  obtain ⟨a1,a2⟩:=n0 (by rw[hF.cnt e];decide)
  rw[show ba s x=stA (stB (stI s x.dst (aG s x)) x.dst (pG s x)) x.dst (rG s x) by unfold ba doG;simp[e]]
  unfold V stA stB stI aG pG rG
  dsimp only
  rw[qO hd.2 (by rw[hs.li];exact hd.1),Gd hd.2 (by rw[hs.lb];exact hd.1),qO hd.2 (by rw[hs.la];exact hd.1),vI hd.2 a2 a1,vJ hd.2 a2 a1,vI hd.2 a2 a1]
 ·intro e
  have hd:=hF.d e rfl
  rw[show ba s x=stI s x.dst (IntKind.i64.wrap (iu 0 (aG s x) (bG s x))) by unfold ba doG;simp[e]]
  obtain ⟨g1,g2,g3⟩:=I (IntKind.i64.wrap (iu 0 (aG s x) (bG s x))) e hd ⟨by rw[hF.cnt e];decide,by rw[hF.cnt e];decide⟩
  rw[g1,g2,g3]
 ·intro e
  have hd:=hF.d e rfl
  rw[show ba s x=stI s x.dst (IntKind.i64.wrap (iu 1 (aG s x) (bG s x))) by unfold ba doG;simp[e]]
  obtain ⟨g1,g2,g3⟩:=I (IntKind.i64.wrap (iu 1 (aG s x) (bG s x))) e hd ⟨by rw[hF.cnt e];decide,by rw[hF.cnt e];decide⟩
  rw[g1,g2,g3]
 ·intro e
  have hd:=hF.d e rfl
  have hi:ba s x=if bG s x=0 then dq s 2 else stI s x.dst (qK (aG s x) (bG s x)):=by unfold ba doG;simp[e]
  rw[hi] at he ⊢
  by_cases hb:bG s x=0
  ·rw[if_pos hb] at he;cases he
  ·rw[if_neg hb]
   obtain ⟨g1,g2,g3⟩:=I (qK (aG s x) (bG s x)) e hd ⟨by rw[hF.cnt e];decide,by rw[hF.cnt e];decide⟩
   rw[g1,g2,g3];exact ⟨hb,rfl⟩
 ·intro e
  have hd:=hF.d e rfl
  have hi:ba s x=if bG s x=0 then dq s 2 else stI s x.dst (lP (aG s x) (bG s x)):=by unfold ba doG;simp[e]
  rw[hi] at he ⊢
  by_cases hb:bG s x=0
  ·rw[if_pos hb] at he;cases he
  ·rw[if_neg hb]
   obtain ⟨g1,g2,g3⟩:=I (lP (aG s x) (bG s x)) e hd ⟨by rw[hF.cnt e];decide,by rw[hF.cnt e];decide⟩
   rw[g1,g2,g3];exact ⟨hb,rfl⟩
 ·intro e
  rw[show ba s x=stB s x.dst (decide (aG s x=bG s x)) by unfold ba doG;simp[e]]
  rw[B _ e (hF.d e rfl)];rfl
 ·intro e
  rw[show ba s x=stB s x.dst (decide (aG s x<bG s x)) by unfold ba doG;simp[e]]
  rw[B _ e (hF.d e rfl)];rfl
 ·intro e
  rw[show ba s x=stB s x.dst (decide (aG s x≤bG s x)) by unfold ba doG;simp[e]]
  rw[B _ e (hF.d e rfl)];rfl
 ·intro e
  have hd:=hF.d e rfl
  obtain ⟨a1,a2⟩:=n0 (by rw[hF.cnt e];decide)
  rw[show ba s x=stB s x.dst (!pG s x) by unfold ba doG;simp[e]]
  rw[B _ e hd]
  unfold pG stB
  dsimp only
  rw[vJ hd.2 a2 a1]
 ·intro e
  have hd:=hF.d e rfl
  obtain ⟨a1,a2⟩:=n0 (by rw[hF.cnt e];decide)
  obtain ⟨b1,b2⟩:=n1 (by rw[hF.cnt e];decide)
  rw[show ba s x=stB s x.dst (pG s x&&qG s x) by unfold ba doG;simp[e]]
  rw[B _ e hd]
  unfold pG qG stB
  dsimp only
  rw[vJ hd.2 a2 a1,vJ hd.2 b2 b1]
 ·intro e
  have hd:=hF.d e rfl
  have hi:ba s x=if rG s x<0 then dq s 2 else stI s x.dst ((dB s (rG s x)).length):=by unfold ba doG;simp[e]
  rw[hi] at he ⊢
  by_cases hb:rG s x<0
  ·rw[if_pos hb] at he;cases he
  ·rw[if_neg hb]
   exact ⟨(by have:0≤rG s x:=(by omega);exact this),qO hd.2 (by rw[hs.li];exact hd.1)⟩
 ·intro e
  have hd:=hF.d e rfl
  obtain ⟨a1,a2⟩:=n0 (by rw[hF.cnt e];decide)
  have hi:ba s x=if aG s x<0∨64<aG s x then dq s 2 else if 32≤s.arrays.length then dq s 3 else stA { s with arrays:=s.arrays++[List.replicate (aG s x).toNat 0] } x.dst s.arrays.length:=by unfold ba doG;simp[e]
  rw[hi] at he ⊢
  by_cases hb:aG s x<0∨64<aG s x
  ·rw[if_pos hb] at he;cases he
  ·rw[if_neg hb] at he ⊢
   by_cases hc:32≤s.arrays.length
   ·rw[if_pos hc] at he;cases he
   ·rw[if_neg hc]
    have hv:vi (stA { s with arrays:=s.arrays++[List.replicate (aG s x).toNat 0] } x.dst s.arrays.length).arrs x.dst=s.arrays.length:=qO hd.2 (by rw[hs.la];exact hd.1)
    rw[hv,Fi,List.length_replicate]
    refine ⟨by omega,?_⟩
    show ((aG s x).toNat:Int)=aG s x
    omega
 ·intro e
  have hd:=hF.d e rfl
  rw[show ba s x=stA s x.dst (-1) by unfold ba doG;simp[e]]
  exact qO hd.2 (by rw[hs.la];exact hd.1)
end
end Go.Proofs.YtdilpodccjlkgaaGreatDoor
namespace Go.Proofs.YtdilpodccjlkgaaGreatDoor
def vl (f:ac) (s:GS) (v:Int):Int:=if bf f v=2 then (if vi s.arrs v<0 then 0 else ((dB s (vi s.arrs v)).length:Int)) else if bf f v=0 then vi s.ints v else 0
structure fG (f:ac) (s:GS) (K:KS):Prop where
 facts:∀q∈K.l,sQ (vl f s) q
 passed:∀q∈K.p,cZ s q.1 q.2=true
section
variable {f:ac} {s:GS} {K:KS}
theorem ms {v:Int} (h:bf f v=0):vl f s v=vi s.ints v:=by unfold vl;rw[h];simp
theorem GU {v:Int} (h:bf f v=2):vl f s v=if vi s.arrs v<0 then 0 else ((dB s (vi s.arrs v)).length:Int):=by unfold vl;rw[if_pos h]
theorem oe (hs:bl f s):vl f s (dV f)=0:=by
 have hk:bf f (dV f)=0:=by unfold bf dV;rw[Int.toNat_natCast,List.getElem?_eq_none (by omega)];rfl
 rw[ms hk]
 unfold vi dV
 rw[Int.toNat_natCast,List.getElem?_eq_none (by rw[hs.li];omega)];rfl
theorem kb:0≤dV f:=by unfold dV;omega
theorem fG.add (h:fG f s K) {a b c:Int} (h0:0≤a∧0≤b) (ht:vl f s a≤vl f s b+c):fG f s (et K a b c):=by
 unfold et
 split
 ·refine ⟨fun q hq=>?_,h.passed⟩
  rcases List.mem_append.1 hq with hq|hq
  ·exact h.facts q hq
  ·rw[List.mem_singleton.1 hq];exact ⟨h0,ht⟩
 ·exact h
theorem fG.lea (h:fG f s K) {a b m:Int} (h0:0≤a∧0≤b) (e:fo f K a b=some m):vl f s a≤vl f s b+m:=sR h.facts h0.1 h0.2 e
theorem fG.flw (h:fG f s K) {a b c:Int} (h0:0≤a∧0≤b) (e:e9 f K a b c=true):vl f s a≤vl f s b+c:=BG h.facts h0.1 h0.2 e
theorem fG.addO (h:fG f s K) {a b:Int} {o:Option Int} (h0:0≤a∧0≤b) (ht:∀c,o=some c→vl f s a≤vl f s b+c):fG f s (addO K a b o):=by
 cases o with
 |none=>exact h
 |some c=>exact h.add h0 (ht c rfl)
theorem fG.both (h:fG f s K) {a b:Int} (h0:0≤a∧0≤b) (e:vl f s a=vl f s b):fG f s (iA K a b):=(h.add h0 (by omega)).add ⟨h0.2,h0.1⟩ (by omega)
theorem fG.was (h:fG f s K) {op:Int} {l:List Int} (e:qP K op l=true):cZ s op l=true:=by
 unfold qP at e
 obtain ⟨q,hq,e2⟩:=List.any_eq_true.1 e
 obtain ⟨rfl,rfl⟩:=wd e2
 exact h.passed q hq
theorem fG.span (h:fG f s K) (hs:bl f s) {v:Int} (h0:0≤v) {r:fI} (e:vM f K v=some r):r.1≤vl f s v∧vl f s v≤r.2:=by
 unfold vM at e
 split at e
 ·rename_i lo hi h1 h2
  cases e
  have:=h.lea ⟨kb,h0⟩ h1
  have:=h.lea ⟨h0,kb⟩ h2
  rw[oe hs] at *
  dsimp only
  omega
 ·cases e
theorem fG.within (h:fG f s K) (hs:bl f s) {k:Nat} {y z:Int} (hy:0≤y) (hz:0≤z) (e:mU f K k y z=true):dp k (vl f s y) (vl f s z):=by
 unfold mU at e
 split at e
 ·rename_i a b h1 h2
  have g1:=h.span hs hy h1
  have g2:=h.span hs hz h2
  unfold Ds at e
  rcases wd e with e|e|e
  ·omega
  ·omega
  ·exact (wY (a:=(vl f s y,vl f s y)) (b:=(vl f s z,vl f s z)) (Int.le_refl _) (Int.le_refl _) ⟨g1.1,g1.2⟩ ⟨g2.1,g2.2⟩ e).1
 ·cases e
end
theorem dW:bb 2=[0,0]∧bb 3=[0,0]∧bb 5=[0,0]∧bb 6=[0,0]∧bb 7=[0,0]∧bb 8=[0,0]∧bb 9=[0,0]∧bb 10=[1]∧bb 11=[1,1]∧bb 12=[2]∧bb 15=[0]∧bb 18=[2,0]∧bb 19=[2]∧bb 20=[0]∧bb 21=[0,0]∧bb 22=[0,0]∧bb 23=[0,0]∧bb 24=[0]:=by decide
theorem k9:ff 0=0∧ff 2=0∧ff 3=0∧ff 5=0∧ff 6=0∧ff 12=0∧ff 15=2∧ff 16=2:=by decide
theorem iB:cS 0=true∧cS 2=true∧cS 3=true∧cS 5=true∧cS 6=true∧cS 12=true∧cS 15=true∧cS 16=true:=by decide
section
variable {f:ac} {x:aF}
theorem bK {k:Int} {l:List Int} (hT:dL f x=true) (e:x.op=k) (h1:¬k=1) (hl:bb k=l):x.args.map (bf f)=l:=by
 unfold dL at hT
 rw[if_neg (by omega),wa] at hT
 rw[wd hT.1,e,hl]
theorem gy {k t:Int} (hT:dL f x=true) (e:x.op=k) (h1:¬k=1) (hm:cS k=true) (hl:ff k=t):bf f x.dst=t:=by
 unfold dL at hT
 rw[if_neg (by omega),e,hm,hl] at hT
 simp at hT
 exact hT.2
theorem lc {a b:Int} (h:x.args.map (bf f)=[a,b]):(bf f (bj x)=a∧bf f (bY x)=b)∧∃y z,x.args=[y,z]:=by
 match hx:x.args,h with
 |[y,z],h=>
  simp only[List.map_cons,List.map_nil,List.cons.injEq,and_true] at h
  unfold bj bY
  rw[hx]
  exact ⟨h,y,z,rfl⟩
theorem qR {a:Int} (h:x.args.map (bf f)=[a]):bf f (bj x)=a∧∃y,x.args=[y]:=by
 match hx:x.args,h with
 |[y],h=>
  simp only[List.map_cons,List.map_nil,List.cons.injEq,and_true] at h
  unfold bj
  rw[hx]
  exact ⟨h,y,rfl⟩
end
def ld (s:GS):Prop:=∀r∈s.arrays,r.length≤64
section
variable {f:ac} {s:GS} {K:KS} {x:aF}
theorem Du {k:Nat} (hk:k≤2) {y z:Int} (h:cZ s (21+k) [y,z]=true):dp k (vi s.ints y) (vi s.ints z):=by
 have:k=0∨k=1∨k=2:=by omega
 rcases this with rfl|rfl|rfl
 all_goals (unfold cZ xI at h;simp at h;exact h)
theorem Aa (hs:bl f s) (hF:bL f x) (hT:dL f x=true) (hK:fG f s K) {k:Nat} (hk:k≤1) (hop:x.op=2+(k:Int)) (h:¬(qP K (x.op+19) x.args=false∧mU f K (x.op - 2).toNat (bj x) (bY x)=false)):dp k (aG s x) (bG s x):=by
 have hk2:k=0∨k=1:=by omega
 have ht:x.args.map (bf f)=[0,0]:=by
  rcases hk2 with rfl|rfl
  ·exact bK hT hop (by omega) dW.1
  ·exact bK hT hop (by omega) dW.2.1
 obtain ⟨⟨k0,k1⟩,y,z,hx⟩:=lc ht
 have hy:=hF.a0 (by simp[hx])
 have hz:=hF.a1 (by simp[hx])
 have e0:aG s x=vi s.ints y:=by unfold aG bj;rw[hx];rfl
 have e1:bG s x=vi s.ints z:=by unfold bG bY;rw[hx];rfl
 by_cases hw:qP K (x.op+19) x.args=true
 ·have:=hK.was hw
  rw[hx,show x.op+19=21+(k:Int) by omega] at this
  rw[e0,e1];exact Du (by omega) this
 ·have hw2:mU f K (x.op - 2).toNat (bj x) (bY x)=true:=by
   cases e:mU f K (x.op - 2).toNat (bj x) (bY x) with
   |true=>rfl
   |false=>exact absurd ⟨by simpa using hw,e⟩ h
  rw[show (x.op - 2).toNat=k by omega] at hw2
  have:=hK.within hs hy.2 hz.2 hw2
  rw[ms k0,ms k1] at this
  exact this
theorem GV (hs:bl f s) (hF:bL f x) (hT:dL f x=true) (hP:PX s x) (hK:fG f s K) (hop:x.op=2∨x.op=3):fG f s (mV f K x):=by
 unfold mV
 split
 ·exact hK
 rename_i hn
 have nn:0≤dV f:=kb
 have hno:=oe hs
 rcases hop with e|e
 ·rw[if_neg (by omega)]
  have hfit:=Aa (k:=0) hs hF hT hK (by omega) e hn
  have hv:=hP.i2 e
  rw[uF (by omega) hfit] at hv
  obtain ⟨⟨k0,k1⟩,_,_,hx⟩:=lc (bK hT e (by omega) dW.1)
  have hd:=hF.d e rfl
  have hy:=hF.a0 (by simp[hx])
  have hz:=hF.a1 (by simp[hx])
  have vd:vl f s x.dst=vl f s (bj x)+vl f s (bY x):=by
   rw[ms (gy hT e (by omega) iB.2.1 k9.2.1),ms k0,ms k1,hv];rfl
  refine fG.addO (fG.addO (fG.addO (fG.addO hK ⟨hd.2,hy.2⟩ fun c hc=>?_) ⟨hy.2,hd.2⟩ fun c hc=>?_) ⟨hd.2,hz.2⟩ fun c hc=>?_) ⟨hz.2,hd.2⟩ fun c hc=>?_
  ·have:=hK.lea ⟨hz.2,nn⟩ hc;omega
  ·have:=hK.lea ⟨nn,hz.2⟩ hc;omega
  ·have:=hK.lea ⟨hy.2,nn⟩ hc;omega
  ·have:=hK.lea ⟨nn,hy.2⟩ hc;omega
 ·rw[if_pos e]
  have hfit:=Aa (k:=1) hs hF hT hK (by omega) e hn
  have hv:=hP.i3 e
  rw[uF (by omega) hfit] at hv
  obtain ⟨⟨k0,k1⟩,_,_,hx⟩:=lc (bK hT e (by omega) dW.2.1)
  have hd:=hF.d e rfl
  have hy:=hF.a0 (by simp[hx])
  have hz:=hF.a1 (by simp[hx])
  have vd:vl f s x.dst=vl f s (bj x) - vl f s (bY x):=by
   rw[ms (gy hT e (by omega) iB.2.2.1 k9.2.2.1),ms k0,ms k1,hv];rfl
  refine fG.addO (fG.addO hK ⟨hd.2,hy.2⟩ fun c hc=>?_) ⟨hy.2,hd.2⟩ fun c hc=>?_
  ·have:=hK.lea ⟨nn,hz.2⟩ hc;omega
  ·have:=hK.lea ⟨hz.2,nn⟩ hc;omega
theorem Ab {a b:Int} (ha:bB a) (h0:0≤a) (hb:b≠0):(0≤lP a b∧lP a b≤a)∧(0≤b→lP a b≤b - 1):=by
 unfold bB at ha
 have key:∀c:Int,0<c→(0≤a / c∧a / c≤a)∧(0≤a / c*c∧a / c*c≤a)∧a - a / c*c≤c - 1:=fun c hc=>by
  have h1:=Int.ediv_nonneg h0 (Int.le_of_lt hc)
  have h2:=Int.ediv_le_self c h0
  have h3:=Int.ediv_mul_le a (Int.ne_of_gt hc)
  have h4:=Int.mul_nonneg h1 (Int.le_of_lt hc)
  have h5:=Int.lt_ediv_add_one_mul_self a hc
  rw[Int.add_mul,Int.one_mul] at h5
  exact ⟨⟨h1,h2⟩,⟨h4,h3⟩,by omega⟩
 unfold lP
 split
 ·rename_i e;subst e;exact ⟨⟨Int.le_refl _,h0⟩,fun h=>by omega⟩
 rw[Int.tdiv_eq_ediv_of_nonneg h0]
 by_cases hp:0<b
 ·obtain ⟨⟨k1,k2⟩,⟨k3,k4⟩,k5⟩:=key b hp
  rw[show IntKind.i64.wrap (a / b)=a / b by rw[eH];omega,show IntKind.i64.wrap (a / b*b)=a / b*b by rw[eH];omega,show IntKind.i64.wrap (a - a / b*b)=a - a / b*b by rw[eH];omega]
  exact ⟨⟨by omega,by omega⟩,fun _=>k5⟩
 ·obtain ⟨⟨k1,k2⟩,⟨k3,k4⟩,k5⟩:=key (-b) (by omega)
  have e:a / b=-(a / -b):=by rw[Int.ediv_neg,Int.neg_neg]
  have e2:a / b*b=a / -b*-b:=by rw[e,Int.neg_mul,Int.mul_neg]
  rw[show IntKind.i64.wrap (a / b)=a / b by rw[eH];omega,e2,show IntKind.i64.wrap (a / -b*-b)=a / -b*-b by rw[eH];omega,show IntKind.i64.wrap (a - a / -b*-b)=a - a / -b*-b by rw[eH];omega]
  exact ⟨⟨by omega,by omega⟩,fun _=>by omega⟩
theorem Dv {a b:Int} (ha:bB a) (h0:a<0) (hb:0<b):lP a b≤0:=by
 unfold bB at ha
 have h1:=Int.ediv_nonneg (show 0≤-a by omega) (Int.le_of_lt hb)
 have h2:=Int.ediv_le_self b (show 0≤-a by omega)
 have h3:=Int.ediv_mul_le (-a) (Int.ne_of_gt hb)
 have h4:=Int.mul_nonneg h1 (Int.le_of_lt hb)
 unfold lP
 rw[if_neg (by omega)]
 have e:a.tdiv b=-(-a / b):=by rw[←Int.tdiv_eq_ediv_of_nonneg (by omega),Int.neg_tdiv,Int.neg_neg]
 rw[e,show IntKind.i64.wrap (-(-a / b))=-(-a / b) by rw[eH];omega,Int.neg_mul,show IntKind.i64.wrap (-(-a / b*b))=-(-a / b*b) by rw[eH];omega,show IntKind.i64.wrap (a - -(-a / b*b))=a - -(-a / b*b) by rw[eH];omega]
 omega
theorem Fj {a b:Int} (ha:bB a) (h0:0≤a) (hb:0<b):0≤qK a b∧qK a b≤a:=by
 unfold bB at ha
 have h1:=Int.ediv_nonneg h0 (Int.le_of_lt hb)
 have h2:=Int.ediv_le_self b h0
 unfold qK
 rw[Int.tdiv_eq_ediv_of_nonneg h0,show IntKind.i64.wrap (a / b)=a / b by rw[eH];omega]
 exact ⟨h1,h2⟩
theorem fG.pos (h:fG f s K) (hs:bl f s) {v:Int} (h0:0≤v) (e:nG f K v=true):0≤vl f s v:=by
 have:=h.flw ⟨kb,h0⟩ e
 rw[oe hs] at this
 omega
theorem Fk (hs:bl f s) (hF:bL f x) (hT:dL f x=true) (hP:PX s x) (hK:fG f s K) (hop:x.op=5∨x.op=6):fG f s (jA f K x):=by
 have nn:0≤dV f:=kb
 have hno:=oe hs
 have ha:bB (aG s x):=qM hs.i64
 obtain ⟨⟨k0,k1⟩,_,_,hx⟩:(bf f (bj x)=0∧bf f (bY x)=0)∧∃y z,x.args=[y,z]:=by
  rcases hop with e|e
  ·exact lc (bK hT e (by omega) dW.2.2.1)
  ·exact lc (bK hT e (by omega) dW.2.2.2.1)
 have hd:x.dst<f.vars.length∧0≤x.dst:=by rcases hop with e|e<;>exact hF.d e rfl
 have kd:bf f x.dst=0:=by
  rcases hop with e|e
  ·exact gy hT e (by omega) iB.2.2.2.1 k9.2.2.2.1
  ·exact gy hT e (by omega) iB.2.2.2.2.1 k9.2.2.2.2.1
 have hy:=hF.a0 (by simp[hx])
 have hz:=hF.a1 (by simp[hx])
 have v0:vl f s (bj x)=aG s x:=ms k0
 have v1:vl f s (bY x)=bG s x:=ms k1
 have vd:vl f s x.dst=vi s.ints x.dst:=ms kd
 have hA:fG f s (eW f K x):=by
  unfold eW
  split
  ·rename_i h
   have p:=hK.pos hs hy.2 h.1
   rw[v0] at p
   have key:0≤vi s.ints x.dst∧vi s.ints x.dst≤aG s x:=by
    rcases hop with e|e
    ·obtain ⟨hb,hv⟩:=hP.i5 e
     have q:=hK.pos hs hz.2 (h.2.resolve_right (by omega))
     rw[v1] at q
     rw[hv];exact Fj ha p (by omega)
    ·obtain ⟨hb,hv⟩:=hP.i6 e
     rw[hv];exact (Ab ha p hb).1
   exact (hK.add ⟨nn,hd.2⟩ (by omega)).add ⟨hd.2,hy.2⟩ (by omega)
  ·exact hK
 unfold jA
 split
 ·rename_i h
  obtain ⟨hb,hv⟩:=hP.i6 h.2
  have q:=hK.pos hs hz.2 h.1
  rw[v1] at q
  refine hA.add ⟨hd.2,hz.2⟩ ?_
  rw[vd,v1,hv]
  by_cases p:0≤aG s x
  ·have:=(Ab ha p hb).2 q;omega
  ·have:=Dv ha (by omega) (show 0<bG s x by omega);omega
 ·exact hA
theorem GW {v:Int} (h2:bf f v=2) (hs:bl f s) (h64:ld s) (hv:v<f.vars.length∧0≤v):0≤vl f s v∧vl f s v≤64:=by
 rw[GU h2]
 split
 ·omega
 ·have:=h64 _ (mR (by omega) (iz hs hv).2)
  omega
theorem Fl (hs:bl f s) (hF:bL f x) (hT:dL f x=true) (hP:PX s x) (hK:fG f s K):fG f s (lV f K x):=by
 have nn:0≤dV f:=kb
 have hno:=oe hs
 unfold lV
 split
 ·rename_i h
  have hd:=hF.d h.1 rfl
  have vd:vl f s x.dst=x.num:=by rw[ms (gy hT h.1 (by omega) iB.1 k9.1),hP.i0 h.1]
  exact (hK.add ⟨hd.2,nn⟩ (by omega)).add ⟨nn,hd.2⟩ (by omega)
 split
 ·rename_i _ h
  rcases h with h|h|h
  ·have hd:=hF.d h.1 rfl
   have hy:=hF.a0 (by rw[hF.cnt h.1];decide)
   refine hK.both ⟨hd.2,hy.2⟩ ?_
   have hk:bf f x.dst=bf f (bj x):=by
    unfold dL at hT
    rw[if_pos h.1] at hT
    rw[wd hT]
    unfold bj
    cases x.args<;>rfl
   have hv:=hP.i1 h.1
   unfold V at hv
   simp only[Prod.mk.injEq] at hv
   unfold vl
   rw[hk,hv.1,hv.2.2]
  ·have hd:=hF.d h rfl
   obtain ⟨k0,_,hx⟩:=qR (bK hT h (by omega) dW.2.2.2.2.2.2.2.2.2.1)
   have hy:=hF.a0 (by simp[hx])
   refine hK.both ⟨hd.2,hy.2⟩ ?_
   obtain ⟨h0,h1⟩:=hP.i12 h
   rw[ms (gy hT h (by omega) iB.2.2.2.2.2.1 k9.2.2.2.2.2.1),GU k0,h1]
   unfold rG at h0 ⊢
   rw[if_neg (by omega)]
  ·have hd:=hF.d h rfl
   obtain ⟨k0,_,hx⟩:=qR (bK hT h (by omega) dW.2.2.2.2.2.2.2.2.2.2.1)
   have hy:=hF.a0 (by simp[hx])
   refine hK.both ⟨hd.2,hy.2⟩ ?_
   obtain ⟨h0,h1⟩:=hP.i15 h
   rw[GU (gy hT h (by omega) iB.2.2.2.2.2.2.1 k9.2.2.2.2.2.2.1),ms k0,if_neg (by omega),h1];rfl
 split
 ·rename_i h
  have hd:=hF.d h rfl
  refine hK.both ⟨hd.2,nn⟩ ?_
  rw[GU (gy hT h (by omega) iB.2.2.2.2.2.2.2 k9.2.2.2.2.2.2.2),hP.i16 h,hno];rfl
 split
 ·rename_i h;exact GV hs hF hT hP hK h
 split
 ·rename_i h;exact Fk hs hF hT hP hK h
 ·exact hK
theorem Fm (hs:bl f s) (hF:bL f x) (hT:dL f x=true) (hP:PX s x) (hc:18≤x.op∧x.op≤24) (hK:fG f s K):fG f s (lW f K x):=by
 have nn:0≤dV f:=kb
 have hno:=oe hs
 have hp:=hP.ck hc.1 hc.2
 have hB:fG f s ⟨K.l,K.p++[(x.op,x.args)]⟩:=⟨hK.facts,fun q hq=>by
  rcases List.mem_append.1 hq with hq|hq
  ·exact hK.passed q hq
  ·rw[List.mem_singleton.1 hq];exact hp⟩
 unfold lW
 split
 ·rename_i e
  obtain ⟨⟨k0,k1⟩,y,z,hx⟩:=lc (bK hT e (by omega) dW.2.2.2.2.2.2.2.2.2.2.2.1)
  have hy:=hF.a0 (by simp[hx])
  have hz:=hF.a1 (by simp[hx])
  have ey:bj x=y:=by unfold bj;rw[hx];rfl
  have ez:bY x=z:=by unfold bY;rw[hx];rfl
  rw[e,hx] at hp
  unfold cZ at hp
  rw[if_pos rfl] at hp
  obtain ⟨p1,_,p3,p4⟩:=gS.1 hp
  have p1:0≤vi s.arrs y:=p1
  have p3:0≤vi s.ints z:=p3
  have p4:vi s.ints z<(dB s (vi s.arrs y)).length:=p4
  have v1:vl f s (bY x)=vi s.ints z:=by rw[ms k1,ez]
  have v0:vl f s (bj x)=(dB s (vi s.arrs y)).length:=by rw[GU k0,ey,if_neg (by omega)]
  exact (hB.add ⟨nn,hz.2⟩ (by omega)).add ⟨hz.2,hy.2⟩ (by omega)
 split
 ·rename_i _ e
  obtain ⟨k0,y,hx⟩:=qR (bK hT e (by omega) dW.2.2.2.2.2.2.2.2.2.2.2.2.2.2.2.2.2)
  have hy:=hF.a0 (by simp[hx])
  have ey:bj x=y:=by unfold bj;rw[hx];rfl
  rw[e,hx] at hp
  unfold cZ at hp
  simp at hp
  have v0:vl f s (bj x)=vi s.ints y:=by rw[ms k0,ey]
  exact (hB.add ⟨nn,hy.2⟩ (by omega)).add ⟨hy.2,nn⟩ (by omega)
 split
 ·rename_i _ _ e
  obtain ⟨k0,y,hx⟩:=qR (bK hT e (by omega) dW.2.2.2.2.2.2.2.2.2.2.2.2.2.1)
  have hy:=hF.a0 (by simp[hx])
  have ey:bj x=y:=by unfold bj;rw[hx];rfl
  rw[e,hx] at hp
  unfold cZ at hp
  simp at hp
  have v0:vl f s (bj x)=vi s.ints y:=by rw[ms k0,ey]
  split
  ·rename_i h
   have:=hK.pos hs hy.2 h
   exact hB.add ⟨nn,hy.2⟩ (by omega)
  ·split
   ·rename_i h
    have:=hK.flw ⟨hy.2,nn⟩ h
    exact hB.add ⟨hy.2,nn⟩ (by omega)
   ·exact hB
 ·exact hB
theorem GX (hs:bl f s) (hF:bL f x) (hT:dL f x=true) (hP:PX s x) (hK:fG f s K):fG f s (d5 f K x):=by
 unfold d5
 split
 ·rename_i h;exact Fm hs hF hT hP h hK
 ·exact Fl hs hF hT hP hK
theorem GY (hs:bl f s) (hF:bL f x) (hT:dL f x=true) (hc:18≤x.op∧x.op≤24) (hK:fG f s K) (hn:Fh f (bj x)=true→0≤vi s.arrs (bj x)) (h:iM f K x=true):cZ s x.op x.args=true:=by
 have nn:0≤dV f:=kb
 have hno:=oe hs
 unfold iM at h
 rw[Bool.or_eq_true] at h
 rcases h with h|h
 ·exact hK.was h
 split at h
 ·rename_i e
  obtain ⟨⟨k0,k1⟩,y,z,hx⟩:=lc (bK hT e (by omega) dW.2.2.2.2.2.2.2.2.2.2.2.1)
  have hy:=hF.a0 (by simp[hx])
  have hz:=hF.a1 (by simp[hx])
  have ey:bj x=y:=by unfold bj;rw[hx];rfl
  have ez:bY x=z:=by unfold bY;rw[hx];rfl
  rw[wa] at h
  have g1:=hK.flw ⟨nn,hz.2⟩ h.1
  have g2:=hK.flw ⟨hz.2,hy.2⟩ h.2
  have v1:vl f s (bY x)=vi s.ints z:=by rw[ms k1,ez]
  have v0:=GU (s:=s) k0
  rw[ey] at v0 g2 hy
  rw[e,hx]
  unfold cZ
  rw[if_pos rfl]
  refine gS.2 ?_
  show 0≤vi s.arrs y∧vi s.arrs y<s.arrays.length∧0≤vi s.ints z∧vi s.ints z<(dB s (vi s.arrs y)).length
  have:=(iz hs hy).2
  split at v0<;>omega
 split at h
 ·rename_i _ e
  obtain ⟨k0,y,hx⟩:=qR (bK hT e (by omega) dW.2.2.2.2.2.2.2.2.2.2.2.2.1)
  have hy:=hF.a0 (by simp[hx])
  have ey:bj x=y:=by unfold bj;rw[hx];rfl
  rw[e,hx]
  have:0≤vi s.arrs y:=by
   rw[ey] at h hy hn k0
   rw[Bool.or_eq_true] at h
   rcases h with h|h
   ·exact hn h
   ·have g:=hK.flw ⟨nn,hy.2⟩ h
    have v0:=GU (s:=s) k0
    split at v0<;>omega
  unfold cZ
  simpa using this
 split at h
 ·rename_i _ _ e
  obtain ⟨k0,y,hx⟩:=qR (bK hT e (by omega) dW.2.2.2.2.2.2.2.2.2.2.2.2.2.1)
  have hy:=hF.a0 (by simp[hx])
  have ey:bj x=y:=by unfold bj;rw[hx];rfl
  have v0:vl f s (bj x)=vi s.ints y:=by rw[ms k0,ey]
  rw[e,hx]
  have:vi s.ints y≠0:=by
   rw[Bool.or_eq_true] at h
   rcases h with h|h
   ·have:=hK.flw ⟨nn,hy.2⟩ h;omega
   ·have:=hK.flw ⟨hy.2,nn⟩ h;omega
  unfold cZ
  simpa using this
 split at h
 ·rename_i _ _ _ e
  obtain ⟨k0,y,hx⟩:=qR (bK hT e (by omega) dW.2.2.2.2.2.2.2.2.2.2.2.2.2.2.2.2.2)
  have hy:=hF.a0 (by simp[hx])
  have ey:bj x=y:=by unfold bj;rw[hx];rfl
  have v0:vl f s (bj x)=vi s.ints y:=by rw[ms k0,ey]
  rw[wa] at h
  have g1:=hK.flw ⟨nn,hy.2⟩ h.1
  have g2:=hK.flw ⟨hy.2,nn⟩ h.2
  rw[e,hx]
  unfold cZ
  simp
  have g3:(0:Int)≤vi s.ints y∧vi s.ints y≤64:=by omega
  exact g3
 ·obtain ⟨k,hk,e⟩:∃k:Nat,k≤2∧x.op=21+(k:Int):=⟨(x.op - 21).toNat,by omega,by omega⟩
  have ht:x.args.map (bf f)=[0,0]:=by
   have:k=0∨k=1∨k=2:=by omega
   rcases this with rfl|rfl|rfl
   ·exact bK hT e (by omega) dW.2.2.2.2.2.2.2.2.2.2.2.2.2.2.1
   ·exact bK hT e (by omega) dW.2.2.2.2.2.2.2.2.2.2.2.2.2.2.2.1
   ·exact bK hT e (by omega) dW.2.2.2.2.2.2.2.2.2.2.2.2.2.2.2.2.1
  obtain ⟨⟨k0,k1⟩,y,z,hx⟩:=lc ht
  have hy:=hF.a0 (by simp[hx])
  have hz:=hF.a1 (by simp[hx])
  have ey:bj x=y:=by unfold bj;rw[hx];rfl
  have ez:bY x=z:=by unfold bY;rw[hx];rfl
  rw[show (x.op - 21).toNat=k by omega] at h
  have g:=hK.within hs hy.2 hz.2 h
  rw[ms k0,ms k1,ey,ez] at g
  rw[e,hx]
  have:k=0∨k=1∨k=2:=by omega
  rcases this with rfl|rfl|rfl
  all_goals (unfold cZ xI;simp;exact g)
end
end Go.Proofs.YtdilpodccjlkgaaGreatDoor
namespace Go.Proofs.YtdilpodccjlkgaaGreatDoor
structure kz where
 seen:List (Int × Bool)
 out:List wI
def fd (q:kz) (a b n:Int):kz:=if a=b then q else ⟨q.seen,q.out++[⟨a,b,n⟩]⟩
section
variable (f:ac)
def kC:Nat→kz→Int→Bool→kz
 |0,q,_,_=>q
 |n+1,q,c,is=>if q.seen.contains (c,is)=true then q else
  match dz f c with
  |none=>⟨q.seen++[(c,is)],q.out⟩
  |some x=>
   if x.op=10 then kC n ⟨q.seen++[(c,is)],q.out⟩ (bj x) (!is)
   else if x.op=1 then kC n ⟨q.seen++[(c,is)],q.out⟩ (bj x) is
   else if x.op=11 then (if is=true then kC n (kC n ⟨q.seen++[(c,is)],q.out⟩ (bj x) true) (bY x) true else ⟨q.seen++[(c,is)],q.out⟩)
   else if x.op=8 then (if is=true then fd ⟨q.seen++[(c,is)],q.out⟩ (bj x) (bY x) 0 else fd ⟨q.seen++[(c,is)],q.out⟩ (bY x) (bj x) 1)
   else if x.op=9 then (if is=true then fd ⟨q.seen++[(c,is)],q.out⟩ (bj x) (bY x) 1 else fd ⟨q.seen++[(c,is)],q.out⟩ (bY x) (bj x) 0)
   else if x.op=7 then (if is=true then fd ⟨q.seen++[(c,is)],q.out⟩ (bj x) (bY x) 2 else ⟨q.seen++[(c,is)],q.out⟩)
   else ⟨q.seen++[(c,is)],q.out⟩
def kc (c:Int) (is:Bool):List wI:=(kC f 100000 ⟨[],[]⟩ c is).out
def En (i:Int):List wI:=match be (ah f) f.blocks.length i with
 |[p]=>if (cA f p).term.kind=1∧(cA f p).term.to0≠(cA f p).term.to1 then kc f (cA f p).term.var (decide ((cA f p).term.to0=i)) else[]
 |_=>[]
def iC (p q:Bool):Int:=if p=true then 1 else if q=true then 2 else 0
def gf (K:KS):Nat→Int→Int
 |0,_=>0
 |n+1,v=>match dz f v with
  |none=>0
  |some x=>
   if x.op=8 then iC (e9 f K (bj x) (bY x) (-1)) (e9 f K (bY x) (bj x) 0)
   else if x.op=9 then iC (e9 f K (bj x) (bY x) 0) (e9 f K (bY x) (bj x) (-1))
   else if x.op=7 then iC (e9 f K (bj x) (bY x) 0&&e9 f K (bY x) (bj x) 0) (e9 f K (bj x) (bY x) (-1)||e9 f K (bY x) (bj x) (-1))
   else if x.op=1 then gf K n (bj x)
   else if x.op=10 then iC (decide (gf K n (bj x)=2)) (decide (gf K n (bj x)=1))
   else if x.op=11 then iC (decide (gf K n (bj x)=1)&&decide (gf K n (bY x)=1)) (decide (gf K n (bj x)=2)||decide (gf K n (bY x)=2))
   else 0
def gF (K:KS) (v:Int):KS:=
 if bf f v=2 then et (et K v (dV f) 64) (dV f) v 0
 else if bf f v=0∧(f.params.length:Int)≤v∧(aL f v).1<0 then iA K v (dV f)
 else K
def dI:KS:=(bw f.vars.length).foldl (gF f) ⟨[],[]⟩
def og (K:KS) (i:Int):KS:=(En f i).foldl gx K
def Dw (K:KS) (i:Int):KS:=(cA f i).insts.foldl (d5 f) K
def vN:List Int→KS
 |[]=>dI f
 |b::up=>Dw f (og f (vN up) b) b
def Eo (b:Int):List Int:=db (bt (ah f) f.blocks.length) f.blocks.length b
def BI (b:Int) (k:Nat):KS:=((cA f b).insts.take k).foldl (d5 f) (og f (vN f (Eo f b).tail) b)
end
structure jB (f:ac) (s:GS) (r:wI):Prop where
 nn:0≤r.a∧0≤r.b
 lt:r.n=0→vl f s r.a<vl f s r.b
 le:r.n=1→vl f s r.a≤vl f s r.b
 eq:r.n=2→vl f s r.a=vl f s r.b
def Ge (f:ac) (s:GS) (Good:Int→Prop):Prop:=∀v y,Good v→dz f v=some y→(PX s y∧bL f y∧dL f y=true∧y.dst=v)∧∀a∈y.args,Good a
theorem Dx {f:ac} {s:GS} {a b:Int} (h:0≤a∧0≤b) (g:vl f s a<vl f s b):jB f s ⟨a,b,0⟩:=⟨h,fun _=>g,fun e=>(by cases e),fun e=>(by cases e)⟩
theorem Dy {f:ac} {s:GS} {a b:Int} (h:0≤a∧0≤b) (g:vl f s a≤vl f s b):jB f s ⟨a,b,1⟩:=⟨h,fun e=>(by cases e),fun _=>g,fun e=>(by cases e)⟩
theorem GZ {f:ac} {s:GS} {a b:Int} (h:0≤a∧0≤b) (g:vl f s a=vl f s b):jB f s ⟨a,b,2⟩:=⟨h,fun e=>(by cases e),fun e=>(by cases e),fun _=>g⟩
section
variable {f:ac} {s:GS} {K:KS} {Good:Int→Prop} (hG:Ge f s Good)
theorem Dz {x:aF} (hl:0<x.args.length):bj x∈x.args:=by unfold bj;rw[qt hl];exact qx hl
theorem H2 {x:aF} (hl:1<x.args.length):bY x∈x.args:=by unfold bY;rw[qt hl];exact qx hl
theorem fG.rel (h:fG f s K) {r:wI} (hr:jB f s r):fG f s (gx K r):=by
 unfold gx
 split
 ·rename_i e;have:=hr.lt e;exact h.add hr.nn (by omega)
 ·split
  ·rename_i e;have:=hr.le e;exact h.add hr.nn (by omega)
  ·split
   ·rename_i e;exact h.both hr.nn (hr.eq e)
   ·exact h
theorem fG.rels:∀(l:List wI) (K:KS),fG f s K→(∀r∈l,jB f s r)→fG f s (l.foldl gx K)
 |[],_,h,_=>h
 |r::l,_,h,hl=>fG.rels l _ (h.rel (hl r (.head _))) fun q hq=>hl q (.tail _ hq)
theorem fG.stps (hs:bl f s):∀(l:List aF) (K:KS),fG f s K→(∀x∈l,PX s x∧bL f x∧dL f x=true)→fG f s (l.foldl (d5 f) K)
 |[],_,h,_=>h
 |x::l,_,h,hl=>fG.stps hs l _ (GX hs (hl x (.head _)).2.1 (hl x (.head _)).2.2 (hl x (.head _)).1 h) fun q hq=>hl q (.tail _ hq)
theorem mW {q:kz} (h:∀r∈q.out,jB f s r) {a b n:Int} (hr:jB f s ⟨a,b,n⟩):∀r∈(fd q a b n).out,jB f s r:=by
 unfold fd
 split
 ·exact h
 ·intro r hm
  rcases List.mem_append.1 hm with hm|hm
  ·exact h r hm
  ·rw[List.mem_singleton.1 hm];exact hr
include hG
theorem qS:∀(n:Nat) (q:kz) (c:Int) (is:Bool),(∀r∈q.out,jB f s r)→Good c→gb s.bools c=is→∀r∈(kC f n q c is).out,jB f s r
 |0,q,_,_,h,_,_=>h
 |n+1,q,c,is,h,hc,hv=>by
  unfold kC
  split
  ·exact h
  split
  ·exact h
  rename_i x hx
  obtain ⟨⟨hP,hF,hT,hd⟩,ha⟩:=hG c x hc hx
  split
  ·rename_i e
   have hl:0<x.args.length:=by rw[hF.cnt e];decide
   refine qS n ⟨_,_⟩ _ _ h (ha _ (Dz hl)) ?_
   have:=hP.i10 e
   rw[hd,hv] at this
   show pG s x=_
   cases hp:pG s x<;>rw[hp] at this<;>rw[this]<;>rfl
  split
  ·rename_i e
   have hl:0<x.args.length:=by rw[hF.cnt e];decide
   refine qS n ⟨_,_⟩ _ _ h (ha _ (Dz hl)) ?_
   have:=hP.i1 e
   unfold V at this
   simp only[Prod.mk.injEq] at this
   rw[←this.2.1,hd,hv]
  split
  ·rename_i e
   have hl:1<x.args.length:=by rw[hF.cnt e];decide
   split
   ·rename_i his
    have hb:=hP.i11 e
    rw[hd,hv,his] at hb
    have hb:=(wa _ _▸hb.symm:pG s x=true∧qG s x=true)
    exact qS n _ _ _ (qS n ⟨_,_⟩ _ _ h (ha _ (Dz (by omega))) hb.1) (ha _ (H2 hl)) hb.2
   ·exact h
  split
  ·rename_i e
   obtain ⟨⟨k0,k1⟩,_,_,hl⟩:=lc (bK hT e (by omega) dW.2.2.2.2.2.1)
   have hy:=hF.a0 (by simp[hl])
   have hz:=hF.a1 (by simp[hl])
   have hb:=hP.i8 e
   rw[hd,hv] at hb
   have v0:vl f s (bj x)=aG s x:=ms k0
   have v1:vl f s (bY x)=bG s x:=ms k1
   split
   ·rename_i his
    rw[his] at hb
    have:=wd hb.symm
    exact mW (q:=⟨q.seen++[(c,is)],q.out⟩) h (Dx ⟨hy.2,hz.2⟩ (by omega))
   ·rename_i his
    have:is=false:=by simpa using his
    rw[this] at hb
    have:=we hb.symm
    exact mW (q:=⟨q.seen++[(c,is)],q.out⟩) h (Dy ⟨hz.2,hy.2⟩ (by omega))
  split
  ·rename_i e
   obtain ⟨⟨k0,k1⟩,_,_,hl⟩:=lc (bK hT e (by omega) dW.2.2.2.2.2.2.1)
   have hy:=hF.a0 (by simp[hl])
   have hz:=hF.a1 (by simp[hl])
   have hb:=hP.i9 e
   rw[hd,hv] at hb
   have v0:vl f s (bj x)=aG s x:=ms k0
   have v1:vl f s (bY x)=bG s x:=ms k1
   split
   ·rename_i his
    rw[his] at hb
    have:=wd hb.symm
    exact mW (q:=⟨q.seen++[(c,is)],q.out⟩) h (Dy ⟨hy.2,hz.2⟩ (by omega))
   ·rename_i his
    have:is=false:=by simpa using his
    rw[this] at hb
    have:=we hb.symm
    exact mW (q:=⟨q.seen++[(c,is)],q.out⟩) h (Dx ⟨hz.2,hy.2⟩ (by omega))
  split
  ·rename_i e
   obtain ⟨⟨k0,k1⟩,_,_,hl⟩:=lc (bK hT e (by omega) dW.2.2.2.2.1)
   have hy:=hF.a0 (by simp[hl])
   have hz:=hF.a1 (by simp[hl])
   have hb:=hP.i7 e
   rw[hd,hv] at hb
   have v0:vl f s (bj x)=aG s x:=ms k0
   have v1:vl f s (bY x)=bG s x:=ms k1
   split
   ·rename_i his
    rw[his] at hb
    have:=wd hb.symm
    exact mW (q:=⟨q.seen++[(c,is)],q.out⟩) h (GZ ⟨hy.2,hz.2⟩ (by omega))
   ·exact h
  ·exact h
theorem DA {c:Int} {is:Bool} (hc:Good c) (hv:gb s.bools c=is):∀r∈kc f c is,jB f s r:=qS hG _ _ _ _ (fun r hr=>by cases hr) hc hv
end
end Go.Proofs.YtdilpodccjlkgaaGreatDoor
namespace Go.Proofs.YtdilpodccjlkgaaGreatDoor
structure b7 (f:ac):Prop where
 hT:∀b∈f.blocks,iK f b=true
 hS:bS f
 hE:bV f
 hs:CV f
 hO:H1 f
 run:vG f
structure ig (f:ac) (s:GS):Prop where
 g:bl f s
 r64:ld s
 un:∀v:Int,f.params.length≤v→v<f.vars.length→(aL f v).1<0→vi s.ints v=0
 px:∀i k x,xL f i k x→cY f ((i:Int),(k:Int)) s.blk s.pc→PX s x
 br:∀c p,gJ (ah f) c s.blk→be (ah f) f.blocks.length c=[p]→(cA f p).term.kind=1→(cA f p).term.to0≠(cA f p).term.to1→gb s.bools (cA f p).term.var=decide ((cA f p).term.to0=c)
theorem du {f:ac} {i:Nat} {b:aX} (h:f.blocks[i]?=some b):cA f (i:Int)=b:=by unfold cA;rw[Int.toNat_natCast,h];rfl
theorem xP {f:ac} {s:GS} {x:aF} (hF:bL f x) {v:Int} (h0:0≤v) (hne:v≠x.dst):V (ba s x) v=V s v:=by
 unfold ba
 split
 ·split<;>rfl
 ·rename_i ho
  rw[nE]
  by_cases hd:0≤x.dst
  ·exact zZ hd h0 hne
  ·exact Ff (BD hF ho (by omega)) v
theorem tN {P:Act→Prop} (s:GS) (x:aF) (h1:∀e:Int,e≠1→P (.stop e)) (h2:∀v,P (.i v)) (h3:∀v,P (.b v)) (h4:∀v,P (.a v)) (h5:∀v,P (.all v)) (h6:P (.row (s.arrays.set (rG s x).toNat ((dB s (rG s x)).set (bG s x).toNat (vi s.ints (wH x)))))) (h7:∀k v,k≤64→P (.new (s.arrays++[List.replicate k 0]) v)) (h8:∀l,P (.out l)):P (nD s x):=by
 unfold nD
 repeat' (first|exact h1 _ (by decide)|exact h2 _|exact h3 _|exact h4 _|exact h5 _|exact h6|exact h8 _|(refine h7 _ _ ?_;omega)|refine gu (fun _=>?_) (fun _=>?_))
theorem BJ {s:GS} (x:aF) {a:Int} (h0:0≤a) (h1:a<s.arrays.length):a<(ba s x).arrays.length∧(dB (ba s x) a).length=(dB s a).length:=by
 unfold ba
 split
 ·split<;>exact ⟨h1,rfl⟩
 rw[nE]
 refine tN (P:=fun A=>a<(BB s x.dst A).arrays.length∧(dB (BB s x.dst A) a).length=(dB s a).length) s x (fun _ _=>⟨h1,Z⟩) (fun _=>⟨h1,Z⟩) (fun _=>⟨h1,Z⟩) (fun _=>⟨h1,Z⟩) (fun _=>⟨h1,Z⟩) ?_ (fun k v _=>?_) (fun _=>⟨h1,Z⟩)
 ·refine ⟨by show a<((s.arrays.set _ _).length:Int);rw[List.length_set];exact h1,?_⟩
  show (((s.arrays.set (rG s x).toNat ((dB s (rG s x)).set (bG s x).toNat (vi s.ints (wH x))))[a.toNat]?).getD []).length=_
  rw[List.getElem?_set]
  split
  ·rename_i hj
   split
   ·rw[Option.getD_some,List.length_set]
    unfold dB
    rw[hj]
   ·omega
  ·rfl
 ·refine ⟨by show a<((s.arrays++[_]).length:Int);rw[qz];omega,?_⟩
  show (((s.arrays++[_])[a.toNat]?).getD []).length=_
  rw[List.getElem?_append_left (by omega)];rfl
theorem BK {s:GS} (h:ld s) (x:aF):ld (ba s x):=by
 unfold ba
 split
 ·split<;>exact h
 rw[nE]
 have hrow:∀a:Int,(dB s a).length≤64:=fun a=>by
  unfold dB
  cases e:s.arrays[a.toNat]? with
  |none=>simp
  |some r=>exact h r (w4 e)
 refine tN (P:=fun A=>ld (BB s x.dst A)) s x (fun _ _=>h) (fun _=>h) (fun _=>h) (fun _=>h) (fun _=>h) (fun r hr=>?_) (fun k v hk r hr=>?_) (fun _=>h)
 ·rcases fw hr with hr|hr
  ·exact h r hr
  ·rw[hr,List.length_set];exact hrow _
 ·rcases List.mem_append.1 hr with hr|hr
  ·exact h r hr
  ·rw[List.mem_singleton.1 hr,List.length_replicate];exact hk
section
variable {f:ac} (hR:b7 f)
include hR
theorem b7.inF {i k:Nat} {x:aF} (h:xL f i k x):bL f x∧dL f x=true:=by
 obtain ⟨b,hb,hx⟩:=h
 have hbm:=w4 hb
 have hxm:=w4 hx
 refine ⟨gN ((hR.hS.2.2.2.2.2 b hbm).2.1 x hxm),?_⟩
 have:=hR.hT b hbm
 unfold iK at this
 simp only[wa] at this
 exact List.all_eq_true.1 this.1.2 x hxm
theorem b7.av {i k:Nat} {x:aF} (h:xL f i k x):∀v∈x.args,Av f i k v:=fun v hv=>by
 obtain ⟨b,hb,hx⟩:=h
 obtain ⟨hi,e⟩:=List.getElem?_eq_some_iff.1 hb
 obtain ⟨hk,e2⟩:=List.getElem?_eq_some_iff.1 hx
 have:=(hR.hs.2.2.2 i hi).2.1
 rw[e] at this
 exact this k hk v (by rw[e2];exact hv)
theorem b7.made {i k:Nat} {x:aF} (h:xL f i k x) (h0:0≤x.dst):aL f x.dst=((i:Int),(k:Int)):=by
 obtain ⟨b,hb,hx⟩:=h
 exact hR.hO.inst i k b x hb hx h0
theorem b7.noStart {x:Int}:(0:Int) ∉ ah f x:=fun hm=>by
 by_cases hx:0≤x∧x<f.blocks.length
 ·rw[jT hx.1 (by omega)] at hm
  have:=hR.hT (f.blocks[x.toNat]'(by omega)) (qx _)
  unfold iK at this
  simp only[wa] at this
  have ht:=this.2
  generalize (f.blocks[x.toNat]'(by omega)).term=t at hm ht
  unfold cJ at hm
  unfold d6 at ht
  by_cases h0:t.kind=0
  ·rw[if_pos h0] at hm ht
   have:=List.mem_singleton.1 hm
   rw[←this] at ht;simp at ht
  ·rw[if_neg h0] at hm ht
   by_cases h1:t.kind=1
   ·rw[if_pos h1] at hm ht
    simp only[wa,Bool.not_eq_true',decide_eq_false_iff_not] at ht
    split at hm
    ·have:=List.mem_singleton.1 hm;exact ht.1.2 this.symm
    ·rcases List.mem_cons.1 hm with e|hm
     ·exact ht.1.2 e.symm
     ·exact ht.2 (List.mem_singleton.1 hm).symm
   ·rw[if_neg h1] at hm;cases hm
 ·rw[f6 hx] at hm;cases hm
theorem b7.pred {c p:Int} (h:be (ah f) f.blocks.length c=[p]):c∈ah f p∧∀q,c∈ah f q→q=p:=by
 have key:∀q,q∈be (ah f) f.blocks.length c↔c∈ah f q:=fun q=>jS hR.hE.grph.toEOk (fun x hx=>f6 hx)
 refine ⟨(key p).1 (by rw[h];exact .head _),fun q hq=>?_⟩
 have:=(key q).2 hq
 rw[h] at this
 exact List.mem_singleton.1 this
theorem b7.one {c p:Int} (hc:oA (ah f) c) (h:be (ah f) f.blocks.length c=[p]):c≠0∧gJ (ah f) p c∧p≠c:=by
 obtain ⟨h1,h2⟩:=hR.pred h
 have h0:c≠0:=fun e=>hR.noStart (e▸h1)
 refine ⟨h0,gJ.of_preds hc h0 fun q hq he=>?_,fun e=>?_⟩
 ·rw[h2 q he] at hq ⊢
  exact .refl hq
 ·subst e
  have:∀b,jM (ah f) (fun _=>True) 0 b→b≠p:=fun b hw=>by
   induction hw with
   |refl _=>exact fun e=>h0 e.symm
   |@step b d _ he _ ih=>exact fun e=>ih (h2 b (e▸he))
  exact this p hc rfl
theorem b7.brAv {c p:Int} (hc:oA (ah f) c) (h:be (ah f) f.blocks.length c=[p]) (hk:(cA f p).term.kind=1):Av f p (fE f p) (cA f p).term.var∧0≤(cA f p).term.var:=by
 obtain ⟨h1,h2⟩:=hR.pred h
 have hp:0≤p∧p<f.blocks.length:=Classical.byContradiction fun hn=>by rw[f6 hn] at h1;cases h1
 obtain ⟨j,rfl⟩:∃j:Nat,p=(j:Int):=⟨p.toNat,by omega⟩
 have hj:f.blocks[j]?=some (f.blocks[j]'(by omega)):=qt (by omega)
 have:=(hR.hs.2.2.2 j (by omega)).2.2
 rw[du hj] at hk ⊢
 rw[nF hj]
 refine ⟨this.resolve_left (by omega),?_⟩
 have ht:=hR.run.term _ (qx (show j<f.blocks.length by omega))
 unfold bH at ht
 rw[if_neg (by omega),if_pos hk] at ht
 simp only[wa] at ht
 exact (eV ht.1.1).2
theorem b7.brOut {c p b:Int} (hc:oA (ah f) c) (h:be (ah f) f.blocks.length c=[p]) {v:Int} (hv:Av f p (fE f p) v) (hb:(aL f v).1=b) (h0:0≤b) (hd:gJ (ah f) c b):False:=by
 obtain ⟨_,h2,h3⟩:=hR.one hc h
 have hG:=hR.hE.grph
 rcases hv with hv|⟨e,_⟩|⟨_,_,hv⟩
 ·omega
 ·rw[←e,hb] at h2 h3
  exact h3 (fm hG h2 hd)
 ·rw[hb] at hv
  exact h3 (fm hG h2 (hd.trans hv))
end
end Go.Proofs.YtdilpodccjlkgaaGreatDoor
namespace Go.Proofs.YtdilpodccjlkgaaGreatDoor
theorem Ac (s:GS) (x:aF):(ba s x).blk=s.blk∧(ba s x).pc=s.pc:=by
 unfold ba
 split
 ·split<;>exact ⟨rfl,rfl⟩
 ·rw[nE];cases nD s x<;>exact ⟨rfl,rfl⟩
theorem lX {s:GS} {v:Int} (h0:0≤v):∀(l:List dF) (t:GS),(∀p∈l,0≤p.dst∧p.dst≠v)→V (l.foldl (assign s) t) v=V t v
 |[],_,_=>rfl
 |p::l,t,h=>by
  rw[List.foldl_cons,lX h0 l _ fun q hq=>h q (.tail _ hq),xK]
  exact zZ (h p (.head _)).1 h0 fun e=>(h p (.head _)).2 e.symm
theorem mX (s:GS):∀(l:List dF) (t:GS),(l.foldl (assign s) t).arrays=t.arrays∧(l.foldl (assign s) t).ended=t.ended
 |[],_=>⟨rfl,rfl⟩
 |p::l,t=>by rw[List.foldl_cons];exact mX s l (assign s t p)
theorem DB (t:fk) (g:Bool) (h:¬t.kind=0→t.kind=1):(if t.kind=0∨g=true then t.to0 else t.to1)∈cJ t∧(t.kind=1→t.to0≠t.to1→g=decide (t.to0=if t.kind=0∨g=true then t.to0 else t.to1)):=by
 unfold cJ
 by_cases h0:t.kind=0
 ·simp[h0]
 ·have h1:=h h0
  by_cases e:t.to0=t.to1
  ·simp[h1,e]
  ·cases g<;>simp[h1,e]
section
variable {f:ac} (hR:b7 f)
include hR
theorem ig.inst {s:GS} (hI:ig f s) (he:s.ended=false) {x:aF} (hx:(cA f s.blk).insts[s.pc]?=some x) (he':(cQ f s).ended=false):ig f (cQ f s):=by
 have hg:=hI.g.step hR.run
 obtain ⟨i,hi⟩:∃i:Nat,s.blk=(i:Int):=⟨s.blk.toNat,by have:=hI.g.b0;omega⟩
 have hil:i<f.blocks.length:=by have:=hI.g.b1;omega
 have hb:=qt hil
 have hat:xL f i s.pc x:=⟨_,hb,by rw[hi,du hb] at hx;exact hx⟩
 obtain ⟨hF,hTx⟩:=hR.inF hat
 have hst:cQ f s=ba { s with pc:=s.pc+1,st:=s.st+1 } x:=by unfold cQ;rw[hx]
 obtain ⟨s0,hs0⟩:∃s0:GS,{ s with pc:=s.pc+1,st:=s.st+1 }=s0:=⟨_,rfl⟩
 have e0:s0.ended=false∧s0.blk=s.blk∧s0.pc=s.pc+1∧s0.arrays=s.arrays∧(∀v,V s0 v=V s v):=by rw[←hs0];exact ⟨he,rfl,rfl,rfl,fun _=>rfl⟩
 have g0:bl f s0:=by
  rw[←hs0]
  have:=hI.g
  exact ⟨this.li,this.lb,this.la,this.i64,this.arr,this.ls,this.lr,this.r64,this.lt,this.b0,this.b1,(List.getElem?_eq_some_iff.1 hx).1⟩
 rw[hs0] at hst
 rw[hst] at hg he' ⊢
 obtain ⟨p1,p2⟩:=Ac s0 x
 have hV:∀v:Int,0≤v→v≠x.dst→V (ba s0 x) v=V s v:=fun v h0 h1=>by rw[xP hF h0 h1];exact e0.2.2.2.2 v
 have mk:∀v:Int,0≤v→v=x.dst→aL f v=((i:Int),(s.pc:Int)):=fun v h0 e=>by rw[e];exact hR.made hat (by omega)
 have avn:∀v:Int,0≤v→Av f s.blk s.pc v→v≠x.dst:=fun v h0 ha e=>by
  unfold Av at ha
  rw[mk v h0 e,hi] at ha
  rcases ha with h|⟨_,h⟩|⟨_,h,_⟩
  ·dsimp only at h;omega
  ·dsimp only at h;omega
  ·exact h rfl
 refine ⟨hg,BK (s:=s0) (by unfold ld;rw[e0.2.2.2.1];exact hI.r64) x,fun v h1 h2 h3=>?_,fun j k y hy ha=>?_,fun c p hd hp hk ht=>?_⟩
 ·have h0:0≤v:=by omega
  have hne:v≠x.dst:=fun e=>by rw[mk v h0 e] at h3;dsimp only at h3;omega
  have:=hV v h0 hne
  unfold V at this
  simp only[Prod.mk.injEq] at this
  rw[this.1];exact hI.un v h1 h2 h3
 ·rw[p1,p2,e0.2.1,e0.2.2.1,hi] at ha
  obtain ⟨hFy,_⟩:=hR.inF hy
  by_cases hjk:(j:Int)=(i:Int)∧(k:Int)=(s.pc:Int)
  ·have ej:j=i:=by omega
   have ek:k=s.pc:=by omega
   subst ej ek
   have:y=x:=hy.one hat
   subst this
   refine PX.made g0 hF e0.1 he' fun v hv=>?_
   have h0:=(eV (hF.args v hv)).2
   exact avn v h0 (by rw[hi];exact hR.av hat v hv)
  ·have ha':cY f ((j:Int),(k:Int)) s.blk s.pc:=by
    rw[hi]
    rcases xM.1 (show cY f ((j:Int),(k:Int)) (i:Int) ((s.pc:Int)+1) from ha) with h|h
    ·exact h
    ·exact absurd h hjk
   have hP:=hI.px j k y hy ha'
   refine PX.same hI.g hg hFy ⟨fun h0=>?_,fun v hv=>?_,fun a h0 h1=>?_⟩ hP
   ·refine hV _ h0 fun e=>hjk ?_
    have h1:=hR.made hy h0
    rw[mk _ h0 e] at h1
    simp only[Prod.mk.injEq] at h1
    exact ⟨h1.1.symm,h1.2.symm⟩
   ·have h0:=(eV (hFy.args v hv)).2
    refine hV v h0 (avn v h0 ?_)
    exact od (p:=((j:Int),(k:Int))) hR.hE (hR.av hy v hv) ha' (by dsimp only;omega)
   ·have:=BJ (s:=s0) x h0 (by rw[e0.2.2.2.1];exact h1)
    refine ⟨this.1,this.2.trans ?_⟩
    unfold dB
    rw[e0.2.2.2.1]
 ·rw[p1,e0.2.1] at hd
  have hc:=hd.rch
  obtain ⟨hav,h0⟩:=hR.brAv hc hp hk
  have hne:(cA f p).term.var≠x.dst:=fun e=>hR.brOut hc hp hav (b:=s.blk) (by rw[mk _ h0 e,hi]) hI.g.b0 hd
  have:=hV _ h0 hne
  unfold V at this
  simp only[Prod.mk.injEq] at this
  rw[this.2.1]
  exact hI.br c p hd hp hk ht
theorem ig.term {s:GS} (hI:ig f s) (he:s.ended=false) (hx:(cA f s.blk).insts[s.pc]?=none) (he':(cQ f s).ended=false):ig f (cQ f s):=by
 have hg:=hI.g.step hR.run
 obtain ⟨i,hi⟩:∃i:Nat,s.blk=(i:Int):=⟨s.blk.toNat,by have:=hI.g.b0;omega⟩
 have hil:i<f.blocks.length:=by have:=hI.g.b1;omega
 have hb:=qt hil
 have hbm:=qx hil
 have hpc:(s.pc:Int)=fE f s.blk:=by
  have h1:=hI.g.pc
  have h2:=List.getElem?_eq_none_iff.1 hx
  rw[hi,nF hb]
  rw[hi,du hb] at h1 h2
  omega
 have hk:¬(cA f s.blk).term.kind=2:=fun h=>by
  unfold cQ at he'
  rw[hx] at he'
  dsimp only at he'
  rw[if_pos h] at he'
  cases he'
 have hst:cQ f s=ep f { s with st:=s.st+1 } (lU f s):=by
  unfold cQ;rw[hx];dsimp only;rw[if_neg hk]
 obtain ⟨s0,hs0⟩:∃s0:GS,{ s with st:=s.st+1 }=s0:=⟨_,rfl⟩
 have e0:s0.ended=false∧s0.blk=s.blk∧s0.arrays=s.arrays∧(∀v,V s0 v=V s v):=by rw[←hs0];exact ⟨he,rfl,rfl,fun _=>rfl⟩
 have htm:=hR.run.term _ (mS hI.g.b0 hI.g.b1)
 have hends:ah f s.blk=cJ (cA f s.blk).term:=by rw[hi,pH hil,du hb]
 obtain ⟨t0',t1'⟩:=zX htm hk
 obtain ⟨c,hcn⟩:∃c,lU f s=c:=⟨_,rfl⟩
 have hmem:c∈ah f s.blk∧((cA f s.blk).term.kind=1→(cA f s.blk).term.to0≠(cA f s.blk).term.to1→gb s.bools (cA f s.blk).term.var=decide ((cA f s.blk).term.to0=c)):=by
  rw[hends,←hcn]
  exact DB _ _ fun h0=>(t1' h0).1
 obtain ⟨hce,hbv⟩:=hmem
 have hcr:0≤c∧c<f.blocks.length:=by
  have:=tM hR.run hI.g hk
  rw[hcn] at this
  exact this
 obtain ⟨to,rfl⟩:∃to:Nat,c=(to:Int):=⟨c.toNat,by omega⟩
 have htl:to<f.blocks.length:=by omega
 have hcb:=qt htl
 rw[hcn,hs0] at hst
 rw[hst] at hg he' ⊢
 unfold ep at hg he' ⊢
 split at he'
 case isFalse=>cases he'
 rename_i hall
 rw[if_pos hall] at hg ⊢
 rw[du hcb] at hg ⊢
 have hph:∀p∈(f.blocks[to]'htl).phis,0≤p.dst∧aL f p.dst=((to:Int),-1):=fun p hp=>by
  have:=hR.run.phis _ (qx htl) p hp
  exact ⟨(eV this.1).2,hR.hO.phi to _ p hcb hp⟩
 have hV:∀v:Int,0≤v→¬aL f v=((to:Int),-1)→V (goG ((f.blocks[to]'htl).phis.foldl (assign s0) s0) to) v=V s v:=fun v h0 h1=>by
  show V ((f.blocks[to]'htl).phis.foldl (assign s0) s0) v=_
  rw[lX h0 _ _ fun p hp=>⟨(hph p hp).1,fun e=>h1 (by rw[←e];exact (hph p hp).2)⟩]
  exact e0.2.2.2 v
 have har:(goG ((f.blocks[to]'htl).phis.foldl (assign s0) s0) to).arrays=s.arrays:=(mX s0 _ _).1.trans e0.2.2.1
 have hrch:oA (ah f) (to:Int):=hR.hs.2.1 to htl
 have hirch:oA (ah f) s.blk:=by rw[hi];exact hR.hs.2.1 i hil
 have hG:=hR.hE.grph
 refine ⟨hg,by unfold ld;rw[har];exact hI.r64,fun v h1 h2 h3=>?_,fun j k y hy ha=>?_,fun d p hd hp hk1 ht=>?_⟩
 ·have:=hV v (by omega) (fun e=>by rw[e] at h3;dsimp only at h3;omega)
  unfold V at this
  simp only[Prod.mk.injEq] at this
  rw[this.1];exact hI.un v h1 h2 h3
 ·have ha:cY f ((j:Int),(k:Int)) (to:Int) 0:=ha
  obtain ⟨hFy,_⟩:=hR.inF hy
  have hjt:(j:Int)≠(to:Int)∧gJ (ah f) (j:Int) (to:Int):=by
   rcases ha with h|⟨_,h⟩|⟨_,h,h'⟩
   ·dsimp only at h;omega
   ·dsimp only at h;omega
   ·exact ⟨h,h'⟩
  have ha':cY f ((j:Int),(k:Int)) s.blk s.pc:=by
   rw[hpc]
   refine xN hirch hce (k:=0) (by omega) ha (fun e=>?_) (fun _=>by dsimp only;omega)
   obtain ⟨B,h1,h2⟩:=hy
   dsimp only at e ⊢
   rw[←e,nF h1]
   have:=(List.getElem?_eq_some_iff.1 h2).1
   omega
  have hP:=hI.px j k y hy ha'
  refine PX.same hI.g hg hFy ⟨fun h0=>?_,fun v hv=>?_,fun a h0 h1=>?_⟩ hP
  ·refine hV _ h0 fun e=>?_
   rw[hR.made hy h0] at e
   simp only[Prod.mk.injEq] at e
   omega
  ·have h0:=(eV (hFy.args v hv)).2
   refine hV v h0 fun e=>?_
   have hv:=hR.av hy v hv
   unfold Av at hv
   rw[e] at hv
   rcases hv with h|⟨h,_⟩|⟨_,_,h⟩
   ·dsimp only at h;omega
   ·exact hjt.1 h.symm
   ·exact hjt.1 (fm hG hjt.2 h)
  ·refine ⟨by rw[har];exact h1,?_⟩
   unfold dB
   rw[har]
 ·have hd:gJ (ah f) d (to:Int):=hd
  have hdr:=hd.rch
  obtain ⟨hav,h0⟩:=hR.brAv hdr hp hk1
  have hne:¬aL f (cA f p).term.var=((to:Int),-1):=fun e=>hR.brOut hdr hp hav (b:=(to:Int)) (by rw[e]) (by omega) hd
  have:=hV _ h0 hne
  unfold V at this
  simp only[Prod.mk.injEq] at this
  rw[this.2.1]
  by_cases e:d=(to:Int)
  ·subst e
   have:=(hR.pred hp).2 s.blk hce
   rw[←this] at hk1 ht ⊢
   exact hbv hk1 ht
  ·exact hI.br d p (hd.pred hirch hce e) hp hk1 ht
theorem ig.step {s:GS} (hI:ig f s) (he:s.ended=false) (he':(cQ f s).ended=false):ig f (cQ f s):=by
 cases h:(cA f s.blk).insts[s.pc]? with
 |none=>exact hI.term hR he h he'
 |some x=>exact hI.inst hR he h he'
end
end Go.Proofs.YtdilpodccjlkgaaGreatDoor
