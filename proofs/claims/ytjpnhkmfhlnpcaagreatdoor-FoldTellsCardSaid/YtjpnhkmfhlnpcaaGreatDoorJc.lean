/- Slices of numbers and of truths that are one's own; slices of such slices. No conditions but bounds. -/
import Derived.Test.YtjpnhkmfhlnpcaaGreatDoorJb
import Derived.Test.YtjpnhkmfhlnpcaaGreatDoorChecked
import Derived.Test.YtjpnhkmfhlnpcaaGreatDoorJa
import Derived.Laws.BytesArg
import Derived.ProofKit
import Derived.OpenShut
import Derived.Deep.Matrix
import Derived.Lib.LaidU8
import Derived.Lib.LaidTab
import Derived.MapKept
import Derived.WideMake
import Derived.Laws.Cover4
import Derived.WideLaws
import Derived.Lib.AppendZeros
import Derived.Lib.Builder
import Derived.Lib.AppendStr
import Derived.Lib.UnsafeStr
import Derived.Laws.Externs
set_option linter.unusedVariables false
set_option linter.unusedSimpArgs false
set_option linter.unusedSectionVars false
namespace Go.Proofs.YtjpnhkmfhlnpcaaGreatDoor
section
open Go.Proofs.Tryz
open Go.Proofs
theorem cF:gj prog 220 #[(0,1),(1,1),(2,1)] [.str ⟨#[]⟩,.str ⟨#[]⟩,.str ⟨#[]⟩]:=⟨_,_,underlying220,zeroValue220,fun w=>by kernel_rfl,rfl⟩
theorem DX:kU prog 259 3 [.str ⟨#[]⟩,.str ⟨#[]⟩,.str ⟨#[]⟩,.str ⟨#[]⟩,.str ⟨#[]⟩,.str ⟨#[]⟩,.str ⟨#[]⟩,.str ⟨#[]⟩,.str ⟨#[]⟩,.str ⟨#[]⟩,.str ⟨#[]⟩,.str ⟨#[]⟩,.str ⟨#[]⟩,.str ⟨#[]⟩,.str ⟨#[]⟩,.str ⟨#[]⟩,.str ⟨#[]⟩,.str ⟨#[]⟩,.str ⟨#[]⟩,.str ⟨#[]⟩,.str ⟨#[]⟩,.str ⟨#[]⟩,.str ⟨#[]⟩,.str ⟨#[]⟩,.str ⟨#[]⟩,.str ⟨#[]⟩,.str ⟨#[]⟩,.str ⟨#[]⟩,.str ⟨#[]⟩,.str ⟨#[]⟩,.str ⟨#[]⟩,.str ⟨#[]⟩,.str ⟨#[]⟩,.str ⟨#[]⟩,.str ⟨#[]⟩,.str ⟨#[]⟩,.str ⟨#[]⟩,.str ⟨#[]⟩,.str ⟨#[]⟩,.str ⟨#[]⟩,.str ⟨#[]⟩,.str ⟨#[]⟩,.str ⟨#[]⟩,.str ⟨#[]⟩,.str ⟨#[]⟩,.str ⟨#[]⟩,.str ⟨#[]⟩,.str ⟨#[]⟩,.str ⟨#[]⟩,.str ⟨#[]⟩,.str ⟨#[]⟩,.str ⟨#[]⟩,.str ⟨#[]⟩,.str ⟨#[]⟩,.str ⟨#[]⟩,.str ⟨#[]⟩,.str ⟨#[]⟩,.str ⟨#[]⟩,.str ⟨#[]⟩,.str ⟨#[]⟩,.str ⟨#[]⟩,.str ⟨#[]⟩,.str ⟨#[]⟩,.str ⟨#[]⟩,.str ⟨#[]⟩,.str ⟨#[]⟩,.str ⟨#[]⟩,.str ⟨#[]⟩,.str ⟨#[]⟩,.str ⟨#[]⟩,.str ⟨#[]⟩,.str ⟨#[]⟩,.str ⟨#[]⟩,.str ⟨#[]⟩,.str ⟨#[]⟩,.str ⟨#[]⟩,.str ⟨#[]⟩,.str ⟨#[]⟩,.str ⟨#[]⟩,.str ⟨#[]⟩,.str ⟨#[]⟩]:=⟨_,_,_,underlying259,zeroValue259,sizeOf220,rfl⟩
variable {E:World}
set_option maxRecDepth 20000
def em:List (ByteArray × ByteArray × ByteArray):=[(⟨#[99,111,110,115,116]⟩,⟨#[]⟩,⟨#[105]⟩),
 (⟨#[99,111,112,121]⟩,⟨#[105]⟩,⟨#[105]⟩),
 (⟨#[97,100,100]⟩,⟨#[105,105]⟩,⟨#[105]⟩),
 (⟨#[115,117,98]⟩,⟨#[105,105]⟩,⟨#[105]⟩),
 (⟨#[109,117,108]⟩,⟨#[105,105]⟩,⟨#[105]⟩),
 (⟨#[100,105,118]⟩,⟨#[105,105]⟩,⟨#[105]⟩),
 (⟨#[114,101,109]⟩,⟨#[105,105]⟩,⟨#[105]⟩),
 (⟨#[101,113]⟩,⟨#[105,105]⟩,⟨#[98]⟩),
 (⟨#[108,116]⟩,⟨#[105,105]⟩,⟨#[98]⟩),
 (⟨#[108,101]⟩,⟨#[105,105]⟩,⟨#[98]⟩),
 (⟨#[110,111,116]⟩,⟨#[98]⟩,⟨#[98]⟩),
 (⟨#[97,110,100]⟩,⟨#[98,98]⟩,⟨#[98]⟩),
 (⟨#[108,101,110]⟩,⟨#[97]⟩,⟨#[105]⟩),
 (⟨#[108,111,97,100]⟩,⟨#[97,105]⟩,⟨#[105]⟩),
 (⟨#[115,116,111,114,101]⟩,⟨#[97,105,105]⟩,⟨#[]⟩),
 (⟨#[110,101,119]⟩,⟨#[105]⟩,⟨#[97]⟩),
 (⟨#[110,105,108]⟩,⟨#[]⟩,⟨#[97]⟩),
 (⟨#[111,117,116]⟩,⟨#[105]⟩,⟨#[]⟩),
 (⟨#[99,104,107,105,100,120]⟩,⟨#[97,105]⟩,⟨#[]⟩),
 (⟨#[99,104,107,110,105,108]⟩,⟨#[97]⟩,⟨#[]⟩),
 (⟨#[99,104,107,100,105,118]⟩,⟨#[105]⟩,⟨#[]⟩),
 (⟨#[99,104,107,97,100,100]⟩,⟨#[105,105]⟩,⟨#[]⟩),
 (⟨#[99,104,107,115,117,98]⟩,⟨#[105,105]⟩,⟨#[]⟩),
 (⟨#[99,104,107,109,117,108]⟩,⟨#[105,105]⟩,⟨#[]⟩),
 (⟨#[99,104,107,108,101,110]⟩,⟨#[105]⟩,⟨#[]⟩),
 (⟨#[112,105]⟩,⟨#[105,105]⟩,⟨#[105]⟩),
 (⟨#[112,105,108,101,110]⟩,⟨#[105,97]⟩,⟨#[105]⟩)]
def bv (op:Int):ByteArray × ByteArray × ByteArray:=if 0≤op then em[op.toNat]?.getD (⟨#[]⟩,⟨#[]⟩,⟨#[]⟩) else (⟨#[]⟩,⟨#[]⟩,⟨#[]⟩)
def mR (op:Int):Bool:=decide (0≤op)&&decide (op<27)
def mS (r:ByteArray × ByteArray × ByteArray):List AV:=[.str r.1,.str r.2.1,.str r.2.2]
theorem Ay (op:Int):aT prog E 179 [.int .i64 op] (.bool (mR op)):=by
 refine zo func179 Z (by decide) Z<|ai<|ad Z<|z7<|ai<|aa Z<|za (Gv.geq Z Z)<|aj Z<|zk (s:=5) Z (fun c1=>?_) (fun c1=>?_)
 ·refine z8 Z Z c1<|aa Z<|z8 Z Z c1<|ay Z Z<|ak Z c1 Z<|ad Z<|z7<|zg<|zi (x:=.bool _) Z ?_
  simp_all[mR]<;>omega
 ·refine z6 Z Z c1<|z6 Z Z c1<|al Z c1 Z<|ad Z<|z7<|zg<|zi (x:=.bool _) Z ?_
  simp_all[mR]<;>omega
set_option maxHeartbeats 4000000 in
theorem qo:aT prog E 180 [] (.agg (em.flatMap mS)):=by
 refine zo func180 Z (by decide) Z<|ai<|zp (cs:=[.str ⟨#[]⟩,.str ⟨#[]⟩,.str ⟨#[]⟩,.str ⟨#[]⟩,.str ⟨#[]⟩,.str ⟨#[]⟩,.str ⟨#[]⟩,.str ⟨#[]⟩,.str ⟨#[]⟩,.str ⟨#[]⟩,.str ⟨#[]⟩,.str ⟨#[]⟩,.str ⟨#[]⟩,.str ⟨#[]⟩,.str ⟨#[]⟩,.str ⟨#[]⟩,.str ⟨#[]⟩,.str ⟨#[]⟩,.str ⟨#[]⟩,.str ⟨#[]⟩,.str ⟨#[]⟩,.str ⟨#[]⟩,.str ⟨#[]⟩,.str ⟨#[]⟩,.str ⟨#[]⟩,.str ⟨#[]⟩,.str ⟨#[]⟩,.str ⟨#[]⟩,.str ⟨#[]⟩,.str ⟨#[]⟩,.str ⟨#[]⟩,.str ⟨#[]⟩,.str ⟨#[]⟩,.str ⟨#[]⟩,.str ⟨#[]⟩,.str ⟨#[]⟩,.str ⟨#[]⟩,.str ⟨#[]⟩,.str ⟨#[]⟩,.str ⟨#[]⟩,.str ⟨#[]⟩,.str ⟨#[]⟩,.str ⟨#[]⟩,.str ⟨#[]⟩,.str ⟨#[]⟩,.str ⟨#[]⟩,.str ⟨#[]⟩,.str ⟨#[]⟩,.str ⟨#[]⟩,.str ⟨#[]⟩,.str ⟨#[]⟩,.str ⟨#[]⟩,.str ⟨#[]⟩,.str ⟨#[]⟩,.str ⟨#[]⟩,.str ⟨#[]⟩,.str ⟨#[]⟩,.str ⟨#[]⟩,.str ⟨#[]⟩,.str ⟨#[]⟩,.str ⟨#[]⟩,.str ⟨#[]⟩,.str ⟨#[]⟩,.str ⟨#[]⟩,.str ⟨#[]⟩,.str ⟨#[]⟩,.str ⟨#[]⟩,.str ⟨#[]⟩,.str ⟨#[]⟩,.str ⟨#[]⟩,.str ⟨#[]⟩,.str ⟨#[]⟩,.str ⟨#[]⟩,.str ⟨#[]⟩,.str ⟨#[]⟩,.str ⟨#[]⟩,.str ⟨#[]⟩,.str ⟨#[]⟩,.str ⟨#[]⟩,.str ⟨#[]⟩,.str ⟨#[]⟩]) zeroValue259 Z Z<|fun i0=>z7<|ai<|za (zw (cps:=[(0,[_]),(1,[_]),(2,[_])]) (rs:=[_,_,_]) cF Z Z Z)<|za (zw (cps:=[(0,[_]),(1,[_]),(2,[_])]) (rs:=[_,_,_]) cF Z Z Z)<|za (zw (cps:=[(0,[_]),(1,[_]),(2,[_])]) (rs:=[_,_,_]) cF Z Z Z)<|za (zw (cps:=[(0,[_]),(1,[_]),(2,[_])]) (rs:=[_,_,_]) cF Z Z Z)<|za (zw (cps:=[(0,[_]),(1,[_]),(2,[_])]) (rs:=[_,_,_]) cF Z Z Z)<|za (zw (cps:=[(0,[_]),(1,[_]),(2,[_])]) (rs:=[_,_,_]) cF Z Z Z)<|za (zw (cps:=[(0,[_]),(1,[_]),(2,[_])]) (rs:=[_,_,_]) cF Z Z Z)<|za (zw (cps:=[(0,[_]),(1,[_]),(2,[_])]) (rs:=[_,_,_]) cF Z Z Z)<|za (zw (cps:=[(0,[_]),(1,[_]),(2,[_])]) (rs:=[_,_,_]) cF Z Z Z)<|za (zw (cps:=[(0,[_]),(1,[_]),(2,[_])]) (rs:=[_,_,_]) cF Z Z Z)<|za (zw (cps:=[(0,[_]),(1,[_]),(2,[_])]) (rs:=[_,_,_]) cF Z Z Z)<|za (zw (cps:=[(0,[_]),(1,[_]),(2,[_])]) (rs:=[_,_,_]) cF Z Z Z)<|za (zw (cps:=[(0,[_]),(1,[_]),(2,[_])]) (rs:=[_,_,_]) cF Z Z Z)<|za (zw (cps:=[(0,[_]),(1,[_]),(2,[_])]) (rs:=[_,_,_]) cF Z Z Z)<|za (zw (cps:=[(0,[_]),(1,[_]),(2,[_])]) (rs:=[_,_,_]) cF Z Z Z)<|za (zw (cps:=[(0,[_]),(1,[_]),(2,[_])]) (rs:=[_,_,_]) cF Z Z Z)<|za (zw (cps:=[(0,[_]),(1,[_]),(2,[_])]) (rs:=[_,_,_]) cF Z Z Z)<|za (zw (cps:=[(0,[_]),(1,[_]),(2,[_])]) (rs:=[_,_,_]) cF Z Z Z)<|za (zw (cps:=[(0,[_]),(1,[_]),(2,[_])]) (rs:=[_,_,_]) cF Z Z Z)<|za (zw (cps:=[(0,[_]),(1,[_]),(2,[_])]) (rs:=[_,_,_]) cF Z Z Z)<|za (zw (cps:=[(0,[_]),(1,[_]),(2,[_])]) (rs:=[_,_,_]) cF Z Z Z)<|za (zw (cps:=[(0,[_]),(1,[_]),(2,[_])]) (rs:=[_,_,_]) cF Z Z Z)<|za (zw (cps:=[(0,[_]),(1,[_]),(2,[_])]) (rs:=[_,_,_]) cF Z Z Z)<|za (zw (cps:=[(0,[_]),(1,[_]),(2,[_])]) (rs:=[_,_,_]) cF Z Z Z)<|za (zw (cps:=[(0,[_]),(1,[_]),(2,[_])]) (rs:=[_,_,_]) cF Z Z Z)<|za (zw (cps:=[(0,[_]),(1,[_]),(2,[_])]) (rs:=[_,_,_]) cF Z Z Z)<|za (zw (cps:=[(0,[_]),(1,[_]),(2,[_])]) (rs:=[_,_,_]) cF Z Z Z)<|za (Gv.buildAF (xs:=[[_,_,_],[_,_,_],[_,_,_],[_,_,_],[_,_,_],[_,_,_],[_,_,_],[_,_,_],[_,_,_],[_,_,_],[_,_,_],[_,_,_],[_,_,_],[_,_,_],[_,_,_],[_,_,_],[_,_,_],[_,_,_],[_,_,_],[_,_,_],[_,_,_],[_,_,_],[_,_,_],[_,_,_],[_,_,_],[_,_,_],[_,_,_]]) DX Z Z Z Z)<|zm sizeOf259 Z Z Z Z Z Z .head Z<|z7<|zg<|dh.c1 Z ⟨_,.head⟩ isAgg259 sizeOf259 Z ?_
 rfl
theorem oN {op:Int} (h:mR op=false):bv op=(⟨#[]⟩,⟨#[]⟩,⟨#[]⟩):=by
 unfold mR at h
 unfold bv
 split
 ·rename_i h0
  have:¬op<27:=by simpa [h0] using h
  rw[List.getElem?_eq_none (by show 27≤_;omega)];rfl
 ·rfl
theorem Az {op:Int} (h:mR op=true):∃j:Nat,op=(j:Int)∧j<27∧((em.flatMap mS).drop (j*3)).take 3=mS (bv op):=by
 unfold mR at h
 simp at h
 obtain ⟨j,rfl⟩:∃j:Nat,op=j:=⟨op.toNat,by omega⟩
 have hj:j<27:=by omega
 refine ⟨j,Z,hj,rO (enc:=mS) (k:=3) (fun _=>Z) _ _ ?_⟩
 unfold bv
 rw[if_pos h.1,Int.toNat_natCast,q2 (show j<em.length from hj)];rfl
theorem kW (op:Int):aT prog E 152 [.int .i64 op] (.agg (mS (bv op))):=by
 refine zo func152 Z (by decide) Z<|ai<|zp (cs:=[.str ⟨#[]⟩,.str ⟨#[]⟩,.str ⟨#[]⟩]) zeroValue220 Z Z<|fun i2=>z7<|zb<|ai<|aa Z<|ze (Ay _) Z<|aH Z<|z7<|zu Z (fun c=>?_) (fun c=>?_)
 ·have c:mR op=false:=by simpa using c
  rw[oN c]
  refine ai<|za (zw (cps:=[]) (rs:=[.str ⟨#[]⟩,.str ⟨#[]⟩,.str ⟨#[]⟩]) cF Z Z Z)<|zm sizeOf220 Z Z Z Z Z Z .head Z<|z7<|zg<|dh.c1 Z ⟨_,.head⟩ isAgg220 sizeOf220 Z ?_
  rfl
 ·have c:mR op=true:=by simpa using c
  obtain ⟨j,hj1,hj2,hj3⟩:=Az c
  refine zf<|ai<|ze (qo) Z<|aa Z<|za (Gv.indexA underlying259 isAgg220 sizeOf220 Z Z hj1 hj2 hj3)<|zm sizeOf220 Z Z Z Z Z Z .head Z<|z7<|zg<|dh.c1 Z ⟨_,.head⟩ isAgg220 sizeOf220 Z ?_
  rfl
theorem vJ (op:Int):aT prog E 150 [.int .i64 op] (.str (bv op).1):=by
 refine zo func150 Z (by decide) Z<|ai<|za (Gv.assign (v:=.str _) Z)<|z7<|ai<|aa Z<|ze (kW _) Z<|za (Gv.field1 (v:=.str _) underlying220 Z Z1 Z Z)<|za (Gv.assign (v:=.str _) Z)<|z7<|zg<|zi (x:=.str _) Z ?_
 rfl
def ly (op:Int):Bool:=decide (op=0)||decide (op=25)
theorem d5 (op:Int):aT prog E 151 [.int .i64 op] (.bool (ly op)):=by
 refine zo func151 Z (by decide) Z<|ai<|ad Z<|z7<|ai<|aa Z<|aq Z Z<|aj Z<|zk (s:=5) Z (fun c2=>?_) (fun c2=>?_)
 ·refine z6 Z Z c2<|z6 Z Z c2<|ak Z c2 Z<|ad Z<|z7<|zg<|zi (x:=.bool _) Z ?_
  simp_all[ly]
 ·refine z8 Z Z c2<|aa Z<|z8 Z Z c2<|aq Z Z<|al Z c2 Z<|ad Z<|z7<|zg<|zi (x:=.bool _) Z ?_
  simp_all[ly]
def cQ (c:Int):Int:=if c=98 then 1 else if c=97 then 2 else 0
theorem lz (c:Int):aT prog E 153 [.int .i32 c] (.int .i64 (cQ c)):=by
 refine zo func153 Z (by decide) Z<|ai<|aw Z<|z7<|zb<|ai<|aa Z<|z7<|zh<|ai<|aq Z Z<|ad Z<|z7<|zu Z (fun c3=>?_) (fun c3=>?_)
 ·refine ai<|aw Z<|z7<|zg<|zi (x:=.int _ _) Z ?_
  simp_all[cQ]
 ·refine ai<|aq Z Z<|ad Z<|z7<|zu Z (fun c4=>?_) (fun c4=>?_)
  ·refine ai<|aw Z<|z7<|zg<|zi (x:=.int _ _) Z ?_
   simp_all[cQ]
  ·refine zf<|ai<|aw Z<|z7<|zg<|zi (x:=.int _ _) Z ?_
   simp_all[cQ]
theorem xj:∀r∈em,(∀b∈r.2.1.data.toList,b<128)∧(∀b∈r.2.2.data.toList,b<128):=by decide
theorem lA (op:Int):bv op=(⟨#[]⟩,⟨#[]⟩,⟨#[]⟩)∨bv op∈em:=by
 unfold bv
 split
 ·cases h:em[op.toNat]? with
  |none=>exact .inl rfl
  |some r=>exact .inr (qb h)
 ·exact .inl rfl
theorem lB (op:Int):(∀b∈(bv op).2.1.data.toList,b<128)∧(∀b∈(bv op).2.2.data.toList,b<128):=by
 rcases lA op with h|h
 ·rw[h];simp
 ·exact xj _ h
def bd (op:Int):List Int:=(bv op).2.1.data.toList.map fun b=>cQ b.toNat
def gl (op:Int):Int:=((bv op).2.2.data.toList.head?.map fun b=>cQ b.toNat).getD 0
def cK (op:Int):Bool:=!(bv op).2.2.data.toList.isEmpty
end
section
open Go.Proofs.Tryz
open Go.Proofs
theorem AA:di prog 182 64 1 1 [.int .i64 0]:=⟨_,underlying182,sizeOf64,zeroValue64,by decide,by decide,by kernel_rfl⟩
variable {E:World}
set_option maxRecDepth 20000
structure iU where
 name:ByteArray
 ty:Int
deriving DecidableEq
structure bM where
 dst:Int
 args:List Int
 from_:List Int
deriving DecidableEq
structure bB where
 op:Int
 dst:Int
 args:List Int
 num:Int
deriving DecidableEq
structure b9 where
 kind:Int
 var:Int
 to0:Int
 to1:Int
deriving DecidableEq
structure az where
 name:ByteArray
 phis:List bM
 insts:List bB
 term:b9
deriving DecidableEq
structure ae where
 vars:List iU
 params:List Int
 blocks:List az
deriving DecidableEq
def bh (x:Int):List AV:=[.int .i64 x]
def ba (v:iU):List AV:=[.str v.name,.int .i64 v.ty]
def aL (p:bM):List AV:=[.int .i64 p.dst,.fro 1 (p.args.map bh),.fro 1 (p.from_.map bh)]
def aZ (x:bB):List AV:=[.int .i64 x.op,.int .i64 x.dst,.fro 1 (x.args.map bh),.int .i64 x.num]
def kX (t:b9):List AV:=[.int .i64 t.kind,.int .i64 t.var,.int .i64 t.to0,.int .i64 t.to1]
def aE (b:az):List AV:=[.str b.name,.fro 3 (b.phis.map aL),.fro 4 (b.insts.map aZ),.int .i64 b.term.kind,.int .i64 b.term.var,.int .i64 b.term.to0,.int .i64 b.term.to1]
def bC (f:ae):List AV:=[.fro 2 (f.vars.map ba),.fro 1 (f.params.map bh),.fro 7 (f.blocks.map aE)]
theorem lC (op:Int):aT prog E 115 [.int .i64 op] (.fro 1 ((bd op).map bh)):=by
 obtain ⟨hasc,_⟩:=lB op
 have hl:(bd op).length=(bv op).2.1.size:=by unfold bd;rw[q9];exact Array.length_toList
 have hlen:(bd op).length≤3:=by
  rcases lA op with h|h
  ·unfold bd;rw[h];decide
  ·have:∀r∈em,r.2.1.data.toList.length≤3:=by decide
   have:=this _ h
   unfold bd;simpa using this
 refine zo func115 Z (by decide) Z<|ai<|za (nc Z)<|z7<|ai<|za (nc Z)<|z7<|iT (t:=3) (k:=1) (T:=64) Z<|fun i3=>zb<|ai<|aa Z<|ze (kW _) Z<|za (Gv.field1 (v:=.str _) underlying220 Z Z1 Z Z)<|ao.rangeT jv Z<|fun i9=>z7<|zh<|y7 (γ:=Nat × Nat) [9] (fun g=>[(3,.own g.2 g.1)]) (fun g=>[(i9,.iter (bv op).2.1 g.1),(g.2,.grow 1 64 (((bd op).take g.1).map bh).flatten)]) (fun g=>g.1≤(bd op).length) (fun g=>(bd op).length - g.1) (0,i3) aV aU (q5 _) ?_
 rintro ⟨p,i⟩ hp
 try dsimp only at *
 try simp only at hp
 by_cases hlt:p<(bd op).length
 ·have hb:p<(bv op).2.1.data.toList.length:=by rw[hl] at hlt;exact hlt
  have hg:(bv op).2.1.data[p]?=some (bv op).2.1.data.toList[p]:=by rw[Array.getElem_toList];exact Array.getElem?_eq_getElem hb
  refine ai<|ao.nextA Z hg (hasc _ (q6 hb)) .head<|za (w9 Z Z)<|z7<|zb<|yi Z Z ?_
  have ht:(bd op).take (p+1)=(bd op).take p++[cQ ((bv op).2.1.data.toList[p]).toNat]:=by
   rw[q3 hlt]
   have:(bd op)[p]=cQ ((bv op).2.1.data.toList[p]).toNat:=List.getElem_map _
   rw[this]
  refine zf<|zh<|ai<|za (xi Z Z)<|aw Z<|z7<|bg<|za (iL Z)<|aa Z<|ze (lz _) Z<|y8 (rows:=[[_]]) AA Z Z Z Z Z<|zr (k:=1) underlying182 type64 Z Z Z Z Z (fun _=>.t1) (by rw[bW (k:=1) (fun _=>rfl),qc,Nat.min_eq_left hp]) (by decide) Z (by show (_+_)*8≤_;simp<;>omega) (by simp<;>omega)<|fun i17=>za (mQ Z)<|z7 ?_
  exact ⟨(p+1,i17),aV,aV,⟨_,(.refl _),by rw[←dB ht];rfl⟩,hlt,by simp only;omega⟩
 ·refine ai<|ao.nextTover Z .head (by rw[←hl];exact hlt)<|za (w9 Z Z)<|z7<|zb<|yd Z Z ?_
  have hkn:p=(bd op).length:=by omega
  subst hkn
  rw[q7]
  refine zy<|ai<|za (iL Z)<|za (mQ Z)<|z7<|zg ?_
  repeat (first|refine ft ?_|refine d8 ?_)
  refine bc.fin (bc.know (t:=2) (rows:=(bd op).map bh) Z .t1 (by first|(intro r hr;obtain ⟨x,_,rfl⟩:=List.mem_map.1 hr;rfl)|simp[bh,ba,aL,aZ,aE]) (by decide) (by simp))<|zi (x:=.fro _ _) Z ?_
  rfl
theorem lD (op:Int):aT prog E 116 [.int .i64 op] (.tup [.int .i64 (gl op),.bool (cK op)]):=by
 obtain ⟨_,hasc⟩:=lB op
 refine zo func116 Z (by decide) Z<|ai<|aw Z<|ad Z<|z7<|zb<|ai<|aa Z<|ze (kW _) Z<|za (Gv.field1 (v:=.str _) underlying220 Z Z1 Z Z)<|ao.rangeT jv Z<|fun i9=>z7<|zh<|y7 (γ:=Unit) [9] (fun g=>[]) (fun g=>[(i9,.iter (bv op).2.2 0)]) (fun g=>True) (fun g=>0) () trivial aU (trivial) ?_
 rintro _ _
 by_cases hlt:∃c0 tl,(bv op).2.2.data.toList=c0::tl
 ·obtain ⟨c0,tl,hk⟩:=hlt
  have hg:(bv op).2.2.data[0]?=some c0:=by rw[←Array.getElem?_toList,hk];rfl
  refine ai<|ao.nextA Z hg (hasc _ (by rw[hk];exact .head _)) .head<|za (w9 Z Z)<|z7<|zb<|yi Z Z<|zf<|zh<|ai<|za (xi Z Z)<|aw Z<|z7<|ai<|aa Z<|ze (lz _) Z<|aw Z<|ad Z<|z7<|zg<|dh.t2 (x:=.int _ _) (y:=.bool _) Z Z ?_
  unfold gl cK;rw[hk];rfl
 ·have hk:(bv op).2.2.data.toList=[]:=by
   cases h:(bv op).2.2.data.toList with
   |nil=>rfl
   |cons x l=>exact absurd ⟨x,l,h⟩ hlt
  refine ai<|ao.nextTover Z .head (by show ¬0<(bv op).2.2.data.size;rw[←Array.length_toList,hk];decide)<|za (w9 Z Z)<|z7<|zb<|yd Z Z<|zy<|ai<|aw Z<|ad Z<|z7<|zg<|dh.t2 (x:=.int _ _) (y:=.bool _) Z Z ?_
  unfold gl cK;rw[hk];rfl
def bf (f:ae) (v:Int):Bool:=decide (0≤v)&&decide (v<f.vars.length)
def cW (f:ae) (b:Int):Bool:=decide (0≤b)&&decide (b<f.blocks.length)
theorem gm (f:ae) (v:Int):aT prog E 146 [.agg (bC f),.int .i64 v] (.bool (bf f v)):=by
 refine zo func146 Z (by decide) Z<|ai<|y9 (cs:=_) Z Z Z<|ad Z<|z7<|ai<|aa Z<|za (Gv.geq Z Z)<|aj Z<|zk (s:=7) Z (fun c1=>?_) (fun c1=>?_)
 ·refine z8 Z Z c1<|aa Z<|z8 Z Z c1<|ap j6 Z Za Z Z<|z8 Z Z c1<|aP Zi Z<|z8 Z Z c1<|ac jk Z<|z8 Z Z c1<|ay Z Z<|ak Z c1 Z<|ad Z<|z7<|zg<|zi (x:=.bool _) Z ?_
  simp_all[bf]<;>omega
 ·refine z6 Z Z c1<|z6 Z Z c1<|z6 Z Z c1<|z6 Z Z c1<|z6 Z Z c1<|al Z c1 Z<|ad Z<|z7<|zg<|zi (x:=.bool _) Z ?_
  simp_all[bf]<;>omega
theorem kY (f:ae) (v:Int):aT prog E 149 [.agg (bC f),.int .i64 v] (.bool (cW f v)):=by
 refine zo func149 Z (by decide) Z<|ai<|y9 (cs:=_) Z Z Z<|ad Z<|z7<|ai<|aa Z<|za (Gv.geq Z Z)<|aj Z<|zk (s:=7) Z (fun c2=>?_) (fun c2=>?_)
 ·refine z8 Z Z c2<|aa Z<|z8 Z Z c2<|ap j6 Z ji Z Z<|z8 Z Z c2<|aP js Z<|z8 Z Z c2<|ac ja Z<|z8 Z Z c2<|ay Z Z<|ak Z c2 Z<|ad Z<|z7<|zg<|zi (x:=.bool _) Z ?_
  simp_all[cW]<;>omega
 ·refine z6 Z Z c2<|z6 Z Z c2<|z6 Z Z c2<|z6 Z Z c2<|z6 Z Z c2<|al Z c2 Z<|ad Z<|z7<|zg<|zi (x:=.bool _) Z ?_
  simp_all[cW]<;>omega
def cA {α:Type} (p:α→Bool):List α→Nat→Int
 |[],_=>-1
 |x::xs,k=>if p x then k else cA p xs (k+1)
theorem eC {α:Type} (p:α→Bool):∀(xs:List α) (k:Nat),decide (0≤cA p xs k)=xs.any p
 |[],k=>rfl
 |x::xs,k=>by
  unfold cA
  rw[List.any_cons]
  split
  ·rename_i h;rw[h];simp
  ·rename_i h;simp[h,eC p xs (k+1)]
theorem bN {α:Type} (p:α→Bool):∀(xs:List α) (k:Nat),k≤xs.length→(xs.take k).all (fun x=>!p x)=true→cA p xs 0=cA p (xs.drop k) k
 |_,0,_,_=>rfl
 |xs,k+1,h,hall=>by
  rw[q3 (by omega),List.all_append] at hall
  simp only[qg,List.all_cons,List.all_nil,Bool.and_true] at hall
  rw[bN p xs k (by omega) hall.1,List.drop_eq_getElem_cons (by omega)]
  rw[cA]
  rw[if_neg (by simpa using hall.2)]
theorem kJ {p:Int→Bool} {fn:FuncId} {c:List AV} (xs:List Int) (hl:xs.length≤281474976710656) (hp:∀x,aT prog E fn ([.int .i64 x]++c) (.bool (p x))) :
  aT prog E 132 [.fro 1 (xs.map bh),.fn fn [] c] (.int .i64 (cA p xs 0)):=by
 refine zo func132 Z (by decide) Z<|ai<|aw Z<|z7<|zb<|ai<|aX Z<|ac j4 Z<|aa Z<|z7<|zh<|y7 (γ:=Nat) [0,1,7] (fun k=>[(8,.int .i64 k)]) (fun k=>[]) (fun k=>k≤xs.length∧(xs.take k).all (fun x=>!p x)) (fun k=>xs.length - k) 0 aV aU (⟨q5 _,Z⟩) ?_
 rintro k ⟨hk,hall⟩
 refine ai<|ay Z Z<|z7<|zb<|zt Z (fun ck=>?_) (fun ck=>?_)
 ·have hk2:k<xs.length:=by omega
  refine zf<|zb<|zh<|ai<|aa Z<|aw Z<|z7<|ai<|za (yx (v:=.fn _ _ _) Z)<|aX Z<|aa Z<|za (yk j4 j9 Z Z Z (q2 (by omega)))<|aF jf Z<|ao.callVP Z (hp _) Z<|z7<|zu Z (fun cp=>?_) (fun cp=>?_)
  ·refine ai<|aa Z<|aw Z<|z7<|zg<|zi (x:=.int _ _) Z ?_
   rw[bN p xs k hk hall,List.drop_eq_getElem_cons hk2,cA,if_pos cp]
  ·refine zf<|bg<|aB Z Z<|aa Z<|z7 ?_
   exact ⟨k+1,oE,aV,aU,⟨hk2,by rw[q3 hk2,List.all_append,hall];simp[cp]⟩,by omega⟩
 ·have hkn:k=xs.length:=by omega
  refine zy<|ai<|aw Z<|z7<|zg<|zi (x:=.int _ _) Z ?_
  rw[bN p xs k hk hall,hkn,List.drop_length,cA]
theorem eG {p:Int→Bool} {fn:FuncId} {c:List AV} (xs:List Int) (hl:xs.length≤281474976710656) (hp:∀x,aT prog E fn ([.int .i64 x]++c) (.bool (p x))) :
  aT prog E 100 [.fro 1 (xs.map bh),.fn fn [] c] (.bool (xs.any p)):=by
 refine zo func100 Z (by decide) Z<|ai<|ad Z<|z7<|ai<|aX Z<|za (yx (v:=.fn _ _ _) Z)<|ze (kJ xs hl hp) Z<|za (Gv.geq Z Z)<|ad Z<|z7<|zg<|zi (x:=.bool _) Z ?_
 rw[eC]
theorem qp (f:ae) (v:Int):aT prog E 178 ([.int .i64 v]++[.pf (bC f)]) (.bool (!bf f v)):=by
 refine zo func178 Z (by decide) Z<|ai<|ad Z<|z7<|ai<|ab jh j8 Z Z<|aa Z<|ze (gm _ _) Z<|aH Z<|ad Z<|z7<|zg<|zi (x:=.bool _) Z ?_
 rfl
theorem ng (f:ae) (l:List Int) (hl:l.length≤281474976710656):aT prog E 147 [.agg (bC f),.fro 1 (l.map bh)] (.bool (l.all (bf f))):=by
 refine zo func147 Z (by decide) Z<|ai<|y9 (cs:=_) Z Z Z<|ad Z<|z7<|ai<|aX Z<|za (Gv.func Z Z)<|ze (eG l hl (qp f)) Z<|aH Z<|ad Z<|z7<|zg<|zi (x:=.bool _) Z ?_
 rw[List.any_eq_not_all_not];simp
end
section
open Go.Proofs.Tryz
def aO (t:b9):List Int:=if t.kind=0 then[t.to0] else if t.kind=1 then (if t.to0=t.to1 then[t.to0] else[t.to0,t.to1]) else[]
theorem jS (t:b9):(aO t).length≤2:=by unfold aO;split<;>(try split)<;>(try split)<;>simp
theorem oO (t:b9):(aO t).Nodup:=by
 unfold aO
 split
 ·simp
 ·split
  ·split<;>simp_all
  ·simp
def au (f:ae) (b:Int):List Int:=if 0≤b then ((f.blocks[b.toNat]?).map fun c=>aO c.term).getD [] else[]
theorem lE {f:ae} {k:Nat} (h:k<f.blocks.length):au f (k:Int)=aO f.blocks[k].term:=by
 unfold au;rw[if_pos (by omega)]
 rw[show ((k:Int).toNat)=k from rfl,q2 h];rfl
theorem hZ {f:ae} {b:Int} (h0:0≤b) (h:b.toNat<f.blocks.length):au f b=aO f.blocks[b.toNat].term:=by
 unfold au;rw[if_pos h0,q2 h];rfl
theorem qq {f:ae} {b:Int} (h:¬(0≤b∧b<f.blocks.length)):au f b=[]:=by
 unfold au
 split
 ·rw[List.getElem?_eq_none (by omega)];rfl
 ·rfl
theorem lF (f:ae) (b:Int):(au f b).length≤2:=by
 unfold au
 split
 ·cases f.blocks[b.toNat]? with
  |none=>simp
  |some c=>exact jS c.term
 ·simp
theorem cf (f:ae) (b:Int):(au f b).Nodup:=by
 unfold au
 split
 ·cases f.blocks[b.toNat]? with
  |none=>simp
  |some c=>exact oO c.term
 ·simp
structure bk (f:ae):Prop where
 pos:0<f.blocks.length
 rng:∀b∈f.blocks,∀c∈aO b.term,0≤c∧c<f.blocks.length
theorem bk.grph {f:ae} (h:bk f):nJ (au f) f.blocks.length:=
 {npos:=h.pos
  rng:=fun b h0 h1 c hc=>by
   rw[hZ h0 (by omega)] at hc
   exact h.rng _ (q6 (by omega)) c hc
  len:=lF f
  out:=fun _ hx=>qq hx }
theorem cR {E:Int→List Int} (hn:∀b,(E b).Nodup) (n:Nat) (b:Int):(bn E n b).Nodup∧(bn E n b).Pairwise (·<·):=by
 have key:(bn E n b).Pairwise (·<·):=by
  unfold bn
  rw[List.flatMap,List.pairwise_flatten]
  constructor
  ·intro l hl
   obtain ⟨i,_,rfl⟩:=List.mem_map.1 hl
   have h1:=hn i
   have h2:((E i).filter fun c=>decide (c=b)).length≤1:=by
    generalize E i=l at h1
    induction l with
    |nil=>simp
    |cons x l ih=>
     rw[List.nodup_cons] at h1
     rw[List.filter_cons]
     split
     ·rename_i hx
      have hx:x=b:=by simpa using hx
      have:l.filter (fun c=>decide (c=b))=[]:=List.filter_eq_nil_iff.2 fun y hy=>by
       intro e
       have:y=b:=by simpa using e
       rw[←hx] at this
       exact h1.1 (this▸hy)
      rw[this];simp
     ·exact ih h1.2
   match h3:((E i).filter fun c=>decide (c=b)) with
   |[]=>simp
   |[x]=>simp
   |x::y::r=>rw[h3] at h2;simp at h2
  ·rw[List.pairwise_map]
   unfold cV
   rw[List.pairwise_map]
   refine List.Pairwise.imp ?_ List.pairwise_lt_range
   intro i j hij x hx y hy
   obtain ⟨_,_,rfl⟩:=List.mem_map.1 hx
   obtain ⟨_,_,rfl⟩:=List.mem_map.1 hy
   exact Int.ofNat_lt.2 hij
 exact ⟨key.imp fun h e=>by omega,key⟩
def eH (E:Int→List Int) (a shut b:Int):Prop:=a≠shut∧∃c,c∈E a∧iN E (fun x=>x≠shut) c b
theorem eH.step {E:Int→List Int} {a shut x y:Int} (h:(x=a∧a≠shut)∨eH E a shut x) (he:y∈E x) (hy:y≠shut):eH E a shut y:=by
 rcases h with ⟨rfl,h⟩|⟨h,c,hc,hw⟩
 ·exact ⟨h,y,he,.refl hy⟩
 ·exact ⟨h,c,hc,.step hw he hy⟩
theorem eH.closed {E:Int→List Int} {a shut:Int} {out:Int→Prop} (hc:∀x y,x≠shut→(x=a∨out x)→y∈E x→y≠shut→out y) {b:Int} (h:eH E a shut b):out b:=by
 obtain ⟨ha,c,hc1,hw⟩:=h
 induction hw with
 |refl h1=>exact hc a c ha (.inl rfl) hc1 h1
 |step h1 h2 h3 ih=>exact hc _ _ h1.end_ (.inr ih) h2 h3
theorem xk {E:Int→List Int} {shut b:Int}:((b=0∧shut≠0)∨(b≠0∧eH E 0 shut b))↔iN E (fun x=>x≠shut) 0 b:=by
 constructor
 ·rintro (⟨rfl,h⟩|⟨_,h,c,hc,hw⟩)
  ·exact .refl (fun e=>h e.symm)
  ·exact iN.trans (.step (.refl h) hc hw.start) hw
 ·intro h
  by_cases hb:b=0
  ·exact .inl ⟨hb,fun e=>h.start e.symm⟩
  ·refine .inr ⟨hb,h.start,?_⟩
   rcases h.last with e|⟨c,hc,hw⟩
   ·exact absurd e hb
   ·exact ⟨c,hc,hw.mono fun _ h=>h.1⟩
theorem AB {E:Int→List Int} {n:Nat} (hE:nJ E n) {b:Int}:iN E (fun x=>x≠-1) 0 b↔E1 E b:=by
 constructor
 ·exact fun h=>h.mono fun _ _=>trivial
 ·intro h
  refine h.self.mono fun x hx e=>?_
  have:=bm hE.toEOk ((gJ hE.toEOk x).2 hx.2)
  omega
def eb (f:ae):Prop:=∀i (h:i<f.blocks.length),∀p∈f.blocks[i].phis,p.from_.Perm (bn (au f) f.blocks.length i)
end
section
open Go.Proofs.Tryz
def kw (l:List Int):List Int:=l.mergeSort fun x y=>decide (x≤y)
theorem eJ (l:List Int):(kw l).Perm l:=List.mergeSort_perm l _
theorem nN (l:List Int):(kw l).Pairwise (·≤·):=by
 have:=List.pairwise_mergeSort (le:=fun x y:Int=>decide (x≤y)) (fun a b c h1 h2=>by simp at *;omega) (fun a b=>by simp;omega) l
 exact this.imp fun h=>by simpa using h
theorem xl {l m:List Int} (hm:m.Pairwise (·<·)):kw l=m↔l.Perm m:=by
 constructor
 ·intro h;rw[←h];exact (eJ l).symm
 ·intro h
  exact List.Perm.eq_of_pairwise (le:=fun a b:Int=>a≤b) (fun a b _ _ h1 h2=>Int.le_antisymm h1 h2) (nN l) (hm.imp fun h=>Int.le_of_lt h) ((eJ l).trans h)
theorem lG {l m:List Int} (hn:l.Nodup) (hs:∀x∈l,x∈m) (hl:m.length≤l.length):l.Perm m:=by
 induction l generalizing m with
 |nil=>obtain rfl:m=[]:=List.eq_nil_of_length_eq_zero (by simpa using hl);exact .refl _
 |cons x l ih=>
  rw[List.nodup_cons] at hn
  have hx:=hs x (.head _)
  have h1:l.Perm (m.erase x):=ih hn.2 (fun y hy=>(List.mem_erase_of_ne (fun e=>hn.1 (by rw[←e];exact hy))).2 (hs y (.tail _ hy))) (by
   rw[List.length_erase_of_mem hx];simp at hl;omega)
  exact (List.Perm.cons x h1).trans (List.perm_cons_erase hx).symm
def rP (f:ae) (i:Nat) (l:List Int):Prop:=(bn (au f) f.blocks.length i).length=l.length∧∀k (h:k<l.length),(i:Int)∈au f l[k]∧l[k] ∉ l.take k
theorem lH {l:List Int}:l.Nodup↔∀k (h:k<l.length),l[k] ∉ l.take k:=by
 induction l with
 |nil=>simp
 |cons x l ih=>
  rw[List.nodup_cons,ih]
  constructor
  ·rintro ⟨h1,h2⟩ k hk
   cases k with
   |zero=>simp
   |succ k=>
    simp only[List.getElem_cons_succ,List.take_succ_cons,List.mem_cons,not_or]
    have hk':k<l.length:=by simpa using hk
    exact ⟨fun e=>h1 (by rw[←e];exact q6 hk'),h2 k hk'⟩
  ·intro h
   constructor
   ·intro hm
    obtain ⟨k,hk,e⟩:=List.mem_iff_getElem.1 hm
    have:=h (k+1) (by simpa using hk)
    simp[e] at this
   ·intro k hk
    have:=h (k+1) (by simpa using hk)
    simp only[List.getElem_cons_succ,List.take_succ_cons,List.mem_cons,not_or] at this
    exact this.2
theorem vK {f:ae} (hE:bk f) {i:Nat} {l:List Int}:rP f i l↔l.Perm (bn (au f) f.blocks.length i):=by
 have hg:=hE.grph
 have hp:=cR (cf f) f.blocks.length i
 unfold rP
 constructor
 ·rintro ⟨h1,h2⟩
  refine lG (lH.2 fun k hk=>(h2 k hk).2) (fun x hx=>?_) (by omega)
  obtain ⟨k,hk,rfl⟩:=List.mem_iff_getElem.1 hx
  exact (bI hg.toEOk hg.out).2 (h2 k hk).1
 ·intro h
  have hn:=h.nodup_iff.2 hp.1
  exact ⟨h.length_eq.symm,fun k hk=>⟨(bI hg.toEOk hg.out).1 (h.mem_iff.1 (q6 hk)),lH.1 hn k hk⟩⟩
theorem jT {f:ae} {i:Nat} {l:List Int}:kw l=bn (au f) f.blocks.length i↔l.Perm (bn (au f) f.blocks.length i):=xl (cR (cf f) f.blocks.length i).2
end
section
open Go.Proofs.Tryz
def iV (l:List Bool) (bs:List Int):List Bool:=bs.foldl (fun l b=>l.set b.toNat true) l
theorem gK:∀(bs:List Int) (l:List Bool),(iV l bs).length=l.length
 |[],_=>rfl
 |b::bs,l=>by show (iV (l.set b.toNat true) bs).length=_;rw[gK bs,List.length_set]
theorem qr (l:List Bool) (bs:List Int) (b:Int):iV l (bs++[b])=(iV l bs).set b.toNat true:=by unfold iV;rw[List.foldl_append];rfl
theorem nh (k:Nat):∀(bs:List Int) (l:List Bool),(∀b∈bs,0≤b)→k<l.length→(iV l bs)[k]?=some (decide ((k:Int)∈bs)||(l[k]?).getD false)
 |[],l,_,hk=>by show l[k]?=_;rw[q2 hk];simp
 |b::bs,l,h,hk=>by
  show (iV (l.set b.toNat true) bs)[k]?=_
  rw[nh k bs _ (fun c hc=>h c (.tail _ hc)) (by rw[List.length_set];exact hk),List.getElem?_set]
  have h0:=h b (.head _)
  by_cases e:b.toNat=k
  ·have:(k:Int)=b:=by omega
   rw[if_pos e,if_pos (by omega),this];simp
  ·have:¬(k:Int)=b:=by omega
   rw[if_neg e];simp[this]
def qs (E:Int→List Int) (n:Nat):List Bool:=iV (List.replicate n false) (bP E n)
theorem lI {E:Int→List Int} {n:Nat} (hE:EOk E n) {k:Nat} (hk:k<n):(qs E n)[k]?=some (decide ((k:Int)∈bP E n)):=by
 unfold qs
 rw[nh k _ _ (fun b hb=>(bm hE hb).1) (by simp;exact hk)]
 simp[hk]
def Ap (f:ae) (i:Nat) (p:bM):Bool:=decide (kw p.from_=bn (au f) f.blocks.length i)
def xm (f:ae) (i:Nat):Bool:=((f.blocks[i]?).map fun b=>b.phis.all (Ap f i)).getD true
def bZ (f:ae):Bool:=(List.range f.blocks.length).all (xm f)
theorem gL {f:ae} {i:Nat} {b:az} (h:f.blocks[i]?=some b):xm f i=b.phis.all (Ap f i):=by unfold xm;rw[h];rfl
theorem kx (f:ae):bZ f=true↔eb f:=by
 unfold bZ eb
 rw[List.all_eq_true]
 constructor
 ·intro h i hi p hp
  have:=h i (List.mem_range.2 hi)
  rw[gL (q2 hi),List.all_eq_true] at this
  exact jT.1 (by simpa [Ap] using this p hp)
 ·intro h i hi
  have hi:=List.mem_range.1 hi
  rw[gL (q2 hi),List.all_eq_true]
  intro p hp
  simpa [Ap] using jT.2 (h i hi p hp)
theorem gn {p:Nat→Bool} {k:Nat} (h:(List.range k).all p=true) (hk:p k=true):(List.range (k+1)).all p=true:=by rw[List.range_succ,List.all_append,h];simp[hk]
theorem gZ {p:Nat→Bool} {k n:Nat} (hk:k<n) (h:p k=false):(List.range n).all p=false:=by
 rw[Bool.eq_false_iff];intro ha
 have:=List.all_eq_true.1 ha k (List.mem_range.2 hk)
 rw[h] at this;cases this
end
section
open Go.Proofs.Tryz
open Go.Proofs
variable {E:World}
set_option maxRecDepth 20000
def lJ {α:Type} (l:List α):Prop:=l.length≤140737488355328
def rQ (p:bM):Prop:=lJ p.args∧lJ p.from_
def DY (b:az):Prop:=lJ b.phis∧lJ b.insts∧(∀p∈b.phis,rQ p)∧(∀x∈b.insts,lJ x.args)
def jU (f:ae):Prop:=lJ f.vars∧lJ f.params∧lJ f.blocks∧∀b∈f.blocks,DY b
theorem lJ.lt {α:Type} {l:List α} (h:lJ l):l.length≤140737488355328:=h
theorem jb {x y:Bool} (h:x=y):AV.bool x=AV.bool y:=congrArg AV.bool h
theorem CY (k:Nat):∀I v,bH I (.raw (.slice none 0 0)) v→bH I (.fro k []) v:=fun _ _ h=>⟨none,0,0,h,rfl,Nat.le_refl _,fun _=>rfl,trivial⟩
theorem CZ (a c:ByteArray) (b d:Int) (w:World):(Op.equalIn 10000 66 (.agg [.string a,.int .i64 b].toArray) (.agg [.string c,.int .i64 d].toArray)).run prog w=.ok (decide (a=c∧b=d)) w:=by
 have hS:prog.underlying 66=some (.struct (prog.fieldsOf 66)):=by kernel_rfl
 have hp:prog.stoodInHeld 66=false:=by kernel_rfl
 rw[show (10000:Nat)=9999+1 from rfl,run_equalIn_agg w 9999 _ _ _ hS hp]
 simp only[Program.fieldsOf,Z3]
 simp[Op.eqFields,part,Z1,isAgg64,run_equalIn_string,run_equalIn_int,jv,underlying64]
 have e:=ga a c
 by_cases h1:a=c
 ·subst h1;by_cases h2:b=d<;>simp[h2]
 ·have h3:¬a.toList=c.toList:=by simpa [h1] using e
  simp[h1,h3]
theorem xn (a b c d:Int) (w:World) (m:Nat):(Op.equalIn (m+2) 56 (.agg [.int .i64 a,.int .i64 b].toArray) (.agg [.int .i64 c,.int .i64 d].toArray)).run prog w=.ok (decide (a=c∧b=d)) w:=by
 rw[Op.equalIn]
 simp only[Sem.run_bind,run_underlying jg,Result.andThen_ok]
 simp only[Std.Legacy.Range.forIn_eq_forIn_range',Std.Legacy.Range.size,Nat.sub_zero,Nat.add_sub_cancel,Nat.div_one,List.range'_succ,List.range'_zero,List.forIn_cons,List.forIn_nil]
 simp[part,jf,j9,run_equalIn_int,Zq]
 by_cases h1:a=c<;>by_cases h2:b=d<;>simp[h1,h2]
theorem AC (k v t0 t1 k' v' t0' t1':Int) (w:World):(Op.equalIn 10000 58 (.agg [.int .i64 k,.int .i64 v,.int .i64 t0,.int .i64 t1].toArray) (.agg [.int .i64 k',.int .i64 v',.int .i64 t0',.int .i64 t1'].toArray)).run prog w=.ok (decide (k=k'∧v=v'∧t0=t0'∧t1=t1')) w:=by
 have hS:prog.underlying 58=some (.struct (prog.fieldsOf 58)):=by kernel_rfl
 have hp:prog.stoodInHeld 58=false:=by kernel_rfl
 rw[show (10000:Nat)=9999+1 from rfl,run_equalIn_agg w 9999 _ _ _ hS hp]
 simp only[Program.fieldsOf,j7]
 have ha:(Op.equalIn 9999 56 (.agg #[.int .i64 t0,.int .i64 t1]) (.agg #[.int .i64 t0',.int .i64 t1'])).run prog w=.ok (decide (t0=t0'∧t1=t1')) w:=xn t0 t1 t0' t1' w 9997
 simp[Op.eqFields,part,jf,Z6,isAgg56,jr,run_equalIn_int,Zq,underlying55,ha]
 by_cases h1:k=k'<;>by_cases h2:v=v'<;>by_cases h3:t0=t0'<;>by_cases h4:t1=t1'<;>simp[h1,h2,h3,h4]
theorem AD (x y:bM):decide (x=y)=(decide (x.dst=y.dst)&&decide (x.args=y.args)&&decide (x.from_=y.from_)):=by
 cases x;cases y;simp[Bool.and_assoc]
theorem xo (x y:bB):decide (x=y)=(decide (x.op=y.op)&&decide (x.dst=y.dst)&&decide (x.num=y.num)&&decide (x.args=y.args)):=by
 cases x;cases y;apply Bool.eq_iff_iff.2;simp;constructor<;>(intro h;simp_all)
theorem AE {x y:iU} (h:x.name=y.name∧x.ty=y.ty):x=y:=by
 cases x;cases y;simp_all
theorem oP (xs ys:List Int) (hl:lJ xs):aT prog E 66 [.fro 1 (xs.map bh),.fro 1 (ys.map bh)] (.bool (decide (xs=ys))):=by
 have hl:=hl.lt
 refine zo func66 Z (by decide) Z<|ai<|ad Z<|z7<|zb<|ai<|aX Z<|ac j4 Z<|aX Z<|ac j4 Z<|aG Z Z<|z7<|zu Z (fun c0=>?_) (fun c0=>?_)
 ·have h:¬xs=ys:=fun e=>by subst e;simp at c0
  refine ai<|ad Z<|z7<|zg<|zi (x:=.bool _) Z ?_
  rw[qf h]
 ·have hl2:xs.length=ys.length:=by simp at c0;omega
  refine zf<|zb<|ai<|aX Z<|ac j4 Z<|aa Z<|z7<|zh<|y7 (γ:=Nat) [0,1,12] (fun k=>[(13,.int .i64 k)]) (fun k=>[]) (fun k=>k≤xs.length∧xs.take k=ys.take k) (fun k=>xs.length - k) 0 aV aU (⟨q5 _,Z⟩) ?_
  rintro k ⟨hk,he⟩
  refine ai<|ay Z Z<|z7<|zb<|zt Z (fun ck=>?_) (fun ck=>?_)
  ·have hk2:k<xs.length:=by omega
   have hk3:k<ys.length:=by omega
   refine zf<|zb<|zh<|ai<|aa Z<|aw Z<|z7<|zb<|ya (fun j=>false) (by kernel_rfl) Z (yh (.rest _))<|aN 0 Z (Am Z)<|aN 1 Z (kq Z)<|aN 2 Z (yk j4 j9 Z Z Z (q2 (by omega)))<|aN 3 Z (mK jf Z)<|aN 4 Z (Am Z)<|aN 5 Z (kq Z)<|aN 6 Z (yk j4 j9 Z Z Z (q2 (by omega)))<|aN 7 Z (mK jf Z)<|aN 8 Z (Gv.neqI Z Z)<|kV<|zu Z (fun cd=>?_) (fun cd=>?_)
   ·refine ai<|ad Z<|z7<|zg<|zi (x:=.bool _) Z ?_
    rw[qf (CF hk2 hk3 (by simpa using cd))]
   ·refine zf<|bg<|aB Z Z<|aa Z<|z7 ?_
    exact ⟨k+1,oE,aV,aU,⟨hk2,eA hk2 hk3 he (by simpa using cd)⟩,by omega⟩
  ·refine zy<|ai<|ad Z<|z7<|zg<|zi (x:=.bool _) Z ?_
   rw[qe (eB hl2 (by omega) he)]
theorem gM (xs ys:List Int) (hl:lJ xs):aT prog E 25 [.fro 1 (xs.map bh),.fro 1 (ys.map bh)] (.bool (decide (xs=ys))):=by
 have hl:=hl.lt
 refine zo func25 Z (by decide) Z<|ai<|ad Z<|z7<|zb<|ai<|aX Z<|ac j4 Z<|aX Z<|ac j4 Z<|aG Z Z<|z7<|zu Z (fun c0=>?_) (fun c0=>?_)
 ·have h:¬xs=ys:=fun e=>by subst e;simp at c0
  refine ai<|ad Z<|z7<|zg<|zi (x:=.bool _) Z ?_
  rw[qf h]
 ·have hl2:xs.length=ys.length:=by simp at c0;omega
  refine zf<|zb<|ai<|aX Z<|ac j4 Z<|aa Z<|z7<|zh<|y7 (γ:=Nat) [0,1,12] (fun k=>[(13,.int .i64 k)]) (fun k=>[]) (fun k=>k≤xs.length∧xs.take k=ys.take k) (fun k=>xs.length - k) 0 aV aU (⟨q5 _,Z⟩) ?_
  rintro k ⟨hk,he⟩
  refine ai<|ay Z Z<|z7<|zb<|zt Z (fun ck=>?_) (fun ck=>?_)
  ·have hk2:k<xs.length:=by omega
   have hk3:k<ys.length:=by omega
   refine zf<|zb<|zh<|ai<|aa Z<|aw Z<|z7<|zb<|ya (fun j=>false) (by kernel_rfl) Z (yh (.rest _))<|aN 0 Z (Am Z)<|aN 1 Z (kq Z)<|aN 2 Z (yk j4 j9 Z Z Z (q2 (by omega)))<|aN 3 Z (mK jf Z)<|aN 4 Z (Am Z)<|aN 5 Z (kq Z)<|aN 6 Z (yk j4 j9 Z Z Z (q2 (by omega)))<|aN 7 Z (mK jf Z)<|aN 8 Z (Gv.neqI Z Z)<|kV<|zu Z (fun cd=>?_) (fun cd=>?_)
   ·refine ai<|ad Z<|z7<|zg<|zi (x:=.bool _) Z ?_
    rw[qf (CF hk2 hk3 (by simpa using cd))]
   ·refine zf<|bg<|aB Z Z<|aa Z<|z7 ?_
    exact ⟨k+1,oE,aV,aU,⟨hk2,eA hk2 hk3 he (by simpa using cd)⟩,by omega⟩
  ·refine zy<|ai<|ad Z<|z7<|zg<|zi (x:=.bool _) Z ?_
   rw[qe (eB hl2 (by omega) he)]
end
section
open Go.Proofs.Tryz
section
variable {E:World} {P:Program} {env:aK} {O:OL} {d ty:Nat} {pos:String} {af:Array Edge} {x y:Operand} {t u e:TypeId}
end
end
section
open Go.Proofs.Tryz
section
variable {E:World} {P:Program} {n:Nat} {l:List Oper} {W:Nat→Bool} {Q:aK→OL→Prop} {fuel:Nat} {listed:Array Bool} {env:aK} {O Os Om:OL}
theorem bz.two {i j:Nat} {o o':Oper} (hi:l[i]?=some o) (hj:l[j]?=some o') (hr:Region.ready .any l.toArray listed=[i,j])
  (h:ao P E l.toArray (fun env' Om'=>bz P E l W Q fuel (listed.setIfInBounds i true) env' Os Om') [o] env Om)
  (h':ao P E l.toArray (fun env' Om'=>bz P E l W Q fuel (listed.setIfInBounds j true) env' Os Om') [o'] env Om):bz P E l W Q (fuel+1) listed env Os Om:=fun I F ρ w Ls h1 hLs h2=>by
 have key:∀k ok,ao P E l.toArray (fun env' Om'=>bz P E l W Q fuel (listed.setIfInBounds k true) env' Os Om') [ok] env Om →
   bq P l.toArray (fun ρ' w'=>(dA I.k [] E w'∧(dk W (listed.setIfInBounds k true)∨dA I.k Ls E w'))∧bE P l.toArray (dA I.k [] E) (dA I.k Ls E) W (cO I F E Q) fuel (listed.setIfInBounds k true) ρ' w') [ok] ρ w:=fun k ok h=>
  yt (fun ρ' w' ⟨J,env',Om',a,b,c,d⟩=>by
   have hst:dA I.k Ls E w':=by
    obtain ⟨J',L',h3,h4,h5⟩:=c.here
    exact ⟨J',L',a.k.trans h3,h4,h5⟩
   refine ⟨⟨hst.less,.inr hst⟩,bE.mono ?_ ?_ (fun _ _=>cO.up a) _ _ _ _ (d J F ρ' w' Ls b (hLs.mono a) c)⟩
   ·rintro w ⟨J',L',h3,h4⟩;exact ⟨J',L',a.k.trans h3,h4⟩
   ·rintro w ⟨J',L',h3,h4⟩;exact ⟨J',L',a.k.trans h3,h4⟩) _ _ _ (h I (Ls++F) ρ w h1 h2)
 refine ⟨fun h0=>(by rw[hr] at h0;cases h0),fun k hk o2 ho2=>?_⟩
 rw[hr] at hk
 simp only[List.mem_cons,List.not_mem_nil,or_false] at hk
 rw[List.getElem?_toArray] at ho2
 rcases hk with rfl|rfl
 ·rw[hi] at ho2;cases ho2;exact key _ _ h
 ·rw[hj] at ho2;cases ho2;exact key _ _ h'
end
end
section
open Go.Proofs.Tryz
section
variable {E:World} {P:Program} {n:Nat} {l:List Oper} {W:Nat→Bool} {Q:aK→OL→Prop} {fuel:Nat} {listed:Array Bool} {env:aK} {O Os Om:OL}
theorem bz.three {i j m:Nat} {o o' o'':Oper} (hi:l[i]?=some o) (hj:l[j]?=some o') (hm:l[m]?=some o'') (hr:Region.ready .any l.toArray listed=[i,j,m])
  (h:ao P E l.toArray (fun env' Om'=>bz P E l W Q fuel (listed.setIfInBounds i true) env' Os Om') [o] env Om)
  (h':ao P E l.toArray (fun env' Om'=>bz P E l W Q fuel (listed.setIfInBounds j true) env' Os Om') [o'] env Om)
  (h'':ao P E l.toArray (fun env' Om'=>bz P E l W Q fuel (listed.setIfInBounds m true) env' Os Om') [o''] env Om):bz P E l W Q (fuel+1) listed env Os Om:=fun I F ρ w Ls h1 hLs h2=>by
 have key:∀k ok,ao P E l.toArray (fun env' Om'=>bz P E l W Q fuel (listed.setIfInBounds k true) env' Os Om') [ok] env Om →
   bq P l.toArray (fun ρ' w'=>(dA I.k [] E w'∧(dk W (listed.setIfInBounds k true)∨dA I.k Ls E w'))∧bE P l.toArray (dA I.k [] E) (dA I.k Ls E) W (cO I F E Q) fuel (listed.setIfInBounds k true) ρ' w') [ok] ρ w:=fun k ok h=>
  yt (fun ρ' w' ⟨J,env',Om',a,b,c,d⟩=>by
   have hst:dA I.k Ls E w':=by
    obtain ⟨J',L',h3,h4,h5⟩:=c.here
    exact ⟨J',L',a.k.trans h3,h4,h5⟩
   refine ⟨⟨hst.less,.inr hst⟩,bE.mono ?_ ?_ (fun _ _=>cO.up a) _ _ _ _ (d J F ρ' w' Ls b (hLs.mono a) c)⟩
   ·rintro w ⟨J',L',h3,h4⟩;exact ⟨J',L',a.k.trans h3,h4⟩
   ·rintro w ⟨J',L',h3,h4⟩;exact ⟨J',L',a.k.trans h3,h4⟩) _ _ _ (h I (Ls++F) ρ w h1 h2)
 refine ⟨fun h0=>(by rw[hr] at h0;cases h0),fun k hk o2 ho2=>?_⟩
 rw[hr] at hk
 simp only[List.mem_cons,List.not_mem_nil,or_false] at hk
 rw[List.getElem?_toArray] at ho2
 rcases hk with rfl|rfl|rfl
 ·rw[hi] at ho2;cases ho2;exact key _ _ h
 ·rw[hj] at ho2;cases ho2;exact key _ _ h'
 ·rw[hm] at ho2;cases ho2;exact key _ _ h''
end
theorem bV.know {E:World} {P:Program} {f:FuncId} {as0:List AV} {O:OL} {R R':AV→OL→Prop} (h:bV P E f as0 O R) (hr:∀I F w v x O',R x O'→bH I x v→fm I O' F E w→∃J y O'',I.le J∧bH J y v∧fm J O'' F E w∧R' y O''):bV P E f as0 O R':=fun I F w vs h1 h2=>
 (h I F w vs h1 h2).mono fun v w' ⟨J,x,O',a,b,c,d⟩=>by
  obtain ⟨K,y,O'',e1,e2,e3,e4⟩:=hr J F w' v x O' d b c
  exact ⟨K,y,O'',a.trans e1,e2,e3,e4⟩
end
section
open Go.Proofs.Tryz
theorem cS.perm {O O':OL} {i:Nat} {o:bo} (h:cS O i o O'):O.Perm ((i,o)::O'):=by
 induction h with
 |head=>exact .refl _
 |tail _ ih=>exact (ih.cons _).trans (.swap _ _ _)
section
variable {E:World} {P:Program} {f:FuncId} {as0:List AV} {O:OL}
theorem bV.exact {γ:Type} {x:γ→AV} {M:γ→OL} {p:γ→Prop} (h:bV P E f as0 O (fun y O'=>∃g,y=x g∧Left O' (M g)∧p g)):bV P E f as0 O (fun y O'=>∃g,y=x g∧O'=M g∧p g):=
 h.know fun I F w v y O' ⟨g,e,hl,hp⟩ h1 h2=>⟨I,y,M g,.refl _,h1,hl.sla h2,g,e,rfl,hp⟩
theorem bV.frozen {k m:Nat} {T:TypeId} {rows:List (List AV)} (h:bV P E f as0 [] (fun y O'=>∃i:Nat,y=.own i m∧Left O' [(i,.grow k T rows.flatten)]∧True)) (hk:∀r∈rows,r.length=k) (hk0:0<k) (hm:rows.length=m):aT P E f as0 (.fro k rows):=
 h.know fun I F w v y O' ⟨i,e,hl,_⟩ h1 h2=>by
  subst e
  obtain ⟨J,h3,h4,h5⟩:=Go.Proofs.YtjpnhkmfhlnpcaaGreatDoor.know .head hk hk0 hm (hl.sla h2)
  exact ⟨J,_,[],h3,h5 _ h1,h4,rfl⟩
end
end
section
open Go.Proofs.Tryz
open Go.ChangeShapes Go.WideShapes Go.ChangeAt Go.RowKit Go.Deep
def full (W:World):aI:=fun b=>W.heap[b]?
theorem AF (W:World):SL (full W) [] W W:=⟨rfl,rfl,rfl,fun _ _ h=>h,by simp,by simp,by simp,fun _ _ h=>h,(fun _ _ h h2=>by rw[show W.heap[_]?=some _ from h] at h2;cases h2),by simp⟩
def I0 (W:World):G:=⟨full W,fun _=>none⟩
theorem lK {W:World} {p:Addr} {v:Value} (h:W.cell? p=some v):p=⟨p.block,p.off,none⟩∧vG (full W) p.block p.off v:=by
 unfold World.cell? at h
 split at h
 ·rename_i c t f hb
  split at h
  ·cases h
  ·rename_i hs
   have:p.spot=none:=by simpa using hs
   obtain ⟨b,o,s⟩:=p
   simp only at this
   subst this
   exact ⟨rfl,⟨c,t,f,hb,h⟩⟩
 ·cases h
def d6 (P:Program) (W:World) (T:TypeId) {α:Type} (enc:α→List AV) (ok:α→Prop):Prop:=
 ∀{H:Type} (e:TypeId × Value→H) (held:Bool) (fuel:Nat) (cs:List Value) (x:DataW H × List MemPlace),DataW.trod e P W 0 (fun _=>true) held fuel T cs=some x→∃a,ok a∧RepL (I0 W) (enc a) cs
section
variable {P:Program} {W:World} {T e:TypeId}
theorem d6.int {k:IntKind} (hu:P.underlying T=some (.int k)):d6 P W T (fun x:Int=>[.int k x]) (fun x=>(Lit.int k x).wf=true):=fun _ _ _ _ _ h=>by
 obtain ⟨n,rfl,_,hw⟩:=DataW.trod_int hu h
 exact ⟨n,hw,_,_,rfl,rfl,rfl⟩
theorem d6.str (hu:P.underlying T=some .string):d6 P W T (fun x:ByteArray=>[.str x]) (fun x=>x.size≤maxLen):=fun _ _ _ _ _ h=>by
 obtain ⟨n,rfl,_,hw⟩:=DataW.trod_string hu h
 exact ⟨n,hw,_,_,rfl,rfl,rfl⟩
theorem d6.slice {α:Type} {enc:α→List AV} {ok:α→Prop} {k:Nat} (ht:P.underlying T=some (.slice e)) (he:d6 P W e enc ok) (hk:P.cellsOf e=k) (hk0:0<k) :
  d6 P W T (fun xs:List α=>[.fro k (xs.map enc)]) (fun xs=>(∀x∈xs,ok x)∧xs.length≤maxLen):=fun en held fuel cs x h=>by
 rcases open_slice ht h with ⟨rfl,_⟩|⟨a,len,cap,m,n,D,Pl,rfl,_,hl,hc,hm,_,hr⟩
 ·exact ⟨[],⟨by simp,q5 _⟩,_,_,rfl,⟨none,0,0,rfl,rfl,Nat.le_refl _,fun _=>rfl,trivial⟩,rfl⟩
 ·simp only[if_true] at hm
  have each:∀i,i<len→∃y:α,ok y∧∃vs:List Value,vs.length=k∧RepL (I0 W) (enc y) vs∧∀j (u:Value),vs[j]?=some u→W.cell? (a.add (i*k+j))=some u:=by
   intro i hi
   obtain ⟨cs,h1,h2⟩:=hr i (by omega)
   rw[hk] at h1
   obtain ⟨_,hcl,hat⟩:=World.cells?_some h1
   obtain ⟨y,hy,hrep⟩:=he en held n cs _ h2
   refine ⟨y,hy,cs,hcl,hrep,fun j u hu=>?_⟩
   have hj:j<k:=by have:=(List.getElem?_eq_some_iff.1 hu).1;omega
   have:=hat j hj
   rw[Go.Deep.add_add] at this
   rw[this,hu]
  by_cases h0:len=0
  ·subst h0
   exact ⟨[],⟨by simp,q5 _⟩,_,_,rfl,⟨some a,0,cap,rfl,rfl,q5 _,fun h=>by (cases h),trivial⟩,rfl⟩
  ·obtain ⟨y0,_⟩:=each 0 (by omega)
   have:Inhabited α:=⟨y0⟩
   obtain ⟨Y,hY⟩:=choose_lt each
   have ha:a=⟨a.block,a.off,none⟩:=by
    obtain ⟨_,vs,hvl,_,hat⟩:=hY 0 (by omega)
    have:=hat 0 _ (q2 (show 0<vs.length by omega))
    rw[Nat.zero_mul] at this
    exact (lK (by simpa [Addr.add] using this)).1
   refine ⟨(List.range len).map Y,⟨?_,by simp;omega⟩,_,_,Z,⟨some a,len,cap,Z,by simp,hl,fun h=>by (cases h),RepR.intro fun j r hj=>?_⟩,Z⟩
   ·intro x hx
    obtain ⟨i,hi,rfl⟩:=List.mem_map.1 hx
    exact (hY i (by simpa using hi)).1
   ·rw[qa,qa] at hj
    have hjl:j<len:=by
     rcases Nat.lt_or_ge j len with h|h
     ·exact h
     ·rw[List.getElem?_eq_none (by simpa using h)] at hj;cases hj
    rw[List.getElem?_range hjl] at hj
    simp only[Option.map_some,Option.some.injEq] at hj
    subst hj
    obtain ⟨_,vs,hvl,hrep,hat⟩:=hY j hjl
    refine ⟨a.block,a.off,vs,by rw[←ha],hvl,hrep,fun i u hu=>?_⟩
    have:=hat i u hu
    rw[ha,bj] at this
    have:=(lK this).2
    rw[Nat.zero_add,Nat.add_assoc];exact this
theorem RepL.fld {I:G} {cs:List Value} {e es:List AV} {o k:Nat} (h1:RepL I e ((cs.drop o).take k)) (h2:RepL I es (cs.drop (o+k))):RepL I (e++es) (cs.drop o):=by
 have:=h1.append h2
 rwa [←List.drop_drop,List.take_append_drop] at this
theorem RepL.fin {I:G} {cs:List Value} {o:Nat} (h:cs.length=o):RepL I [] (cs.drop o):=List.drop_eq_nil_of_le (by omega)
theorem d6.at {α:Type} {enc:α→List AV} {ok:α→Prop} {f:Field} {H:Type} {en:TypeId × Value→H} {held:Bool} {n o k i:Nat} {cs:List Value} {xs:List (DataW H × List MemPlace)}
  (h1:DataW.trod en P W 0 (fun _=>true) held n f.type ((cs.drop f.offset).take (P.cellsOf f.type))=xs[i]?) (hd:d6 P W f.type enc ok) (h2:i<xs.length) (ho:f.offset=o) (hk:P.cellsOf f.type=k) :
  ∃a,ok a∧RepL (I0 W) (enc a) ((cs.drop o).take k):=by
 rw[q2 h2,ho,hk] at h1
 exact hd en held n _ _ h1
theorem d6.pair {α:Type} {enc:α→List AV} {ok:α→Prop} {k:Nat} (ht:P.underlying T=some (.array 2 e)) (he:d6 P W e enc ok) (hk:P.cellsOf e=k) (hT:P.cellsOf T=k+k) :
  d6 P W T (fun x:α × α=>enc x.1++enc x.2) (fun x=>ok x.1∧ok x.2):=fun en held fuel cs x h=>by
 obtain ⟨xs,m,_,_,hl,hxl,hf⟩:=DataW.trod_array ht h
 have h0:=hf 0 (by omega)
 have h1:=hf 1 (by omega)
 rw[q2 (by omega),hk] at h0 h1
 rw[Nat.zero_mul] at h0
 rw[Nat.one_mul] at h1
 obtain ⟨a,ha,ra⟩:=he en held m _ _ h0
 obtain ⟨b,hb,rb⟩:=he en held m _ _ h1
 refine ⟨(a,b),⟨ha,hb⟩,?_⟩
 have hcl:cs.length=k+k:=by rw[hl,hT]
 have h2:(cs.drop k).take k=cs.drop k:=List.take_of_length_le (by rw[List.length_drop];omega)
 rw[h2] at rb
 have:=ra.append rb
 rw[List.drop_zero,List.take_append_drop] at this
 exact this
end
theorem lL {P:Program} {W:World} {name:String} {k:IntKind} {zs:List Int} {g:Nat} {t e:TypeId} {n:Nat}
  (hg:P.globalNamed name=some g) (hty:(P.globals[g]?).map (·.type)=some t) (ht:P.underlying t=some (.array n e)) (he:P.underlying e=some (.int k)) (hce:P.cellsOf e=1) (hct:P.cellsOf t=n)
  (h:Lib.VarReads P W name (Lib.tabData k zs)):Lib.TabIs P W name k zs:=by
 obtain ⟨g',t',cs,fuel,p,hg',ht',hvar,hd⟩:=h
 obtain rfl:=Option.some.inj (hg.symm.trans hg')
 obtain rfl:=Option.some.inj (hty.symm.trans ht')
 unfold Lib.TabIs
 rw[hvar,←Lib.cells_of_tab ht he hce hct hd]
theorem aT.call {P:Program} {W:World} {f:FuncId} {us:List AV} {vs:List Value} {r:AV} (h:aT P W f us r) (hr:RepL (I0 W) us vs) (hp:r.plain=true):Calls P f vs.toArray W fun e w'=>∃v,e=.returned v∧bH (I0 W) r v∧Below W.heap.size W w':=by
 have:=(h (I0 W) [] W vs hr ⟨⟨0,fun _ _=>rfl⟩,[],rfl,AF W⟩).2
 refine this.mono fun e w' ⟨v,he,J,x,O',hle,hx,hS,hxr⟩=>⟨v,he,?_,?_⟩
 ·subst hxr;exact AV.plain_rep hp hx
 ·obtain ⟨_,L,_,hSL⟩:=hS
  exact hSL.belowE
end
section
open Go.Proofs.Tryz
section
variable {E:World} {P:Program} {n:Nat} {env:aK} {O O' O'':OL} {i k m:Nat} {T:TypeId} {rows rows':List (List AV)}
end
section
variable {E:World} {P:Program} {f:FuncId} {us bs:List AV} {r:AV}
end
section
variable {E:World} {P:Program} {n:Nat} {ops:Array Oper} {K:aK→OL→Prop} {env:aK} {O O':OL} {rest:List Oper}
variable {d ty:Nat} {pos:String} {af:Array Edge} {t e:TypeId} {x y:Operand} {L:List (Nat × Obj)}
end
end
section
open Go.Proofs.Tryz
section
variable {E:World} {P:Program} {n:Nat} {ops:Array Oper} {K:aK→OL→Prop} {env:aK} {O O':OL} {rest:List Oper}
variable {d ty:Nat} {pos:String} {af:Array Edge} {t e:TypeId} {x y:Operand}
end
end
section
open Go.Proofs.Tryz
def f8 (s:ByteArray):List (ByteArray × Int)→Option Int
 |[]=>none
 |(k,v)::es=>if s=k then some v else f8 s es
def kK (s:ByteArray) (v:Int):List (ByteArray × Int)→List (ByteArray × Int)
 |[]=>[(s,v)]
 |(k,u)::es=>if s=k then (k,v)::es else (k,u)::kK s v es
def ky (p:ByteArray × Int):Value × Value:=(.string p.1,.int .i64 p.2)
def E7 (b:Nat) (es:List (ByteArray × Int)) (L:List (Nat × Obj)):Prop:=∃(arr:Array MapEntry) (clock:Nat),L=[(b,.map arr clock)]∧arr.toList.map (fun e=>(e.key,e.val))=es.map ky
def vL (b:Nat) (es:List (ByteArray × Int)):bo:=.heap (E7 b es)
def vM (b:Nat):AV:=.raw (.map (some b))
theorem fK {s:ByteArray}:∀{l:List MapEntry} {es:List (ByteArray × Int)} {i:Nat},l.map (fun e=>(e.key,e.val))=es.map ky→f8 s es=none→Instr.findNow .string (.string s) l i=some none
 |[],[],_,_,_=>rfl
 |[],_::_,_,h,_=>by cases h
 |_::_,[],_,h,_=>by cases h
 |e::l,(k,v)::es,i,h,hg=>by
  simp only[List.map_cons,List.cons.injEq,ky,Prod.mk.injEq] at h
  obtain ⟨⟨h1,_⟩,h2⟩:=h
  simp only[f8] at hg
  split at hg
  ·cases hg
  ·rename_i hne
   unfold Instr.findNow
   rw[h1]
   have:(s == k)=false:=Bool.eq_false_iff.2 fun h=>hne ((MapKept.bytes_beq s k).1 h)
   simp only[Instr.sameNow,this]
   exact fK h2 hg
theorem fL {s:ByteArray} {u:Int}:∀{l:List MapEntry} {es:List (ByteArray × Int)} {i:Nat},l.map (fun e=>(e.key,e.val))=es.map ky→f8 s es=some u →
  ∃j,Instr.findNow .string (.string s) l i=some (some (i+j,.int .i64 u))∧(∃e,l[j]?=some e∧e.key=.string s)∧∀v,es.set j (s,v)=kK s v es
 |[],[],_,_,hg=>by cases hg
 |[],_::_,_,h,_=>by cases h
 |_::_,[],_,h,_=>by cases h
 |e::l,(k,v)::es,i,h,hg=>by
  simp only[List.map_cons,List.cons.injEq,ky,Prod.mk.injEq] at h
  obtain ⟨⟨h1,h3⟩,h2⟩:=h
  simp only[f8] at hg
  unfold Instr.findNow
  rw[h1]
  split at hg
  ·rename_i heq
   subst heq
   cases hg
   refine ⟨0,?_,⟨e,Z,h1⟩,fun v=>?_⟩
   ·have hss:(s == s)=true:=(MapKept.bytes_beq s s).2 rfl
    simp only[Instr.sameNow,hss]
    rw[h3];rfl
   ·simp[kK]
  ·rename_i hne
   have hb:(s == k)=false:=Bool.eq_false_iff.2 fun h=>hne ((MapKept.bytes_beq s k).1 h)
   obtain ⟨j,g1,g2,g3⟩:=fL (i:=i+1) h2 hg
   refine ⟨j+1,?_,by simpa using g2,fun v=>?_⟩
   ·simp only[Instr.sameNow,hb,g1]
    congr 3;omega
   ·simp[kK,hne,g3]
section
variable {E:World} {P:Program} {n:Nat} {ops:Array Oper} {K:aK→OL→Prop} {env:aK} {O O':OL} {rest:List Oper}
variable {d ty:Nat} {pos:String} {af:Array Edge} {t e kt:TypeId} {x y z:Operand} {b i:Nat} {es:List (ByteArray × Int)}
theorem ao.makeMap (k:∀b,ao P E ops K rest (bl env d (vM b)) ((0,vL b [])::O)):ao P E ops K (Oper.mk (some d) (.makeMap t none) ty pos af none::rest) env O:=fun I F ρ w h1 ⟨ht,L,hL,hS⟩=>by
 refine bq.step Z ?_
 unfold dz
 have:(execOp (Go.Proofs.YtjpnhkmfhlnpcaaGreatDoor.ev ρ) (Oper.mk (some d) (.makeMap t none) ty pos af none)).run P w=.ok (.value (.map (some w.heap.size))) (w.alloc (.map #[] 0)):=by
  simp only[execOp,Option.map_none]
  rw[Sem.run_bind,run_makeMap_plain];rfl
 rw[this]
 exact k w.heap.size I F _ _ (h1.upd d rfl) ⟨ht,(w.heap.size,.map #[] 0)::L,⟨[_],L,rfl,⟨#[],0,rfl,rfl⟩,hL⟩,hS.alloc _⟩
theorem C0 {I:G} {L:List (Nat × Obj)} (hO:oD O i (vL b es)) (hL:bA I O L):∃(arr:Array MapEntry) (clock:Nat),(b,Obj.map arr clock)∈L∧arr.toList.map (fun e=>(e.key,e.val))=es.map ky:=by
 obtain ⟨O',hO⟩:=hO
 obtain ⟨A,B,hp,⟨arr,clock,rfl,h2⟩,_⟩:=hO.rep hL
 exact ⟨arr,clock,hp.mem_iff.2 (by simp),h2⟩
theorem ao.mapSet {s:ByteArray} {v:Int} (ht:P.underlying t=some (.map kt e)) (hk:P.underlying kt=some .string) (hx:aW env x=vM b) (hy:aW env y=.str s) (hz:aW env z=.int .i64 v) (hO:fe O i (vL b es) (vL b (kK s v es)) O')
  (k:ao P E ops K rest env O'):ao P E ops K (Oper.mk none (.mapUpdate t x y z) ty pos af none::rest) env O:=fun I F ρ w h1 ⟨htop,L,hL,hS⟩=>by
 have hx:=m9 h1 hx
 have hy:=As h1 hy
 have hz:=gW h1 hz
 obtain ⟨A,B,hp,⟨arr,clock,rfl,he⟩,hback⟩:=hO.rep hL
 have hS2:SL I.k ((b,.map arr clock)::(B++F)) E w:=hS.perm ((hp.append_right F).symm)
 have hb:=hS2.own _ (.head _)
 simp only at hb
 have hc:(Instr.checkKey false 10000 kt (.string s)).run P w=.ok () w:=MapKept.run_checkKey (k:=.string s) hk (by simp[MapKept.IsKey]) false 9999
 have fin:∀(arr':Array MapEntry) (clock':Nat),arr'.toList.map (fun e=>(e.key,e.val))=(kK s v es).map ky →
   (execOp (Go.Proofs.YtjpnhkmfhlnpcaaGreatDoor.ev ρ) (Oper.mk none (.mapUpdate t x y z) ty pos af none)).run P w=.ok .skip { w with heap:=w.heap.setIfInBounds b (.map arr' clock') }→bq P ops (cO I F E K) (Oper.mk none (.mapUpdate t x y z) ty pos af none::rest) ρ w:=fun arr' clock' he' hrun=>by
  refine bq.step Z ?_
  unfold dz
  rw[hrun]
  obtain ⟨L',h7,h8⟩:=hback (G.le.refl I) (A':=[(b,.map arr' clock')]) ⟨arr',clock',rfl,he'⟩
  have hh:=MapKept.heap_set (o':=.map arr' clock') hb
  have hS3:SL I.k ((b,.map arr' clock')::(B++F)) E { w with heap:=w.heap.setIfInBounds b (.map arr' clock') }:=hS2.turn rfl rfl rfl hh.1 hh.2
  exact k I F ρ _ h1 ⟨htop,L',h7,hS3.perm (h8.append_right F)⟩
 cases hg:f8 s es with
 |none=>
  have hf:=fK (i:=0) he hg
  refine fin (arr.push { key:=.string s,val:=.int .i64 v,born:=clock }) (clock+1) ?_ ?_
  ·have hset:∀es:List (ByteArray × Int),f8 s es=none→kK s v es=es++[(s,v)]:=fun es=>by
    induction es with
    |nil=>intro _;rfl
    |cons x es ih=>
     obtain ⟨k,u⟩:=x
     intro hg
     simp only[f8] at hg
     split at hg
     ·cases hg
     ·rename_i hne;simp[kK,hne,ih hg]
   rw[hset es hg]
   simp[he,ky]
  ·simp[execOp,hx,hy,hz,Instr.mapUpdate,run_underlying ht,MapKept.run_getObj_map hb,hc,MapKept.run_findKey hk hf,MapKept.run_setObj_map _ hb,Result.andThen]
 |some u=>
  obtain ⟨j,hf,⟨e0,hj,hkey⟩,hset⟩:=fL (i:=0) he hg
  rw[Nat.zero_add] at hf
  have hj':arr[j]?=some e0:=by rw[←Array.getElem?_toList];exact hj
  refine fin (arr.modify j fun e=>{ e with key:=.string s,val:=.int .i64 v }) clock ?_ ?_
  ·rw[←hset v,List.map_set]
   have hjl:j<arr.toList.length:=(List.getElem?_eq_some_iff.1 hj).1
   have:(arr.modify j fun e=>{ e with key:=.string s,val:=.int .i64 v }).toList=arr.toList.set j { e0 with key:=.string s,val:=.int .i64 v }:=by
    apply List.ext_getElem?
    intro q
    rw[Array.getElem?_toList,Array.getElem?_modify]
    by_cases hq:j=q
    ·subst hq
     rw[if_pos rfl,hj',List.getElem?_set_self hjl];rfl
    ·rw[if_neg hq,List.getElem?_set_ne hq,Array.getElem?_toList]
   rw[this,List.map_set,he];rfl
  ·have hkeep:(Instr.keyThatStays (.string s) (.string s)).run P w=.ok (.string s) w:=by
    have hss:(s == s)=true:=(MapKept.bytes_beq s s).2 rfl
    simp[Instr.keyThatStays,Instr.sameBits,hss]
   simp[execOp,hx,hy,hz,Instr.mapUpdate,run_underlying ht,MapKept.run_getObj_map hb,hc,MapKept.run_findKey hk hf,MapKept.run_setObj_map _ hb,Result.andThen,hj',hkey,hkeep]
end
end
section
open Go.Proofs.Tryz
section
variable {E:World} {P:Program} {n:Nat} {ops:Array Oper} {K:aK→OL→Prop} {env:aK} {O O':OL} {rest:List Oper} {R:AV→OL→Prop}
variable {d ty:Nat} {pos:String} {af:Array Edge} {t e:TypeId} {x y:Operand}
theorem dh.c1t {t u T i:Nat} {T':TypeId} {cs:List AV} {n:Nat} {y:AV} (hv:env t=.po i 0) (hu:env u=y) (hO:oD O i (.cells T' cs)) (ha:∀w,(isAgg T).run P w=.ok true w) (hs:∀w,(sizeOf T).run P w=.ok n w) (hn:cs.length=n) (h:R (.tup [.agg cs,y]) O) :
  dh P E #[.cell t T,.tmp u] R .ret env O:=dh.of (x:=.tup [.agg cs,y]) (fun I F ρ w h1 h2=>by
 obtain ⟨L,hL,hS⟩:=h2.2
 have h3:=h1 t
 rw[hv] at h3
 obtain ⟨b,c,e1,e⟩:=h3
 obtain ⟨b',c',vs,e2,h4,hm⟩:=hO.cells hL
 rw[e1] at e2;cases e2
 have hl:=el (P:=P) (w:=w) (b:=b) (off:=0) ha (cs:=vs) (by rw[h4.length,hn];exact hs) (fun j v hj=>by
  rw[Nat.zero_add]
  exact hS.at_ (.inr ⟨_,_,_,List.mem_append_left _ hm,by rw[List.getElem?_toArray];exact hj⟩))
 exact ⟨.tuple #[.agg vs.toArray,ρ u],by simp[lr,e,asAddr,hl],⟨[_,_],rfl,_,_,rfl,⟨vs,rfl,h4⟩,_,_,rfl,hu▸h1 u,rfl⟩⟩) h
theorem nO {b off n:Nat} {vs:List Value} {T:TypeId} {old:List Value} {w:World} (hn:vs.length=n) (h1c:∀u∈vs,u.oneCell'=true) (hb:off+n≤old.length) (hown:w.heap[b]?=some (.cells old.toArray T (0,0))) :
  (storeCells (⟨b,off,none⟩:Addr) vs 0).run P w=.ok () (w.setRow b (old.take off++vs++old.drop (off+n)).toArray):=by
 rw[run_storeCells_at (P:=P) b off T vs 0 old.toArray w hown (by simp;omega) h1c]
 simp[hn]
end
end
section
open Go.Proofs.Tryz
section
variable {E:World} {P:Program} {env:aK} {O:OL} {d ty:Nat} {pos:String} {af:Array Edge} {x:Operand} {t u:TypeId}
end
end
section
open Go.Proofs.Tryz
section
variable {E:World} {P:Program} {ops:Array Oper} {K:aK→OL→Prop} {env:aK} {O O' O'':OL} {rest:List Oper} {n:Nat}
variable {d ty:Nat} {pos:String} {af:Array Edge} {x y z:Operand} {t u e:TypeId}
theorem vN {A row:List AV} {j:Nat} {c:AV} (h:row[j]?=some c):(A++row).drop (A.length+j)=c::row.drop (j+1):=by
 obtain ⟨hj,rfl⟩:=List.getElem?_eq_some_iff.1 h
 rw[List.drop_append,List.drop_eq_nil_of_le (by omega),Nat.add_sub_cancel_left,List.nil_append]
 exact List.drop_eq_getElem_cons hj
theorem Gv.loadL {i off j k:Nat} {T:TypeId} {c:AV} {A row:List AV} (ha:∀w,(isAgg t).run P w=.ok false w) (hx:aW env x=.po i off) (hoff:off=A.length+j) (hO:oD O i (.grow k T (A++row))) (hv:row[j]?=some c) :
  Gv P env O (Oper.mk (some d) (.load t x) ty pos af none) c:=Gv.load1G ha hx hO (by subst hoff;exact vN hv)
theorem ao.storeL {i off j m k:Nat} {T:TypeId} {v:AV} {A row l new:List AV} (hs:∀w,(sizeOf t).run P w=.ok m w) (hx:aW env x=.po i off) (hoff:off=A.length+j) (hy:aW env y=v) (hv:v.sto=true) (hl:v.cs=l) (hl1:l.all AV.cell=true) (hn:l.length=m)
  (hO:fe O i (.grow k T (A++row)) (.grow k T (A++new)) O') (hb:Nat.ble (j+m) row.length=true) (hm:Nat.ble 1 m=true) (hnew:row.take j++l++row.drop (j+m)=new) (kk:ao P E ops K rest env O'):ao P E ops K (Oper.mk none (.store t x y) ty pos af none::rest) env O:=
 ao.storeG hs hx hy hv hl hl1 hn hO (by have:=Nat.le_of_ble_eq_true hb;rw[q8];omega) (Nat.le_of_ble_eq_true hm) (by
  have:=Nat.le_of_ble_eq_true hb
  subst hoff hnew
  rw[List.take_append,List.take_of_length_le (by omega:A.length≤A.length+j),Nat.add_sub_cancel_left,List.drop_append,List.drop_eq_nil_of_le (by omega:A.length≤A.length+j+m),Nat.add_assoc,Nat.add_sub_cancel_left]
  simp) kk
theorem Gv.idxOL {i n k j r:Nat} {a:Int} {T:TypeId} {cs:List AV} (ht:P.underlying t=some (.slice e)) (hs:∀w,(sizeOf e).run P w=.ok k w) (hx:aW env x=.own i n) (hy:aW env y=.int .i64 a) (hi:a=(j:Int)) (hO:oD O i (.grow k T cs)) (hne:cs≠[]) (hj:j<n) (hr:j*k=r) :
  Gv P env O (Oper.mk (some d) (.indexAddr t x y) ty pos af none) (.po i r):=hr▸Gv.idxO ht hs hx hy hi hO hne hj
end
section
variable {P:Program} {E:World} {l:List Oper} {W:Nat→Bool} {fuel:Nat} {listed:Array Bool} {d ty:Nat} {op:Op} {pos:String} {af:Array Edge}
end
theorem bc.knowP {E:World} {env:aK} {O O':OL} {t i:Nat} {T:TypeId} {cs:List AV} (hv:env t=.po i 0) (hO:cS O i (.cells T cs) O'):bc E env O (bl env t (.pf cs)) O':=fun I F ρ w h1 ⟨ht,L,hL,hS⟩=>by
 obtain ⟨A,B,hp,⟨b,c,vs,e1,hvs,hvc,rfl⟩,hB⟩:=hO.rep hL
 simp only at e1
 have hS2:SL I.k ((b,.cells vs.toArray T (0,0))::(B++F)) E w:=hS.perm ((hp.append_right F).symm)
 obtain ⟨hl,hS3⟩:=SL.freeze hS2
 let J:G:=⟨I.k.put b (.cells vs.toArray T (0,0)),I.h⟩
 have hle:I.le J:=⟨hl,fun _ _ h=>h⟩
 refine ⟨J,hle,fun s=>?_,ht,B,hB.mono hle,hS3⟩
 unfold bl
 cases hb:Nat.beq s t with
 |false=>exact bH.mono hle _ _ (h1 s)
 |true=>
  have:s=t:=Nat.eq_of_beq_eq_true hb
  subst this
  have h2:=h1 s
  rw[hv] at h2
  obtain ⟨b2,c2,e2,e3⟩:=h2
  rw[e1] at e2
  simp only[Option.some.injEq,Prod.mk.injEq] at e2
  obtain ⟨rfl,rfl⟩:=e2
  exact ⟨b,0,vs,e3,RepL.mono hle _ _ hvs,fun j u hj=>⟨_,_,_,aI.put_same _ _ _,by rw[Nat.zero_add,List.getElem?_toArray];exact hj⟩⟩
end
section
open Go.Proofs.Tryz
section
variable {E:World} {P:Program} {ops:Array Oper} {K:aK→OL→Prop} {env:aK} {O O':OL} {rest:List Oper}
variable {d ty:Nat} {pos:String} {af:Array Edge} {x y z:Operand} {t u e:TypeId}
end
end
section
open Go.Proofs.Tryz
section
variable {P:Program} {env:aK} {O:OL}
variable {d ty:Nat} {pos:String} {af:Array Edge} {x y:Operand}
theorem Gv.minI {ts:Array TypeId} {k:IntKind} {a b:Int} (hx:aW env x=.int k a) (hy:aW env y=.int k b):Gv P env O (Oper.mk (some d) (.call { callee:=.builtin .min,args:=#[x,y],argTypes:=ts }) ty pos af none) (.int k (if b<a then b else a)):=Gv.ofEv fun I ρ h=>⟨_,rfl,fun w=>by
 simp[execOp,resolve,gW h hx,gW h hy,invoke,builtin,Builtin.min_,Builtin.min2,Result.andThen]⟩
end
end
section
open Go.Proofs.Tryz
open Go.Lib
section
variable {P:Program} {ops:Array Oper} {K:bD→World→Prop} {ρ:bD} {w:World} {rest:List Oper}
variable {d ty:Nat} {pos:String} {af:Array Edge} {x y z:Operand} {t u e:TypeId}
variable {I:aI} {O A:List (Nat × Obj)} {E:World}
end
section
variable {E:World} {P:Program} {ops:Array Oper} {K:aK→OL→Prop} {env:aK} {O O':OL} {rest:List Oper}
variable {d ty:Nat} {pos:String} {af:Array Edge} {x y z:Operand} {t u e:TypeId}
end
section
variable {E:World} {P:Program} {env:aK} {O:OL} {d ty:Nat} {pos:String} {af:Array Edge} {t e kt:TypeId} {x y:Operand} {b i:Nat} {es:List (ByteArray × Int)}
theorem Gv.lookup1S {s:ByteArray} (ht:P.underlying t=some (.map kt e)) (hk:P.underlying kt=some .string) (hz:∀w,(zeroValue e).run P w=.ok (.int .i64 0) w) (hx:aW env x=vM b) (hy:aW env y=.str s) (hO:oD O i (vL b es)) :
  Gv P env O (Oper.mk (some d) (.lookup t x y false) ty pos af none) (.int .i64 ((f8 s es).getD 0)):=fun I L E ρ h1 hL=>by
 obtain ⟨arr,clock,hm,he⟩:=C0 hO hL
 have hx:=m9 h1 hx
 have hy:=As h1 hy
 refine ⟨.int .i64 ((f8 s es).getD 0),Z,fun w J L' hl hS hin=>?_⟩
 have hb:=hS.own _ (hin _ hm)
 simp only at hb
 have hc:(Instr.checkKey arr.isEmpty 10000 kt (.string s)).run P w=.ok () w:=MapKept.run_checkKey (k:=.string s) hk (by simp[MapKept.IsKey]) _ 9999
 cases hg:f8 s es with
 |none=>
  have hf:=fK (i:=0) he hg
  simp[execOp,Instr.lookup,run_underlying ht,hx,hy,MapKept.run_getObj_map hb,hc,MapKept.run_findKey hk hf,hz,Result.andThen]
 |some u=>
  obtain ⟨j,hf,_⟩:=fL (i:=0) he hg
  simp[execOp,Instr.lookup,run_underlying ht,hx,hy,MapKept.run_getObj_map hb,hc,MapKept.run_findKey hk hf,Result.andThen]
end
theorem oQ (s v:ByteArray) (n:Int):∀es:List (ByteArray × Int),f8 s (kK v n es)=if s=v then some n else f8 s es
 |[]=>by simp only[kK,f8]
 |(k,u)::es=>by
  simp only[kK]
  split
  ·rename_i h;subst h;simp only[f8];split<;>rfl
  ·rename_i h
   simp only[f8,oQ s v n es]
   split
   ·rename_i h2;subst h2;rw[if_neg (fun e=>h e.symm)]
   ·rfl
end
section
open Go.Proofs.Tryz
def cI (l:List Int):List AV:=l.map (AV.int .i64)
def cB (l:List Bool):List AV:=l.map AV.bool
theorem cC (l:List Int):(cI l).length=l.length:=by simp[cI]
theorem dp (l:List Bool):(cB l).length=l.length:=by simp[cB]
theorem rR (l:List Int):(l.map fun x=>[AV.int .i64 x]).flatten=cI l:=by
 induction l with
 |nil=>rfl
 |cons x l ih=>simp only[List.map_cons,List.flatten_cons,ih];rfl
theorem AG (l:List Bool):(l.map fun x=>[AV.bool x]).flatten=cB l:=by
 induction l with
 |nil=>rfl
 |cons x l ih=>simp only[List.map_cons,List.flatten_cons,ih];rfl
theorem cH (l:List Int):(cI l).all AV.cell=true:=by
 unfold cI;rw[List.all_map];exact List.all_eq_true.2 fun _ _=>rfl
theorem lM (l m:List Int):cI l++cI m=cI (l++m):=by simp[cI]
theorem C1 (l:List Int) (j:Nat) (v:Int):(cI l).set j (.int .i64 v)=cI (l.set j v):=by unfold cI;rw[List.map_set]
theorem C2 (l:List Bool) (j:Nat) (v:Bool):(cB l).set j (.bool v)=cB (l.set j v):=by unfold cB;rw[List.map_set]
theorem AH {l:List Bool} {j:Nat} {v:Bool} (h:l[j]?=some v):(cB l).drop j=.bool v::(cB l).drop (j+1):=by
 obtain ⟨hj,e⟩:=List.getElem?_eq_some_iff.1 h
 rw[List.drop_eq_getElem_cons (by rw[dp];exact hj)]
 unfold cB
 rw[List.getElem_map,e]
theorem C3 (n:Nat) (v:Int):List.replicate n (AV.int .i64 v)=cI (List.replicate n v):=by simp[cI]
theorem C4 (n:Nat) (v:Bool):List.replicate n (AV.bool v)=cB (List.replicate n v):=by simp[cB]
theorem vO (I:G) (l:List Int):RepL I (cI l) (l.map (Value.int .i64)):=by
 unfold cI
 induction l with
 |nil=>rfl
 |cons x l ih=>exact ⟨_,_,rfl,rfl,ih⟩
theorem CH {I:G}:∀{l:List Int} {vs:List Value},RepL I (cI l) vs→vs=l.map (Value.int .i64)
 |[],_,h=>h
 |x::l,_,⟨v,us,e,h1,h2⟩=>by
  have h1:v=.int .i64 x:=h1
  rw[e,h1,CH h2];rfl
section
variable {E:World} {P:Program} {ops:Array Oper} {K:aK→OL→Prop} {env:aK} {O O' O'':OL} {rest:List Oper} {n:Nat}
variable {d ty:Nat} {pos:String} {af:Array Edge} {x y z:Operand} {t u e:TypeId}
theorem Gv.idxI {i n j:Nat} {a:Int} {T:TypeId} {cs:List AV} (ht:P.underlying t=some (.slice e)) (hs:∀w,(sizeOf e).run P w=.ok 1 w) (hx:aW env x=.own i n) (hy:aW env y=.int .i64 a) (hi:a=(j:Int)) (hO:oD O i (.grow 1 T cs)) (hn:cs.length=n) (hj:j<n) :
  Gv P env O (Oper.mk (some d) (.indexAddr t x y) ty pos af none) (.po i j):=
 Gv.idxOL ht hs hx hy hi hO (fun e=>by rw[e] at hn;simp at hn;omega) hj (Nat.mul_one j)
theorem Gv.loadB {i j:Nat} {T:TypeId} {l:List Bool} {v:Bool} (ha:∀w,(isAgg t).run P w=.ok false w) (hx:aW env x=.po i j) (hO:oD O i (.grow 1 T (cB l))) (hv:l[j]?=some v) :
  Gv P env O (Oper.mk (some d) (.load t x) ty pos af none) (.bool v):=Gv.load1G ha hx hO (AH hv)
theorem fe.cast {i k:Nat} {T:TypeId} {o:bo} {cs ds:List AV} (h:fe O i o (.grow k T cs) O') (e:cs=ds):fe O i o (.grow k T ds) O':=e▸h
theorem ao.storeI {i j:Nat} {T:TypeId} {l:List Int} {v:Int} (hs:∀w,(sizeOf t).run P w=.ok 1 w) (hx:aW env x=.po i j) (hy:aW env y=.int .i64 v) (hO:fe O i (.grow 1 T (cI l)) (.grow 1 T (cI (l.set j v))) O') (hb:j<l.length)
  (kk:ao P E ops K rest env O'):ao P E ops K (Oper.mk none (.store t x y) ty pos af none::rest) env O:=
 ao.storeG1 (cs:=cI l) hs hx hy rfl rfl rfl (hO.cast (C1 l j v).symm) (by rw[cC];exact hb) kk
theorem ao.storeB {i j:Nat} {T:TypeId} {l:List Bool} {v:Bool} (hs:∀w,(sizeOf t).run P w=.ok 1 w) (hx:aW env x=.po i j) (hy:aW env y=.bool v) (hO:fe O i (.grow 1 T (cB l)) (.grow 1 T (cB (l.set j v))) O') (hb:j<l.length)
  (kk:ao P E ops K rest env O'):ao P E ops K (Oper.mk none (.store t x y) ty pos af none::rest) env O:=
 ao.storeG1 (cs:=cB l) hs hx hy rfl rfl rfl (hO.cast (C2 l j v).symm) (by rw[dp];exact hb) kk
theorem ao.makeI {i:TypeInfo} {zv:Value} {m:Nat} {k1 k2:IntKind} {l l':Int} (ht:P.underlying t=some (.slice e)) (hi:P.info? e=some i) (hz:i.zero=some zv) (hzc:zv.cells=#[.int .i64 0]) (hk:i.size=1) (hx:aW env x=.int k1 l) (hy:aW env y=.int k2 l')
  (hl:l=(m:Int)) (hl':l'=(m:Int)) (hb:(i.bytes:Int)*(m:Int)≤281474976710656) (hm:m≤281474976710656) (kk:∀j,ao P E ops K rest (bl env d (.own j m)) ((j,.grow 1 e (cI (List.replicate m 0)))::O)) :
  ao P E ops K (Oper.mk (some d) (.makeSlice t x y) ty pos af none::rest) env O:=
 ao.make1 ht hi hz hzc hk hx hy hl hl' hb hm rfl fun j=>by rw[show lit (.int .i64 0)=AV.int .i64 0 from rfl,C3];exact kk j
theorem ao.makeB {i:TypeInfo} {zv:Value} {m:Nat} {k1 k2:IntKind} {l l':Int} (ht:P.underlying t=some (.slice e)) (hi:P.info? e=some i) (hz:i.zero=some zv) (hzc:zv.cells=#[.bool false]) (hk:i.size=1) (hx:aW env x=.int k1 l) (hy:aW env y=.int k2 l')
  (hl:l=(m:Int)) (hl':l'=(m:Int)) (hb:(i.bytes:Int)*(m:Int)≤281474976710656) (hm:m≤281474976710656) (kk:∀j,ao P E ops K rest (bl env d (.own j m)) ((j,.grow 1 e (cB (List.replicate m false)))::O)) :
  ao P E ops K (Oper.mk (some d) (.makeSlice t x y) ty pos af none::rest) env O:=
 ao.make1 ht hi hz hzc hk hx hy hl hl' hb hm rfl fun j=>by rw[show lit (.bool false)=AV.bool false from rfl,C4];exact kk j
theorem bc.knowI {t i m:Nat} {T:TypeId} {l:List Int} (hv:env t=.own i m) (hO:cS O i (.grow 1 T (cI l)) O') (hm:l.length=m):bc E env O (bl env t (.fro 1 (l.map fun x=>[.int .i64 x]))) O':=
 bc.know hv (by rw[rR];exact hO) (fun r hr=>by obtain ⟨_,_,rfl⟩:=List.mem_map.1 hr;rfl) (by decide) (by rw[q9];exact hm)
theorem bc.knowB {t i m:Nat} {T:TypeId} {l:List Bool} (hv:env t=.own i m) (hO:cS O i (.grow 1 T (cB l)) O') (hm:l.length=m):bc E env O (bl env t (.fro 1 (l.map fun x=>[.bool x]))) O':=
 bc.know hv (by rw[AG];exact hO) (fun r hr=>by obtain ⟨_,_,rfl⟩:=List.mem_map.1 hr;rfl) (by decide) (by rw[q9];exact hm)
end
structure eK (α:Type) where
 k:Nat
 val:α→List Value
 pos:0<k
 len:∀x,(val x).length=k
 one:∀x,∀u∈val x,u.oneCell'=true
variable {α:Type}
def eK.vs (c:eK α) (l:List α):List Value:=l.flatMap c.val
def eK.row (c:eK α) (x:α):List AV:=(c.val x).map lit
def eK.av (c:eK α) (l:List α):List AV:=l.flatMap c.row
theorem eK.vs_len (c:eK α) (l:List α):(c.vs l).length=l.length*c.k:=by
 unfold eK.vs
 induction l with
 |nil=>simp
 |cons x l ih=>rw[List.flatMap_cons,q8,ih,c.len,List.length_cons,Nat.add_mul];omega
theorem eK.av_eq (c:eK α) (l:List α):c.av l=(c.vs l).map lit:=by
 unfold eK.av eK.vs
 induction l with
 |nil=>rfl
 |cons x l ih=>rw[List.flatMap_cons,List.flatMap_cons,List.map_append,ih];rfl
theorem eK.av_len (c:eK α) (l:List α):(c.av l).length=l.length*c.k:=by rw[c.av_eq,q9,c.vs_len]
theorem eK.av_app (c:eK α) (l m:List α):c.av l++c.av m=c.av (l++m):=by unfold eK.av;rw[List.flatMap_append]
theorem eK.av_push (c:eK α) (l:List α) (x:α):c.av l++c.row x=c.av (l++[x]):=by rw[←c.av_app];unfold eK.av;simp
theorem eK.vs_one (c:eK α) (l:List α):∀u∈c.vs l,u.oneCell'=true:=by
 intro u hu
 unfold eK.vs at hu
 obtain ⟨x,_,hx⟩:=List.mem_flatMap.1 hu
 exact c.one x u hx
theorem eK.av_un (c:eK α) {I:G} {l:List α} {vs:List Value} (h:RepL I (c.av l) vs):vs=c.vs l:=by rw[c.av_eq] at h;exact fJ h
def eI:eK Int:=⟨1,fun x=>[.int .i64 x],by decide,fun _=>rfl,fun x u hu=>by simp at hu;subst hu;rfl⟩
inductive ed (c:eK α) (e:TypeId):List (List α)→List Value→List (Nat × Obj)→Prop
 |nil:ed c e [] [] []
 |cons {r rs a n cap hs A B}:ej c.k e a n cap (c.vs r) A→ed c e rs hs B→ed c e (r::rs) (.slice a n cap::hs) (A++B)
theorem ed.len {c:eK α} {e:TypeId} {rows:List (List α)} {hs:List Value} {L:List (Nat × Obj)} (h:ed c e rows hs L):hs.length=rows.length:=by
 induction h with
 |nil=>rfl
 |cons _ _ ih=>simp[ih]
def CI (c:eK α) (e:TypeId) (rows:List (List α)) (j:Nat) (hs:List Value) (B:List (Nat × Obj)):Prop:=
 ∀r' a' n' c' A',ej c.k e a' n' c' (c.vs r') A'→∃L',ed c e (rows.set j r') (hs.set j (.slice a' n' c')) L'∧L'.Perm (A'++B)
theorem ed.get {c:eK α} {e:TypeId} {rows:List (List α)} {hs:List Value} {L:List (Nat × Obj)} (h:ed c e rows hs L):∀{j:Nat} {r:List α},rows[j]?=some r →
  ∃a n cap A B,hs[j]?=some (.slice a n cap)∧ej c.k e a n cap (c.vs r) A∧L.Perm (A++B)∧CI c e rows j hs B:=by
 induction h with
 |nil=>intro j r hj;simp at hj
 |@cons r0 rs a n cap hs A B h1 h2 ih=>
  intro j r hj
  cases j with
  |zero=>
   simp at hj;subst hj
   exact ⟨a,n,cap,A,B,rfl,h1,.refl _,fun r' a' n' c' A' h=>⟨A'++B,.cons h h2,.refl _⟩⟩
  |succ j=>
   obtain ⟨a1,n1,c1,A1,B1,g1,g2,g3,g4⟩:=ih (j:=j) (r:=r) (by simpa using hj)
   refine ⟨a1,n1,c1,A1,A++B1,by simpa using g1,g2,?_,fun r' a' n' c' A' h=>?_⟩
   ·refine (g3.append_left A).trans ?_
    rw[←q4,←q4]
    exact List.perm_append_comm.append_right B1
   ·obtain ⟨L',k1,k2⟩:=g4 r' a' n' c' A' h
    refine ⟨A++L',by simpa using ed.cons h1 k1,?_⟩
    refine (k2.append_left A).trans ?_
    rw[←q4,←q4]
    exact List.perm_append_comm.append_right B1
theorem ed.rep (c:eK α) (e:TypeId):∀m:Nat,ed c e (List.replicate m []) (List.replicate m (.slice none 0 0)) []
 |0=>.nil
 |m+1=>by
  have:=ed.cons (c:=c) (r:=[]) (ej.nil c.k e) (ed.rep c e m)
  simpa [List.replicate_succ] using this
def lN (c:eK α) (T e:TypeId) (b:Nat) (rows:List (List α)):bo:=.heap fun L=>∃hs B,L=(b,.cells hs.toArray T (0,0))::B∧ed c e rows hs B
def CJ (c:eK α) (T e:TypeId) (b:Nat) (rows:List (List α)) (j n i:Nat):bo:=.heapG (fun I L=>∃hs B hd,L=(b,.cells hs.toArray T (0,0))::B∧I.h i=some hd∧hs[j]?=some (.slice (adr hd.1) n hd.2)∧hs.length=rows.length∧CI c e rows j hs B)
 (fun I J L h hp=>by obtain ⟨hs,B,hd,h1,h2,h3⟩:=hp;exact ⟨hs,B,hd,h1,h.h _ _ h2,h3⟩)
def vP (b n:Nat):AV:=.raw (.slice (some ⟨b,0,none⟩) n n)
def C5 (b j:Nat):AV:=.raw (.pointer (some ⟨b,j,none⟩))
theorem ej.adr {k:Nat} {e:TypeId} {a:Option Addr} {n c:Nat} {cs:List Value} {A:List (Nat × Obj)} (h:ej k e a n c cs A):∃b,a=Go.Proofs.YtjpnhkmfhlnpcaaGreatDoor.adr b:=by
 rcases h.2.2 with ⟨e,_⟩|⟨b,junk,e,_⟩
 ·exact ⟨none,e⟩
 ·exact ⟨some b,e⟩
section
variable {E:World} {P:Program} {ops:Array Oper} {K:aK→OL→Prop} {env:aK} {O O' O'':OL} {rest:List Oper} {n:Nat}
variable {d ty:Nat} {pos:String} {af:Array Edge} {x y z:Operand} {t u e T:TypeId}
theorem ao.makeNest {i:TypeInfo} {zv:Value} {m:Nat} {k1 k2:IntKind} {l l':Int} (ht:P.underlying t=some (.slice T)) (hi:P.info? T=some i) (hz:i.zero=some zv) (hzc:zv.cells=#[.slice none 0 0]) (hk:i.size=1) (hx:aW env x=.int k1 l) (hy:aW env y=.int k2 l')
  (hl:l=(m:Int)) (hl':l'=(m:Int)) (hb:(i.bytes:Int)*(m:Int)≤281474976710656) (hm:m≤281474976710656) (c:eK α) (e:TypeId) (kk:∀b,ao P E ops K rest (bl env d (vP b m)) ((0,lN c T e b (List.replicate m []))::O)) :
  ao P E ops K (Oper.mk (some d) (.makeSlice t x y) ty pos af none::rest) env O:=fun I F ρ w h1 h2=>by
 obtain ⟨htop,L,hL,hS⟩:=h2
 refine bq.make1 ht hi hz hzc hk (gW h1 hx) (gW h1 hy) hl hl' hb hm hS fun b w' hS'=>?_
 exact kk b I F _ _ (h1.upd d rfl) ⟨htop,_,⟨[(b,.cells (List.replicate m (.slice none 0 0)).toArray T (0,0))],L,rfl,⟨List.replicate m (.slice none 0 0),[],rfl,ed.rep c e m⟩,hL⟩,by simpa using hS'⟩
theorem Gv.idxN {b m j:Nat} {a:Int} (ht:P.underlying t=some (.slice T)) (hs:∀w,(sizeOf T).run P w=.ok 1 w) (hx:aW env x=vP b m) (hy:aW env y=.int .i64 a) (hi:a=(j:Int)) (hj:j<m) :
  Gv P env O (Oper.mk (some d) (.indexAddr t x y) ty pos af none) (C5 b j):=Gv.ofEv fun I ρ h=>by
 have h1:=m9 h hx
 have h2:=gW h hy
 subst hi
 have hlt:((j:Int)<(m:Int)):=by omega
 refine ⟨_,Z,fun w=>?_⟩
 simp[execOp,h1,h2,Instr.indexAt,Sem.run_bind,run_underlying ht,hs,hlt,bj,asIntOf]
 intro h;omega
theorem ao.nestTake {c:eK α} {b j m:Nat} {rows:List (List α)} {r:List α} {f:Nat→OL} (ha:∀w,(isAgg t).run P w=.ok false w) (hx:aW env x=C5 b j) (hr:rows[j]?=some r)
  (hO:∀i,fe O m (lN c T e b rows) (CJ c T e b rows j r.length i) (f i)) (kk:∀i,ao P E ops K rest (bl env d (.own i r.length)) ((i,.grow c.k e (c.av r))::f i)) :
  ao P E ops K (Oper.mk (some d) (.load t x) ty pos af none::rest) env O:=fun I F ρ w h1 h2=>by
 obtain ⟨i,hi⟩:=h2.name
 obtain ⟨htop,L,hL,hS⟩:=h2
 have hx:=m9 h1 hx
 obtain ⟨A,B,hp,⟨hs,B0,rfl,hN⟩,hback⟩:=(hO i).rep hL
 obtain ⟨a,n,cap,A1,B1,g1,g2,g3,g4⟩:=hN.get hr
 obtain ⟨b1,rfl⟩:=g2.adr
 have hn:n=r.length:=by have:=g2.1;rw[c.vs_len] at this;exact (Nat.eq_of_mul_eq_mul_right c.pos this).symm
 subst hn
 obtain ⟨J,e1,hle,e2,htop'⟩:=hi (b1,cap)
 have hS2:SL I.k ((b,.cells hs.toArray T (0,0))::(B0++(B++F))) E w:=hS.perm (by
  have:=hp.append_right F
  simpa using this.symm)
 obtain ⟨L',h5,h6⟩:=hback hle (A':=(b,.cells hs.toArray T (0,0))::B1) ⟨hs,B1,(b1,cap),rfl,e2,g1,hN.len,g4⟩
 refine bq.load1 (I:=I.k) (O:=(b,.cells hs.toArray T (0,0))::(B0++(B++F))) ha hS2 hx (.inr ⟨_,_,_,.head _,by rw[List.getElem?_toArray];exact g1⟩) ?_
 refine yt (fun _ _=>cO.up hle) _ _ _ (kk i J F _ _ ((h1.mono hle).upd d ⟨b1,cap,e2,Z⟩) ⟨htop',A1++L',⟨A1,L',Z,⟨b1,cap,_,c.vs r,e2,by rw[c.av_eq];exact d9 J _,c.vs_one r,g2⟩,h5⟩,?_⟩)
 rw[e1]
 refine hS2.perm<|List.Perm.trans ?_ (List.Perm.cons _ ((g3.append_right (B++F)).symm))
 have h7:(A1++L'++F).Perm (A1++((b,Obj.cells hs.toArray T (0,0))::(B1++B))++F):=(h6.append_left A1).append_right F
 refine h7.trans ?_
 simp only[q4,List.cons_append]
 exact List.perm_middle
theorem ao.nestPut {c:eK α} {b j m i i0 n0 n1 k:Nat} {rows:List (List α)} {r:List α} {cs:List AV} (hs1:∀w,(sizeOf t).run P w=.ok 1 w) (hx:aW env x=C5 b j) (hy:aW env y=.own i n1) (hj:j<rows.length)
  (hP0:cS O i (.grow k e cs) O') (hO:fe O' m (CJ c T e b rows j n0 i0) (lN c T e b (rows.set j r)) O'') (hk:k=c.k) (hcs:cs=c.av r) (hn1:r.length=n1) (kk:ao P E ops K rest env O'') :
  ao P E ops K (Oper.mk none (.store t x y) ty pos af none::rest) env O:=fun I F ρ w h1 h2=>by
 obtain ⟨htop,L,hL,hS⟩:=h2
 have hP:cS O i (.grow c.k e (c.av r)) O':=by subst hk hcs;exact hP0
 have hx:=m9 h1 hx
 have h3:=h1.ev y
 rw[hy] at h3
 obtain ⟨b1,c1,e1,ey⟩:=h3
 obtain ⟨A,B,hp,⟨b1',c1',n',vs,e2,hvs,hvc,hown⟩,hB⟩:=hP.rep hL
 simp only at e2
 rw[e1] at e2
 simp only[Option.some.injEq,Prod.mk.injEq] at e2
 obtain ⟨rfl,rfl⟩:=e2
 have hv:=c.av_un hvs
 subst hv
 have hnn:n'=n1:=by have:=hown.1;rw[c.vs_len,hn1] at this;exact (Nat.eq_of_mul_eq_mul_right c.pos this).symm
 subst hnn
 obtain ⟨A2,B2,hp2,⟨hs,B0,hd,rfl,_,hsj,hsl,hole⟩,hback⟩:=hO.rep hB
 obtain ⟨L',k1,k2⟩:=hole r _ _ _ A hown
 have hS2:SL I.k ([(b,.cells hs.toArray T (0,0))]++(A++(B0++(B2++F)))) E w:=hS.perm (by
  refine List.Perm.trans ?_ ((hp.append_right F).symm)
  refine List.Perm.trans ?_ (((hp2.append_left A).append_right F).symm)
  simp only[q4,List.cons_append,List.nil_append]
  exact (List.perm_middle).symm)
 refine bq.store1 (cs:=hs) (off:=j) hs1 hx ey Z (by rw[hsl];exact hj) hS2 fun w' hS'=>?_
 obtain ⟨L2,h7,h8⟩:=hback (G.le.refl I) (A':=(b,.cells (hs.set j (.slice (adr b1) n' c1)).toArray T (0,0))::L') ⟨_,L',rfl,k1⟩
 refine kk I F _ _ h1 ⟨htop,L2,h7,hS'.perm ?_⟩
 refine (h8.append_right F).trans ?_
 simp only[List.cons_append,List.nil_append,q4]
 refine List.Perm.cons _ ?_
 have:=k2.append_right (B2++F)
 simpa [q4] using this
theorem SL.freezeAllN:∀{A:List (Nat × Obj)} {I:aI} {F:List (Nat × Obj)} {E w:World},SL I (A++F) E w→∃J,I.le J∧SL J F E w∧∀x∈A,J x.1=some x.2
 |[],I,F,E,w,h=>⟨I,.refl _,h,fun _ h=>by cases h⟩
 |(b,o)::A,I,F,E,w,h=>by
  obtain ⟨h1,h2⟩:=SL.freeze (show SL I ((b,o)::(A++F)) E w from h)
  obtain ⟨J,h3,h4,h5⟩:=SL.freezeAllN h2
  refine ⟨J,h1.trans h3,h4,fun x hx=>?_⟩
  rcases List.mem_cons.1 hx with rfl|hx
  ·exact h3 _ _ (aI.put_same _ _ _)
  ·exact h5 x hx
theorem ej.fro {c:eK α} {I:G} {e:TypeId} {a:Option Addr} {n cap:Nat} {r:List α} {A:List (Nat × Obj)} (h:ej c.k e a n cap (c.vs r) A) (hI:∀x∈A,I.k x.1=some x.2):bH I (.fro c.k (r.map c.row)) (.slice a n cap):=by
 obtain ⟨h1,h2,h3⟩:=h
 have hn:n=r.length:=by rw[c.vs_len] at h1;exact (Nat.eq_of_mul_eq_mul_right c.pos h1).symm
 subst hn
 rcases h3 with ⟨rfl,rfl,_⟩|⟨b,junk,rfl,rfl,hj⟩
 ·have h0:r=[]:=List.eq_nil_of_length_eq_zero (by omega)
  subst h0
  exact ⟨none,0,0,rfl,rfl,Nat.le_refl _,fun _=>rfl,trivial⟩
 ·have hb:=hI _ (.head _)
  simp only at hb
  have hflat:(r.map c.row).flatten=(c.vs r).map lit:=by rw[←c.av_eq];unfold eK.av;rw[List.flatMap]
  refine ⟨_,_,_,Z,by simp,h2,fun e=>(by cases e),RepR.of_flat hb (r.map c.row) (c.vs r) 0 (fun x hx=>by obtain ⟨y,_,rfl⟩:=List.mem_map.1 hx;unfold eK.row;rw[q9,c.len]) (by rw[hflat];exact d9 I _) fun i u hu=>?_⟩
  rw[Nat.zero_mul,Nat.zero_add,List.getElem?_toArray,List.getElem?_append_left (List.getElem?_eq_some_iff.1 hu).1]
  exact hu
theorem ed.fro {c:eK α} {I:G} {e:TypeId} {rows:List (List α)} {hs:List Value} {B:List (Nat × Obj)} (h:ed c e rows hs B) (hI:∀x∈B,I.k x.1=some x.2):RepL I (rows.map fun r=>.fro c.k (r.map c.row)) hs:=by
 induction h with
 |nil=>rfl
 |cons h1 _ ih=>exact ⟨_,_,rfl,h1.fro fun x hx=>hI x (List.mem_append_left _ hx),ih fun x hx=>hI x (List.mem_append_right _ hx)⟩
def AJ (c:eK α) (rows:List (List α)):AV:=.fro 1 (rows.map fun r=>[.fro c.k (r.map c.row)])
theorem vQ {c:eK α} {I:G} {F:List (Nat × Obj)} {E w:World} {b m:Nat} {rows:List (List α)} (hO:cS O m (lN c T e b rows) O') (h:fm I O F E w):∃J B,I.le J∧bA I O' B∧(∃top,∀i,top≤i→J.h i=none)∧SL J.k (B++F) E w∧bH J (AJ c rows) (.slice (some ⟨b,0,none⟩) rows.length rows.length):=by
 obtain ⟨htop,L,hL,hS⟩:=h
 obtain ⟨A,B,hp,⟨hs,B0,rfl,hN⟩,hB⟩:=hO.rep hL
 have hS2:SL I.k (((b,.cells hs.toArray T (0,0))::B0)++(B++F)) E w:=hS.perm (by rw[←q4];exact (hp.append_right F).symm)
 obtain ⟨J,h1,h2,h3⟩:=SL.freezeAllN hS2
 have hle:I.le ⟨J,I.h⟩:=⟨h1,fun _ _ h=>h⟩
 refine ⟨⟨J,I.h⟩,B,hle,hB,htop,h2,?_⟩
 have hb:=h3 _ (.head _)
 simp only at hb
 have hrep:=hN.fro (I:=⟨J,I.h⟩) fun x hx=>h3 x (.tail _ hx)
 refine ⟨_,_,_,Z,by simp,Nat.le_refl _,fun e=>(by cases e),RepR.intro fun j row hj=>?_⟩
 rw[qa] at hj
 obtain ⟨r,hr,rfl⟩:=Option.map_eq_some_iff.1 hj
 obtain ⟨v,hv1,hv2⟩:=hrep.get (j:=j) (x:=.fro c.k (r.map c.row)) (by rw[qa,hr];rfl)
 refine ⟨b,0,[v],Z,Z,RepL.one hv2,fun i u hu=>?_⟩
 cases i with
 |zero=>
  simp at hu;subst hu
  exact ⟨_,_,_,hb,by rw[List.getElem?_toArray,show 0+(0+j)*1+0=j by omega];exact hv1⟩
 |succ i=>simp at hu
theorem bc.nestKnow {c:eK α} {s b m n:Nat} {rows:List (List α)} (hv:env s=vP b n) (hO:cS O m (lN c T e b rows) O') (hn:rows.length=n):bc E env O (bl env s (AJ c rows)) O':=fun I F ρ w h1 h2=>by
 obtain ⟨J,B,hle,hB,htop,hS,hrep⟩:=vQ hO h2
 refine ⟨J,hle,fun q=>?_,htop,B,hB.mono hle,hS⟩
 unfold bl
 cases hb:Nat.beq q s with
 |false=>exact bH.mono hle _ _ (h1 q)
 |true=>
  have:q=s:=Nat.eq_of_beq_eq_true hb
  subst this
  have h4:=h1 q
  rw[hv] at h4
  have h4:ρ q=.slice (some ⟨b,0,none⟩) n n:=h4
  rw[h4,←hn];exact hrep
end
set_option linter.defProp false
def zq:=@cS.perm
def yp:=@bc.knowP
def yu:=@RepL.fld
def yv:=@bz.two
end
end Go.Proofs.YtjpnhkmfhlnpcaaGreatDoor
