/- Interface values; parts of what is read; methods. No conditions but bounds. -/
import Derived.Test.YtdilpodccjlkgaaGreatDoorHa
import Derived.Test.YtdilpodccjlkgaaGreatDoorChecked
import Derived.Laws.BytesArg
import Derived.ProofKit
import Derived.OpenShut
import Derived.Deep.Matrix
import Derived.Lib.LaidU8
import Derived.Lib.LaidTab
set_option linter.unusedVariables false
set_option linter.unusedSimpArgs false
set_option linter.unusedSectionVars false
namespace Go.Proofs.YtdilpodccjlkgaaGreatDoor
section
variable {E:World} {P:Program} {env:aS} {O:OL} {d ty:Nat} {pos:String} {af:Array Edge} {x y z:Operand} {t u e:TypeId}
theorem Gv.ofEv {op:Op} {v:AV} (h:∀(I:G) ρ,ep I env ρ→∃u,bq I v u∧∀w,(execOp (ev ρ) (Oper.mk (some d) op ty pos af none)).run P w=.ok (.value u) w):Gv P env O (Oper.mk (some d) op ty pos af none) v:=
 fun I _ _ ρ h1 _=>let ⟨u,h2,h3⟩:=h I ρ h1;⟨u,h2,fun w _ _ _ _ _=>h3 w⟩
theorem Gv.move {v:AV} (hx:aV env x=v):Gv P env O (Oper.mk (some d) (.move x) ty pos af none) v:=Gv.ofEv fun I ρ h=>⟨ev ρ x,hx▸h.ev x,fun _=>rfl⟩
theorem Gv.assign {v:AV} (hx:aV env x=v):Gv P env O (Oper.mk (some d) (.assign x) ty pos af none) v:=Gv.ofEv fun I ρ h=>⟨ev ρ x,hx▸h.ev x,fun _=>rfl⟩
theorem Et {I:G} {ρ:dD} {b:Bool} (h:ep I env ρ) (hx:aV env x=.bool b):ev ρ x=.bool b:=by have:=h.ev x;rw[hx] at this;exact this
theorem fB {I:G} {ρ:dD} {k:IntKind} {n:Int} (h:ep I env ρ) (hx:aV env x=.int k n):ev ρ x=.int k n:=by have:=h.ev x;rw[hx] at this;exact this
theorem CK {I:G} {ρ:dD} {s:ByteArray} (h:ep I env ρ) (hx:aV env x=.str s):ev ρ x=.string s:=by have:=h.ev x;rw[hx] at this;exact this
theorem fd {I:G} {ρ:dD} {v:Value} (h:ep I env ρ) (hx:aV env x=.raw v):ev ρ x=v:=by have:=h.ev x;rw[hx] at this;exact this
theorem Gv.pickT {b:Bool} {v:AV} (hc:aV env x=.bool b) (hb:b=true) (hy:aV env y=v):Gv P env O (Oper.mk (some d) (.pick x y z) ty pos af none) v:=
 Gv.ofEv fun I ρ h=>⟨ev ρ y,hy▸h.ev y,fun _=>Run.pickT (Et h hc) hb rfl⟩
theorem Gv.pickF {b:Bool} {v:AV} (hc:aV env x=.bool b) (hb:b=false) (hy:aV env z=v):Gv P env O (Oper.mk (some d) (.pick x y z) ty pos af none) v:=
 Gv.ofEv fun I ρ h=>⟨ev ρ z,hy▸h.ev z,fun _=>Run.pickF (Et h hc) hb rfl⟩
theorem Gv.lss {k:IntKind} {a b:Int} (hx:aV env x=.int k a) (hy:aV env y=.int k b):Gv P env O (Oper.mk (some d) (.binOp .lss t x y u) ty pos af none) (.bool (decide (a<b))):=Gv.ofEv fun I ρ h=>⟨_,rfl,fun _=>Run.lss (fB h hx) (fB h hy)⟩
theorem Gv.leq {k:IntKind} {a b:Int} (hx:aV env x=.int k a) (hy:aV env y=.int k b):Gv P env O (Oper.mk (some d) (.binOp .leq t x y u) ty pos af none) (.bool (decide (a≤b))):=Gv.ofEv fun I ρ h=>⟨_,rfl,fun _=>Run.leq (fB h hx) (fB h hy)⟩
theorem Gv.gtr {k:IntKind} {a b:Int} (hx:aV env x=.int k a) (hy:aV env y=.int k b):Gv P env O (Oper.mk (some d) (.binOp .gtr t x y u) ty pos af none) (.bool (decide (b<a))):=Gv.ofEv fun I ρ h=>⟨_,rfl,fun _=>Run.gtr (fB h hx) (fB h hy)⟩
theorem Gv.geq {k:IntKind} {a b:Int} (hx:aV env x=.int k a) (hy:aV env y=.int k b):Gv P env O (Oper.mk (some d) (.binOp .geq t x y u) ty pos af none) (.bool (decide (b≤a))):=Gv.ofEv fun I ρ h=>⟨_,rfl,fun _=>Run.geq (fB h hx) (fB h hy)⟩
theorem Gv.eqlI {k:IntKind} {a b:Int} (hx:aV env x=.int k a) (hy:aV env y=.int k b):Gv P env O (Oper.mk (some d) (.binOp .eql t x y u) ty pos af none) (.bool (decide (a=b))):=Gv.ofEv fun I ρ h=>⟨_,rfl,fun _=>Run.eqlI (fB h hx) (fB h hy)⟩
theorem Gv.neqI {k:IntKind} {a b:Int} (hx:aV env x=.int k a) (hy:aV env y=.int k b):Gv P env O (Oper.mk (some d) (.binOp .neq t x y u) ty pos af none) (.bool (!decide (a=b))):=Gv.ofEv fun I ρ h=>⟨_,rfl,fun _=>by rw[←decide_not];exact Run.neqI (fB h hx) (fB h hy)⟩
theorem Gv.add {a b:Int} (hx:aV env x=.int .i64 a) (hy:aV env y=.int .i64 b) (hr:lj (a+b)):Gv P env O (Oper.mk (some d) (.binOp .add t x y u) ty pos af none) (.int .i64 (a+b)):=Gv.ofEv fun I ρ h=>⟨_,rfl,fun _=>Run.add (fB h hx) (fB h hy) hr⟩
theorem Gv.sub {a b:Int} (hx:aV env x=.int .i64 a) (hy:aV env y=.int .i64 b) (hr:lj (a - b)):Gv P env O (Oper.mk (some d) (.binOp .sub t x y u) ty pos af none) (.int .i64 (a - b)):=Gv.ofEv fun I ρ h=>⟨_,rfl,fun _=>Run.sub (fB h hx) (fB h hy) hr⟩
theorem Gv.mul {a b:Int} (hx:aV env x=.int .i64 a) (hy:aV env y=.int .i64 b) (hr:lj (a*b)):Gv P env O (Oper.mk (some d) (.binOp .mul t x y u) ty pos af none) (.int .i64 (a*b)):=Gv.ofEv fun I ρ h=>⟨_,rfl,fun _=>Run.mul (fB h hx) (fB h hy) hr⟩
theorem Gv.addW {k:IntKind} {a b:Int} (hx:aV env x=.int k a) (hy:aV env y=.int k b):Gv P env O (Oper.mk (some d) (.binOp .add t x y u) ty pos af none) (.int k (k.wrap (a+b))):=Gv.ofEv fun I ρ h=>⟨_,rfl,fun _=>Run.addW (fB h hx) (fB h hy)⟩
theorem Gv.subW {k:IntKind} {a b:Int} (hx:aV env x=.int k a) (hy:aV env y=.int k b):Gv P env O (Oper.mk (some d) (.binOp .sub t x y u) ty pos af none) (.int k (k.wrap (a - b))):=Gv.ofEv fun I ρ h=>⟨_,rfl,fun _=>Run.subW (fB h hx) (fB h hy)⟩
theorem Gv.mulW {k:IntKind} {a b:Int} (hx:aV env x=.int k a) (hy:aV env y=.int k b):Gv P env O (Oper.mk (some d) (.binOp .mul t x y u) ty pos af none) (.int k (k.wrap (a*b))):=Gv.ofEv fun I ρ h=>⟨_,rfl,fun _=>Run.mulW (fB h hx) (fB h hy)⟩
theorem Gv.not {b:Bool} (hx:aV env x=.bool b):Gv P env O (Oper.mk (some d) (.unOp .not t x) ty pos af none) (.bool (!b)):=Gv.ofEv fun I ρ h=>⟨_,rfl,fun _=>Run.not (Et h hx)⟩
theorem Gv.eqlT {a b:ByteArray} (hx:aV env x=.str a) (hy:aV env y=.str b):Gv P env O (Oper.mk (some d) (.binOp .eql t x y u) ty pos af none) (.bool (decide (a=b))):=Gv.ofEv fun I ρ h=>⟨_,rfl,fun _=>Run.eqlT (CK h hx) (CK h hy)⟩
theorem Gv.neqT {a b:ByteArray} (hx:aV env x=.str a) (hy:aV env y=.str b):Gv P env O (Oper.mk (some d) (.binOp .neq t x y u) ty pos af none) (.bool (!decide (a=b))):=Gv.ofEv fun I ρ h=>⟨_,rfl,fun _=>Run.neqT (CK h hx) (CK h hy)⟩
theorem Gv.eqlB {a b:Bool} (ht:P.underlying t=some .bool) (hx:aV env x=.bool a) (hy:aV env y=.bool b):Gv P env O (Oper.mk (some d) (.binOp .eql t x y u) ty pos af none) (.bool (a == b)):=Gv.ofEv fun I ρ h=>⟨_,rfl,fun _=>Run.eqlB ht (Et h hx) (Et h hy)⟩
theorem Gv.neqB {a b:Bool} (ht:P.underlying t=some .bool) (hx:aV env x=.bool a) (hy:aV env y=.bool b):Gv P env O (Oper.mk (some d) (.binOp .neq t x y u) ty pos af none) (.bool (!(a == b))):=Gv.ofEv fun I ρ h=>⟨_,rfl,fun _=>Run.neqB ht (Et h hx) (Et h hy)⟩
theorem Gv.extract {vs:List AV} {i:Nat} {v:AV} (hx:aV env x=.tup vs) (hv:vs[i]?=some v):Gv P env O (Oper.mk (some d) (.extract x i) ty pos af none) v:=Gv.ofEv fun I ρ h=>by
 have:=h.ev x
 rw[hx] at this
 obtain ⟨us,e,hr⟩:=this
 obtain ⟨u,hu,hru⟩:=hr.get hv
 exact ⟨u,hru,fun _=>Run.extract e (by simpa using hu)⟩
theorem Gv.nilCheckF {cs:List AV} (hx:aV env x=.pf cs):Gv P env O (Oper.mk (some d) (.nilCheck x) ty pos af none) (.pf cs):=Gv.ofEv fun I ρ h=>by
 have h2:=h.ev x
 rw[hx] at h2
 obtain ⟨b,off,vs,e,h3⟩:=id h2
 rw[e] at h2
 exact ⟨_,h2,fun _=>Run.nilCheck e⟩
theorem Gv.nilCheckO {i off:Nat} (hx:aV env x=.po i off):Gv P env O (Oper.mk (some d) (.nilCheck x) ty pos af none) (.po i off):=Gv.ofEv fun I ρ h=>by
 have h2:=h.ev x
 rw[hx] at h2
 obtain ⟨b,c,e1,e⟩:=id h2
 rw[e] at h2
 exact ⟨_,h2,fun _=>Run.nilCheck e⟩
theorem Gv.lenF {k:Nat} {rows:List (List AV)} (ht:P.underlying t=some (.slice e)) (hx:aV env x=.fro k rows):Gv P env O (Oper.mk (some d) (.call { callee:=.builtin .len,args:=#[x],argTypes:=#[t] }) ty pos af none) (.int .i64 rows.length):=Gv.ofEv fun I ρ h=>by
 have h2:=h.ev x
 rw[hx] at h2
 obtain ⟨a,n,c,e,rfl,_⟩:=h2
 exact ⟨_,rfl,fun _=>Run.lenS ht e⟩
theorem Gv.lenM {α:Type} {enc:α→List AV} {xs:List α} {k:Nat} (ht:P.underlying t=some (.slice e)) (hx:aV env x=.fro k (xs.map enc)):Gv P env O (Oper.mk (some d) (.call { callee:=.builtin .len,args:=#[x],argTypes:=#[t] }) ty pos af none) (.int .i64 xs.length):=by
 have:=Gv.lenF (d:=d) (ty:=ty) (pos:=pos) (af:=af) (O:=O) ht hx
 rwa [List.length_map] at this
theorem Gv.lenO {i n:Nat} (ht:P.underlying t=some (.slice e)) (hx:aV env x=.own i n):Gv P env O (Oper.mk (some d) (.call { callee:=.builtin .len,args:=#[x],argTypes:=#[t] }) ty pos af none) (.int .i64 n):=Gv.ofEv fun I ρ h=>by
 have h2:=h.ev x
 rw[hx] at h2
 obtain ⟨b,c,_,e⟩:=h2
 exact ⟨_,rfl,fun _=>Run.lenS ht e⟩
theorem Gv.lenT {s:ByteArray} (ht:P.underlying t=some .string) (hx:aV env x=.str s):Gv P env O (Oper.mk (some d) (.call { callee:=.builtin .len,args:=#[x],argTypes:=#[t] }) ty pos af none) (.int .i64 s.size):=Gv.ofEv fun I ρ h=>⟨_,rfl,fun _=>Run.lenT ht (CK h hx)⟩
theorem Gv.load1F {c:AV} {cs:List AV} (ha:∀w,(isAgg t).run P w=.ok false w) (hx:aV env x=.pf (c::cs)):Gv P env O (Oper.mk (some d) (.load t x) ty pos af none) c:=fun I L E ρ h1 _=>by
 have h2:=h1.ev x
 rw[hx] at h2
 obtain ⟨b,off,vs,e,⟨v,us,e2,h3,h4⟩,h5⟩:=h2
 subst e2
 exact ⟨v,h3,fun w J L' hl hS _=>Run.load1 ha hS e ((h5 0 v rfl).mono hl |>.at_ _)⟩
theorem Gv.loadAF {n:Nat} {cs l:List AV} (ha:∀w,(isAgg t).run P w=.ok true w) (hs:∀w,(sizeOf t).run P w=.ok n w) (hx:aV env x=.pf cs) (hn:Nat.ble n cs.length=true) (hl:cs.take n=l):Gv P env O (Oper.mk (some d) (.load t x) ty pos af none) (.agg l):=fun I L E ρ h1 _=>by
 have h2:=h1.ev x
 rw[hx] at h2
 obtain ⟨b,off,vs,e,h3,h5⟩:=h2
 refine ⟨.agg (vs.take n).toArray,⟨_,rfl,hl▸h3.take n⟩,fun w J L' hk hS _=>Run.loadA ha ?_ hS e ?_⟩
 ·have hn:=Nat.le_of_ble_eq_true hn
  have:=h3.length
  rw[List.length_take,Nat.min_eq_left (by omega)];exact hs
 ·intro j v hj
  rw[List.getElem?_take] at hj
  split at hj
  ·exact ((h5 j v hj).mono hk).at_ _
  ·cases hj
theorem Gv.loadWF {n:Nat} {cs:List AV} (ha:∀w,(isAgg t).run P w=.ok true w) (hs:∀w,(sizeOf t).run P w=.ok n w) (hx:aV env x=.pf cs) (hn:cs.length=n):Gv P env O (Oper.mk (some d) (.load t x) ty pos af none) (.agg cs):=
 Gv.loadAF ha hs hx (by rw[hn];simp) (by rw[←hn];simp)
theorem Gv.fieldF {fs:Array Field} {f:Field} {i sz:Nat} {cs cs':List AV} (ht:P.underlying t=some (.struct fs)) (hf:fs[i]?=some f) (hs:∀w,(sizeOf f.type).run P w=.ok sz w) (hz:sz≠0)
  (hx:aV env x=.pf cs) (hr:cs.drop f.offset=cs'):Gv P env O (Oper.mk (some d) (.fieldAddr t x i) ty pos af none) (.pf cs'):=fun I L E ρ h1 _=>by
 have h2:=h1.ev x
 rw[hx] at h2
 obtain ⟨b,off,vs,e,h3,h5⟩:=h2
 refine ⟨.pointer (some ⟨b,off+f.offset,none⟩),⟨b,_,vs.drop f.offset,rfl,hr▸h3.drop _,fun j u hj=>?_⟩,fun w J L' _ _ _=>Run.field ht hf hs hz e rfl⟩
 rw[List.getElem?_drop] at hj
 have:=h5 _ _ hj
 rwa [←Nat.add_assoc] at this
theorem Gv.fieldO {fs:Array Field} {f:Field} {i id off r sz:Nat} (ht:P.underlying t=some (.struct fs)) (hf:fs[i]?=some f) (hs:∀w,(sizeOf f.type).run P w=.ok sz w) (hz:sz≠0)
  (hx:aV env x=.po id off) (hr:off+f.offset=r):Gv P env O (Oper.mk (some d) (.fieldAddr t x i) ty pos af none) (.po id r):=fun I L E ρ h1 _=>by
 have h2:=h1.ev x
 rw[hx] at h2
 obtain ⟨b,c,e1,e⟩:=h2
 exact ⟨_,⟨b,c,e1,rfl⟩,fun w J L' _ _ _=>Run.field ht hf hs hz e hr⟩
theorem Gv.idxF {k j:Nat} {i:Int} {rows:List (List AV)} {r:List AV} (ht:P.underlying t=some (.slice e)) (hs:∀w,(sizeOf e).run P w=.ok k w) (hx:aV env x=.fro k rows) (hy:aV env y=.int .i64 i) (hi:i=(j:Int)) (hj:rows[j]?=some r) :
  Gv P env O (Oper.mk (some d) (.indexAddr t x y) ty pos af none) (.pf r):=fun I L E ρ h1 _=>by
 have h2:=h1.ev x
 rw[hx] at h2
 obtain ⟨a,n,c,ex,hn,_,_,h3⟩:=h2
 obtain ⟨b,off,vs,rfl,h4,h5,h6⟩:=h3.get hj
 have hlt:j<n:=by rw[hn];exact (List.getElem?_eq_some_iff.1 hj).1
 refine ⟨.pointer (some ⟨b,off+j*k,none⟩),⟨b,_,vs,rfl,h5,fun i u hu=>?_⟩,fun w J L' _ _ _=>Run.idx ht hs ex (fB h1 hy) hi hlt⟩
 have:=h6 i u hu
 rwa [Nat.zero_add] at this
theorem Gv.idxM {α:Type} {enc:α→List AV} {xs:List α} {k j:Nat} {i:Int} {v:α} (ht:P.underlying t=some (.slice e)) (hs:∀w,(sizeOf e).run P w=.ok k w) (hx:aV env x=.fro k (xs.map enc)) (hy:aV env y=.int .i64 i) (hi:i=(j:Int)) (hj:xs[j]?=some v) :
  Gv P env O (Oper.mk (some d) (.indexAddr t x y) ty pos af none) (.pf (enc v)):=Gv.idxF ht hs hx hy hi (by rw[List.getElem?_map,hj];rfl)
end
def nN (O:OL) (i:Nat) (o:bS):Prop:=∃O',dB O i o O'
theorem nN.cells {I:G} {O:OL} {L:List (Nat × Obj)} {i:Nat} {T:TypeId} {cs:List AV} (h:nN O i (.cells T cs)) (hL:bt I O L):∃b c vs,I.h i=some (some b,c)∧RepL I cs vs∧(b,Obj.cells vs.toArray T (0,0))∈L:=by
 obtain ⟨O',h⟩:=h
 obtain ⟨A,B,hp,h1,_⟩:=h.rep hL
 obtain ⟨b,c,vs,h2,h3,_,rfl⟩:=h1
 exact ⟨b,c,vs,h2,h3,hp.mem_iff.2 (by simp)⟩
theorem nN.grow {I:G} {O:OL} {L:List (Nat × Obj)} {i k:Nat} {T:TypeId} {cs:List AV} (h:nN O i (.grow k T cs)) (hL:bt I O L) (hne:cs≠[]):∃b c vs junk,I.h i=some (some b,c)∧RepL I cs vs∧(b,Obj.cells (vs++junk).toArray T (0,0))∈L:=by
 obtain ⟨O',h⟩:=h
 obtain ⟨A,B,hp,h1,_⟩:=h.rep hL
 obtain ⟨b,c,n,vs,h2,h3,_,h4,h5,h6⟩:=h1
 rcases h6 with ⟨_,h6,_⟩|⟨b',junk,e,e2,h6⟩
 ·have:=h3.length
  have:n=0:=by omega
  subst this
  simp at h4
  subst h4
  simp at this
  exact absurd this.symm (by simpa using hne)
 ·cases b with
  |none=>simp[adr] at e
  |some b=>
   simp[adr] at e
   subst e e2
   exact ⟨b,c,vs,junk,h2,h3,hp.mem_iff.2 (by simp)⟩
section
variable {E:World} {P:Program} {env:aS} {O:OL} {d ty:Nat} {pos:String} {af:Array Edge} {x y z:Operand} {t u e:TypeId}
theorem Gv.load1C {i off:Nat} {T:TypeId} {c:AV} {cs tl:List AV} (ha:∀w,(isAgg t).run P w=.ok false w) (hx:aV env x=.po i off) (hO:nN O i (.cells T cs)) (hv:cs.drop off=c::tl):Gv P env O (Oper.mk (some d) (.load t x) ty pos af none) c:=fun I L E ρ h1 hL=>by
 have h2:=h1.ev x
 rw[hx] at h2
 obtain ⟨b,k,e1,e⟩:=h2
 obtain ⟨b',k',vs,e2,h3,hm⟩:=hO.cells hL
 rw[e1] at e2;cases e2
 have h4:=h3.drop off
 rw[hv] at h4
 obtain ⟨v,us,e5,h6,h7⟩:=h4
 exact ⟨v,h6,fun w J L' hl hS hsub=>Run.load1 ha hS e (.inr ⟨_,_,_,hsub _ hm,by rw[List.getElem?_toArray];exact tg e5⟩)⟩
theorem Gv.loadAC {i off n:Nat} {T:TypeId} {cs l:List AV} (ha:∀w,(isAgg t).run P w=.ok true w) (hs:∀w,(sizeOf t).run P w=.ok n w) (hx:aV env x=.po i off) (hO:nN O i (.cells T cs)) (hn:Nat.ble (off+n) cs.length=true) (hl:(cs.drop off).take n=l) :
  Gv P env O (Oper.mk (some d) (.load t x) ty pos af none) (.agg l):=fun I L E ρ h1 hL=>by
 have h2:=h1.ev x
 rw[hx] at h2
 obtain ⟨b,k,e1,e⟩:=h2
 obtain ⟨b',k',vs,e2,h3,hm⟩:=hO.cells hL
 rw[e1] at e2;cases e2
 refine ⟨.agg ((vs.drop off).take n).toArray,⟨_,rfl,hl▸(h3.drop off).take n⟩,fun w J L' hk hS hsub=>Run.loadA ha ?_ hS e ?_⟩
 ·have hn:=Nat.le_of_ble_eq_true hn
  have:=h3.length
  rw[List.length_take,List.length_drop,Nat.min_eq_left (by omega)];exact hs
 ·intro j v hj
  rw[List.getElem?_take] at hj
  split at hj
  ·rw[List.getElem?_drop] at hj
   exact .inr ⟨_,_,_,hsub _ hm,by rw[List.getElem?_toArray];exact hj⟩
  ·cases hj
theorem Gv.loadWC {i n:Nat} {T:TypeId} {cs:List AV} (ha:∀w,(isAgg t).run P w=.ok true w) (hs:∀w,(sizeOf t).run P w=.ok n w) (hx:aV env x=.po i 0) (hO:nN O i (.cells T cs)) (hn:cs.length=n):Gv P env O (Oper.mk (some d) (.load t x) ty pos af none) (.agg cs):=
 Gv.loadAC ha hs hx hO (by rw[hn];simp) (by rw[←hn];simp)
theorem Gv.load1G {i off k:Nat} {T:TypeId} {c:AV} {cs tl:List AV} (ha:∀w,(isAgg t).run P w=.ok false w) (hx:aV env x=.po i off) (hO:nN O i (.grow k T cs)) (hv:cs.drop off=c::tl):Gv P env O (Oper.mk (some d) (.load t x) ty pos af none) c:=fun I L E ρ h1 hL=>by
 have h2:=h1.ev x
 rw[hx] at h2
 obtain ⟨b,k,e1,e⟩:=h2
 obtain ⟨b',k',vs,junk,e2,h3,hm⟩:=hO.grow hL (by intro h;subst h;simp at hv)
 rw[e1] at e2;cases e2
 have h4:=h3.drop off
 rw[hv] at h4
 obtain ⟨v,us,e5,h6,h7⟩:=h4
 exact ⟨v,h6,fun w J L' hl hS hsub=>Run.load1 ha hS e (.inr ⟨_,_,_,hsub _ hm,by
  have:=tg e5
  rw[List.getElem?_toArray,List.getElem?_append_left (List.getElem?_eq_some_iff.1 this).1];exact this⟩)⟩
theorem Gv.loadAG {i off n k:Nat} {T:TypeId} {cs l:List AV} (ha:∀w,(isAgg t).run P w=.ok true w) (hs:∀w,(sizeOf t).run P w=.ok n w) (hx:aV env x=.po i off) (hO:nN O i (.grow k T cs)) (hne:cs≠[]) (hn:off+n≤cs.length) (hl:(cs.drop off).take n=l) :
  Gv P env O (Oper.mk (some d) (.load t x) ty pos af none) (.agg l):=fun I L E ρ h1 hL=>by
 have h2:=h1.ev x
 rw[hx] at h2
 obtain ⟨b,k,e1,e⟩:=h2
 obtain ⟨b',k',vs,junk,e2,h3,hm⟩:=hO.grow hL hne
 rw[e1] at e2;cases e2
 refine ⟨.agg ((vs.drop off).take n).toArray,⟨_,rfl,hl▸(h3.drop off).take n⟩,fun w J L' hk hS hsub=>Run.loadA ha ?_ hS e ?_⟩
 ·have:=h3.length
  rw[List.length_take,List.length_drop,Nat.min_eq_left (by omega)];exact hs
 ·intro j v hj
  rw[List.getElem?_take] at hj
  split at hj
  ·rw[List.getElem?_drop] at hj
   exact .inr ⟨_,_,_,hsub _ hm,by rw[List.getElem?_toArray,List.getElem?_append_left (List.getElem?_eq_some_iff.1 hj).1];exact hj⟩
  ·cases hj
theorem Gv.idxO {i n k j:Nat} {a:Int} {T:TypeId} {cs:List AV} (ht:P.underlying t=some (.slice e)) (hs:∀w,(sizeOf e).run P w=.ok k w) (hx:aV env x=.own i n) (hy:aV env y=.int .i64 a) (hi:a=(j:Int)) (hO:nN O i (.grow k T cs)) (hne:cs≠[]) (hj:j<n) :
  Gv P env O (Oper.mk (some d) (.indexAddr t x y) ty pos af none) (.po i (j*k)):=fun I L E ρ h1 hL=>by
 have h2:=h1.ev x
 rw[hx] at h2
 obtain ⟨b,c,e1,e⟩:=h2
 obtain ⟨b',k',vs,junk,e2,_⟩:=hO.grow hL hne
 rw[e1] at e2;cases e2
 refine ⟨.pointer (some ⟨b',0+j*k,none⟩),⟨b',_,e1,by rw[Nat.zero_add]⟩,fun w J L' _ _ _=>Run.idx ht hs e (fB h1 hy) hi hj⟩
end
end Go.Proofs.YtdilpodccjlkgaaGreatDoor
namespace Go.Proofs.YtdilpodccjlkgaaGreatDoor
def lit:Value→AV
 |.bool b=>.bool b
 |.int k n=>.int k n
 |.string s=>.str s
 |v=>.raw v
theorem wJ (I:G) (v:Value):bq I (lit v) v:=by cases v<;>exact rfl
theorem eA (I:G):∀l:List Value,RepL I (l.map lit) l
 |[]=>rfl
 |v::l=>⟨v,l,rfl,wJ I v,eA I l⟩
def AV.cs:AV→List AV
 |.agg cs=>cs
 |x=>[x]
def AV.sto:AV→Bool
 |.any | .tup _=>false
 |.raw v=>v.oneCell'
 |_=>true
theorem AV.cs_rep {I:G} {x:AV} {v:Value} (h:bq I x v) (hs:x.sto=true):RepL I x.cs v.cells.toList:=by
 cases x
 case agg cs=>obtain ⟨vs,e,h2⟩:=h;subst e;simpa [AV.cs,Value.cells] using h2
 case any=>cases hs
 case tup=>cases hs
 all_goals
  have hc:v.cells=#[v]:=by
   have:=AV.cell_rep h (by first|rfl|exact hs)
   cases v<;>first|rfl|(simp[Value.oneCell'] at this)
  rw[hc]
  exact RepL.one h
theorem gt.name {I:G} {O:OL} {F:List (Nat × Obj)} {E w:World} (h:gt I O F E w):∃i,∀hd:Option Nat × Nat,∃J:G,J.k=I.k∧I.le J∧J.h i=some hd∧∃top,∀i,top≤i→J.h i=none:=by
 obtain ⟨⟨top,ht⟩,_⟩:=h
 refine ⟨top,fun hd=>⟨⟨I.k,fun j=>if j=top then some hd else I.h j⟩,rfl,⟨.refl _,fun i x hi=>?_⟩,by simp,top+1,fun i hi=>?_⟩⟩
 ·have:i≠top:=fun e=>by rw[e,ht top (Nat.le_refl _)] at hi;cases hi
  simp[this,hi]
 ·simp only
  rw[if_neg (by omega)];exact ht i (by omega)
theorem bt.perm {I:G} {O O':OL} (h:O.Perm O'):∀{L},bt I O L→∃L',bt I O' L'∧L.Perm L':=by
 induction h with
 |nil=>intro L h;exact ⟨L,h,.refl _⟩
 |cons x _ ih=>rintro L ⟨A,B,e,h1,h2⟩;obtain ⟨B',h3,h4⟩:=ih h2;exact ⟨A++B',⟨A,B',rfl,h1,h3⟩,e▸h4.append_left A⟩
 |swap x y l=>
  rintro L ⟨A,B,e,h1,C,D,e2,h2,h3⟩
  refine ⟨C++(A++D),⟨C,A++D,rfl,h2,A,D,rfl,h1,h3⟩,?_⟩
  subst e e2
  rw[←List.append_assoc,←List.append_assoc]
  exact List.perm_append_comm.append_right D
 |trans _ _ ih1 ih2=>intro L h;obtain ⟨L1,h1,h2⟩:=ih1 h;obtain ⟨L2,h3,h4⟩:=ih2 h1;exact ⟨L2,h3,h2.trans h4⟩
def aR (P:Program) (E:World) (f:FuncId) (args:List AV) (O:OL) (R:AV→OL→Prop):Prop:=
 ∀I F w vs,RepL I args vs→gt I O F E w→Fn P f vs.toArray w fun v w'=>∃J x O',I.le J∧bq J x v∧gt J O' F E w'∧R x O'
def aK (P:Program) (E:World) (f:FuncId) (args:List AV) (r:AV):Prop:=aR P E f args [] fun x _=>x=r
theorem aR.mono {E:World} {P:Program} {f:FuncId} {args:List AV} {O:OL} {R R':AV→OL→Prop} (h:aR P E f args O R) (hr:∀x O,R x O→R' x O):aR P E f args O R':=fun I F w vs h1 h2=>
 (h I F w vs h1 h2).mono fun _ _ ⟨J,x,O',a,b,c,d⟩=>⟨J,x,O',a,b,c,hr _ _ d⟩
def GO (E:World) (rs:Array ResultVar) (env:aS) (O:OL) (P:Program) (x:AV):Prop:=
 ∀I F ρ w,ep I env ρ→gt I O F E w→∃v,pX rs ρ P w=.ok v w∧bq I x v
def dI (P:Program) (E:World) (rs:Array ResultVar) (R:AV→OL→Prop):Exit→aS→OL→Prop:=fun e env O=>
 match e with
 |.normal | .ret=>∀I F ρ w,ep I env ρ→gt I O F E w→∃v,pX rs ρ P w=.ok v w∧∃J x O',I.le J∧bq J x v∧gt J O' F E w∧R x O'
 |_=>False
def AB (args:List AV):aS:=fun t=>(args[t]?).getD (.raw undef)
theorem xR {I:G} {args:List AV} {vs:List Value} (h:RepL I args vs):ep I (AB args) (CJ vs.toArray):=fun t=>by
 unfold AB CJ
 cases ha:args[t]? with
 |none=>
  have:vs[t]?=none:=by
   rw[List.getElem?_eq_none_iff] at ha ⊢
   rw[h.length];exact ha
  simp[Array.getD_eq_getD_getElem?,this,bq]
 |some x=>
  obtain ⟨v,hv,hr⟩:=h.get ha
  simp[Array.getD_eq_getD_getElem?,hv,hr]
theorem aR.intro {E:World} {P:Program} {f:FuncId} {fn:Func} {c:Code} {args:List AV} {O:OL} {R:AV→OL→Prop} (hf:P.funcs[f]?=some fn) (hb:fn.body=some c)
  (hn:fn.name≠"runtime.NumGoroutine") (hs:Nat.ble args.length fn.ntmps=true) (h:dN P E fn.ntmps c (dI P E fn.results R) (AB args) O):aR P E f args O R:=fun I F w vs h1 h2=>
 Fn.intro hf hb hn (by rw[List.size_toArray,h1.length];exact hs) ((h I F _ w (xR h1) h2).mono fun e ρ w ⟨J,env,O,a,b,c,d⟩=>by
  cases e<;>first|exact d.elim|(obtain ⟨v,h3,K,x,O',h4,h5,h6,h7⟩:=d J F ρ w b c;exact ⟨v,h3,K,x,O',a.trans h4,h5,h6,h7⟩))
section
variable {E:World} {P:Program} {env:aS} {O:OL} {R:AV→OL→Prop}
theorem dI.of {rs:Array ResultVar} {x:AV} (h:GO E rs env O P x) (hr:R x O):dI P E rs R .ret env O:=fun I F ρ w h1 h2=>by
 obtain ⟨v,h3,h4⟩:=h I F ρ w h1 h2
 exact ⟨v,h3,I,x,O,.refl _,h4,h2,hr⟩
theorem dI.t1 {t:Nat} {x:AV} (hv:env t=x) (h:R x O):dI P E #[.tmp t] R .ret env O:=dI.of (fun I F ρ w h1 _=>⟨_,by simp[pX],hv▸h1 t⟩) h
theorem dI.t0 (h:R (.tup []) O):dI P E #[] R .ret env O:=dI.of (x:=.tup []) (fun I F ρ w h1 _=>⟨.tuple #[],by simp[pX],⟨[],rfl,rfl⟩⟩) h
theorem dI.t2 {t u:Nat} {x y:AV} (hv:env t=x) (hu:env u=y) (h:R (.tup [x,y]) O):dI P E #[.tmp t,.tmp u] R .ret env O:=
 dI.of (x:=.tup [x,y]) (fun I F ρ w h1 _=>⟨.tuple #[ρ t,ρ u],by simp[pX],⟨[ρ t,ρ u],rfl,⟨_,_,rfl,hv▸h1 t,⟨_,_,rfl,hu▸h1 u,rfl⟩⟩⟩⟩) h
theorem dI.c1 {t T i:Nat} {T':TypeId} {cs:List AV} {n:Nat} (hv:env t=.po i 0) (hO:nN O i (.cells T' cs)) (ha:∀w,(isAgg T).run P w=.ok true w) (hs:∀w,(sizeOf T).run P w=.ok n w) (hn:cs.length=n) (h:R (.agg cs) O) :
  dI P E #[.cell t T] R .ret env O:=dI.of (fun I F ρ w h1 h2=>by
 obtain ⟨L,hL,hS⟩:=h2.2
 have h3:=h1 t
 rw[hv] at h3
 obtain ⟨b,c,e1,e⟩:=h3
 obtain ⟨b',c',vs,e2,h4,hm⟩:=hO.cells hL
 rw[e1] at e2;cases e2
 have hl:=jK (P:=P) (w:=w) (b:=b) (off:=0) ha (cs:=vs) (by rw[h4.length,hn];exact hs) (fun j v hj=>by
  rw[Nat.zero_add]
  exact hS.at_ (.inr ⟨_,_,_,List.mem_append_left _ hm,by rw[List.getElem?_toArray];exact hj⟩))
 exact ⟨.agg vs.toArray,by simp[pX,e,asAddr,hl],⟨vs,rfl,h4⟩⟩) h
end
section
variable {E:World} {P:Program} {ops:Array Oper} {K:aS→OL→Prop} {env:aS} {O O':OL} {rest:List Oper}
variable {d ty:Nat} {pos:String} {af:Array Edge} {x y z:Operand} {t u e:TypeId}
theorem az.boxF {v:AV} {cs:List AV} (hx:aV env x=v) (hv:v.sto=true) (hc:v.cs=cs) (k:az P E ops K rest (br env d (.pf cs)) O):az P E ops K (Oper.mk (some d) (.box t x) ty pos af none::rest) env O:=fun I F ρ w h1 h2=>by
 obtain ⟨ht,L,hL,hS⟩:=h2
 refine cA.boxP hS rfl fun b w' J hl hb hS'=>?_
 have h3:=h1.ev x
 rw[hx] at h3
 have h4:=AV.cs_rep h3 hv
 rw[hc] at h4
 let I':G:=⟨J,I.h⟩
 have hle:I.le I':=⟨hl,fun _ _ h=>h⟩
 refine q4 (fun _ _=>q5 hle) _ _ _ (k I' F _ w' ((h1.mono hle).upd d ⟨b,0,_,rfl,qj hle _ _ h4,fun j u hj=>⟨_,_,_,hb,?_⟩⟩) ⟨ht,L,hL.mono hle,hS'⟩)
 rw[Nat.zero_add];simpa using hj
theorem AC {I:G} {F:List (Nat × Obj)} {E w w':World} {L:List (Nat × Obj)} {b:Nat} {T:TypeId} {cs:List AV} {vs:List Value} (h2:gt I O F E w) (hL:bt I O L) (hr:RepL I cs vs) (h1c:∀u∈vs,u.oneCell'=true)
  (hS:SL I.k ((b,.cells vs.toArray T (0,0))::(L++F)) E w'):∃i J,I.le J∧J.h i=some (some b,0)∧gt J ((i,.cells T cs)::O) F E w':=by
 obtain ⟨i,hi⟩:=h2.name
 obtain ⟨J,e1,hle,e2,htop⟩:=hi (some b,0)
 exact ⟨i,J,hle,e2,htop,_,⟨_,L,rfl,⟨b,0,vs,e2,qj hle _ _ hr,h1c,rfl⟩,hL.mono hle⟩,by rw[e1];exact hS⟩
theorem RepL.cell1 {I:G} {cs:List AV} {vs:List Value} (h4:RepL I cs vs) (hc1:cs.all AV.cell=true):∀u∈vs,u.oneCell'=true:=by
 intro u hu
 obtain ⟨j,hj⟩:=List.mem_iff_getElem?.1 hu
 have hlen:=h4.length
 have hjl:=(List.getElem?_eq_some_iff.1 hj).1
 have hx:cs[j]?=some cs[j]:=List.getElem?_eq_getElem (by omega)
 obtain ⟨v',hv',hr'⟩:=h4.get hx
 rw[hj] at hv';cases hv'
 exact AV.cell_rep hr' (List.all_eq_true.1 hc1 _ (List.getElem_mem _))
theorem az.boxO {v:AV} {cs:List AV} (hx:aV env x=v) (hv:v.sto=true) (hc:v.cs=cs) (hc1:cs.all AV.cell=true) (k:∀i,az P E ops K rest (br env d (.po i 0)) ((i,.cells t cs)::O)) :
  az P E ops K (Oper.mk (some d) (.box t x) ty pos af none::rest) env O:=fun I F ρ w h1 h2=>by
 obtain ⟨L,hL,hS⟩:=h2.2
 refine cA.boxO hS rfl fun b w' hS'=>?_
 have h3:=h1.ev x
 rw[hx] at h3
 have h4:=AV.cs_rep h3 hv
 rw[hc] at h4
 obtain ⟨i,J,hle,e2,h5⟩:=AC (O:=O) (w':=w') (b:=b) (T:=t) h2 hL h4 (h4.cell1 hc1) (by simpa using hS')
 exact q4 (fun _ _=>q5 hle) _ _ _ (k i J F _ w' ((h1.mono hle).upd d ⟨b,0,e2,rfl⟩) h5)
theorem az.alloc {zv:Value} {cs:List AV} (hz:∀w,(zeroValue t).run P w=.ok zv w) (hc:zv.cells.toList.map lit=cs) (h1c:zv.cells.toList.all Value.oneCell'=true) (k:∀i,az P E ops K rest (br env d (.po i 0)) ((i,.cells t cs)::O)) :
  az P E ops K (Oper.mk (some d) (.alloc t) ty pos af none::rest) env O:=fun I F ρ w h1 h2=>by
 obtain ⟨L,hL,hS⟩:=h2.2
 refine cA.alloc hz hS fun b w' hS'=>?_
 obtain ⟨i,J,hle,e2,h5⟩:=AC (O:=O) (w':=w') (b:=b) (T:=t) h2 hL (hc▸eA I zv.cells.toList) (List.all_eq_true.1 h1c) (by simpa using hS')
 exact q4 (fun _ _=>q5 hle) _ _ _ (k i J F _ w' ((h1.mono hle).upd d ⟨b,0,e2,rfl⟩) h5)
theorem m6 {b off n:Nat} {vs:List Value} {T:TypeId} {v:Value} {old:List Value} {w:World} (hs:∀w,(sizeOf t).run P w=.ok n w) (hvc:v.cells=vs.toArray) (hn:vs.length=n) (h1c:∀u∈vs,u.oneCell'=true) (hb:off+n≤old.length)
  (hown:w.heap[b]?=some (.cells old.toArray T (0,0))):(Instr.storeAt t (.pointer (some ⟨b,off,none⟩)) v).run P w=.ok () (w.setRow b (old.take off++vs++old.drop (off+n)).toArray):=by
 have hst:(storeCells (⟨b,off,none⟩:Addr) vs 0).run P w=.ok () (w.setRow b (old.take off++vs++old.drop (off+n)).toArray):=by
  rw[run_storeCells_at (P:=P) b off T vs 0 old.toArray w hown (by simp;omega) h1c]
  simp[hn]
 have hvs:v.cells.size=n:=by rw[hvc];simpa using hn
 simp[Instr.storeAt,Instr.sureAddr,storeVar,hs,hvc,hn,hst]
theorem SL.turn1 {I:bI} {L:List (Nat × Obj)} {E w:World} {b:Nat} {old new:List Value} {T:TypeId} (h:SL I ((b,.cells old.toArray T (0,0))::L) E w):SL I ((b,.cells new.toArray T (0,0))::L) E (w.setRow b new.toArray):=by
 have hown:=h.own _ (.head _)
 simp only at hown
 refine h.turn rfl rfl rfl ?_ ?_
 ·simp[World.setRow,Array.getElem?_modify,hown]
 ·intro k hk
  simp only[World.setRow,Array.getElem?_modify]
  rw[if_neg (by omega)]
theorem az.storeC {i off n:Nat} {T:TypeId} {v:AV} {cs l new:List AV} (hs:∀w,(sizeOf t).run P w=.ok n w) (hx:aV env x=.po i off) (hy:aV env y=v) (hv:v.sto=true) (hl:v.cs=l) (hl1:l.all AV.cell=true) (hn:l.length=n)
  (hO:fD O i (.cells T cs) (.cells T new) O') (hb:Nat.ble (off+n) cs.length=true) (hnew:cs.take off++l++cs.drop (off+n)=new) (k:az P E ops K rest env O'):az P E ops K (Oper.mk none (.store t x y) ty pos af none::rest) env O:=fun I F ρ w h1 h2=>by
 obtain ⟨htop,L,hL,hS⟩:=h2
 have h3:=h1.ev x
 rw[hx] at h3
 obtain ⟨b,c,e1,e⟩:=h3
 have h4:=h1.ev y
 rw[hy] at h4
 have h5:=AV.cs_rep h4 hv
 rw[hl] at h5
 obtain ⟨A,B,hp,⟨b',c',vs,e2,h6,h6c,rfl⟩,hback⟩:=hO.rep hL
 rw[e1] at e2;cases e2
 have hS2:SL I.k ((b,.cells vs.toArray T (0,0))::(B++F)) E w:=hS.perm ((hp.append_right F).symm)
 have hb:=Nat.le_of_ble_eq_true hb
 have hrun:=m6 (P:=P) (t:=t) (b:=b) (off:=off) (v:=ev ρ y) (vs:=(ev ρ y).cells.toList) (old:=vs) (w:=w) hs (by simp) (by rw[h5.length,hn]) (h5.cell1 hl1) (by rw[h6.length];exact hb) (hS2.own _ (.head _))
 refine qf rfl ?_
 unfold iN
 have:(execOp (ev ρ) (Oper.mk none (.store t x y) ty pos af none)).run P w=.ok .skip (w.setRow b (vs.take off++(ev ρ y).cells.toList++vs.drop (off+n)).toArray):=by
  simp only[execOp,e]
  rw[Sem.run_bind,hrun];rfl
 rw[this]
 have hnr:RepL I new (vs.take off++(ev ρ y).cells.toList++vs.drop (off+n)):=hnew▸((h6.take off).append h5).append (h6.drop (off+n))
 obtain ⟨L',h7,h8⟩:=hback (qd I) (A':=[(b,.cells (vs.take off++(ev ρ y).cells.toList++vs.drop (off+n)).toArray T (0,0))]) ⟨b,c,_,e1,hnr,by
  intro u hu
  simp only[List.mem_append] at hu
  rcases hu with (hu|hu)|hu
  ·exact h6c u (List.mem_of_mem_take hu)
  ·exact h5.cell1 hl1 u hu
  ·exact h6c u (List.mem_of_mem_drop hu),rfl⟩
 exact k I F ρ _ h1 ⟨htop,L',h7,(hS2.turn1).perm (h8.append_right F)⟩
end
end Go.Proofs.YtdilpodccjlkgaaGreatDoor
namespace Go.Proofs.YtdilpodccjlkgaaGreatDoor
def jL (place:Nat→Option (Nat × Nat)):List AV→List (Nat × List AV)→Option (List AV)
 |cells,[]=>some cells
 |cells,(i,xs)::rest=>
  match place i with
  |none=>none
  |some (off,size)=>bif Nat.beq xs.length size&&Nat.ble (off+size) cells.length then jL place (cells.take off++(xs++cells.drop (off+size))) rest else none
theorem xS (off:Nat):∀(l:List Value) (k:Nat) (cs:Array Value),off+k+l.length≤cs.size→((l.zipIdx k).foldl (fun cs (x:Value × Nat)=>cs.setIfInBounds (off+x.2) x.1) cs).toList=cs.toList.take (off+k)++l++cs.toList.drop (off+k+l.length):=by
 intro l
 induction l with
 |nil=>intro k cs _;simp
 |cons c l ih=>
  intro k cs hk
  simp only[List.zipIdx_cons,List.foldl_cons]
  rw[ih (k+1) _ (by simp at hk ⊢;omega)]
  simp only[Array.toList_setIfInBounds,List.length_cons]
  have hk':off+k<cs.toList.length:=by simp at hk ⊢;omega
  rw[←Nat.add_assoc off k 1,List.take_succ_eq_append_getElem (by simpa using hk'),List.getElem_set_self,List.take_set_of_le (Nat.le_refl _)]
  rw[List.drop_set_of_lt (by omega:off+k<off+k+1+l.length)]
  simp only[List.append_assoc,List.singleton_append]
  have:off+k+1+l.length=off+k+(l.length+1):=by omega
  rw[this]
theorem lY {I:G} {place:Nat→Option (Nat × Nat)}:∀(l:List (Nat × Value)) (cps:List (Nat × List AV)) (cells:List AV) (vcells:Array Value) (rs:List AV),
  cps.map (·.1)=l.map (·.1)→(∀(j:Nat) p q,l[j]?=some p→cps[j]?=some q→RepL I q.2 p.2.cells.toList)→RepL I cells vcells.toList→jL place cells cps=some rs →
  ∃vc,Instr.fill place vcells l=some vc∧RepL I rs vc.toList
 |[],[],cells,vcells,rs,_,_,h,hf=>⟨vcells,rfl,by cases hf;exact h⟩
 |[],_::_,_,_,_,h,_,_,_=>by cases h
 |_::_,[],_,_,_,h,_,_,_=>by cases h
 |(i,v)::l,(i',xs)::cps,cells,vcells,rs,hk,hp,h,hf=>by
  simp only[List.map_cons,List.cons.injEq] at hk
  obtain ⟨rfl,hk⟩:=hk
  unfold jL at hf
  unfold Instr.fill
  cases hpl:place i' with
  |none=>rw[hpl] at hf;cases hf
  |some os=>
   obtain ⟨off,size⟩:=os
   rw[hpl] at hf
   simp only at hf ⊢
   have hx:=hp 0 _ _ rfl rfl
   simp only at hx
   have hxl:=hx.length
   have hcl:=h.length
   simp only[Array.length_toList] at hxl hcl
   cases hb:(Nat.beq xs.length size&&Nat.ble (off+size) cells.length) with
   |false=>rw[hb] at hf;cases hf
   |true=>
    rw[hb] at hf
    simp only[cond_true] at hf
    simp only[Bool.and_eq_true] at hb
    have e1:=Nat.eq_of_beq_eq_true hb.1
    have e2:=Nat.le_of_ble_eq_true hb.2
    rw[if_neg (show ¬((v.cells.size≠size||off+v.cells.size>vcells.size)=true) by simp;omega)]
    have hfold:=xS off v.cells.toList 0 vcells (by simp;omega)
    simp only[Nat.add_zero] at hfold
    have hfa:(v.cells.zipIdx.foldl (fun cs (x:Value × Nat)=>cs.setIfInBounds (off+x.2) x.1) vcells).toList=vcells.toList.take off++v.cells.toList++vcells.toList.drop (off+size):=by
     rw[←Array.foldl_toList]
     have:v.cells.zipIdx.toList=v.cells.toList.zipIdx 0:=by simp
     have hlen:v.cells.toList.length=size:=by rw[Array.length_toList];omega
     rw[this,hfold,hlen]
    refine lY l cps _ _ rs hk (fun j p q h1 h2=>hp (j+1) p q (by simpa using h1) (by simpa using h2)) ?_ hf
    rw[hfa,List.append_assoc]
    exact (h.take off).append (hx.append (h.drop _))
def cX (P:Program) (t:TypeId) (places:Array (Nat × Nat)) (zs:List AV):Prop:=
 ∃fs zv,P.underlying t=some (.struct fs)∧(∀w,(zeroValue t).run P w=.ok zv w)∧(∀w,(fs.mapM (m:=Sem) fun f=>do pure (f.offset,←sizeOf f.type)).run P w=.ok places w)∧zv.cells.toList.map lit=zs
def lZ (P:Program) (t:TypeId) (k:Nat) (zs:List AV):Prop:=
 ∃n e zv,P.underlying t=some (.array n e)∧(∀w,(zeroValue t).run P w=.ok zv w)∧(∀w,(sizeOf e).run P w=.ok k w)∧zv.cells.toList.map lit=zs
section
variable {E:World} {P:Program} {ops:Array Oper} {K:aS→OL→Prop} {env:aS} {O O':OL} {rest:List Oper}
variable {d ty:Nat} {pos:String} {af:Array Edge} {x y z:Operand} {t u e:TypeId}
theorem mE {I:G} {ρ:dD} (h1:ep I env ρ) (l:List (Nat × Operand)) (hs:l.all (fun p=>(aV env p.2).sto)=true) (j:Nat) (p:Nat × Value) (q:Nat × List AV)
  (hp:(l.map fun p=>(p.1,ev ρ p.2))[j]?=some p) (hq:(l.map fun p=>(p.1,(aV env p.2).cs))[j]?=some q):RepL I q.2 p.2.cells.toList:=by
 rw[List.getElem?_map] at hp hq
 cases hl:l[j]? with
 |none=>rw[hl] at hp;cases hp
 |some o=>
  rw[hl] at hp hq
  cases hp;cases hq
  exact AV.cs_rep (h1.ev o.2) (List.all_eq_true.1 hs _ (List.mem_of_getElem? hl))
theorem Gv.build {places:Array (Nat × Nat)} {zs rs:List AV} {l:List (Nat × Operand)} {cps:List (Nat × List AV)} (hpl:cX P t places zs) (hs:l.all (fun p=>(aV env p.2).sto)=true) (hv:l.map (fun p=>(p.1,(aV env p.2).cs))=cps)
  (hf:jL (places[·]?) zs cps=some rs):Gv P env O (Oper.mk (some d) (.build t l.toArray) ty pos af none) (.agg rs):=Gv.ofEv fun I ρ h=>by
 obtain ⟨fs,zv,ht,hz,hp,hc⟩:=hpl
 obtain ⟨vc,h1,h2⟩:=lY (I:=I) (place:=(places[·]?)) (l.map fun p=>(p.1,ev ρ p.2)) cps zs zv.cells rs (by subst hv;simp) (fun j p q hj hq=>mE h l hs j p q hj (hv▸hq)) (hc▸eA I _) hf
 refine ⟨.agg vc,⟨vc.toList,by simp,h2⟩,fun w=>?_⟩
 have hrun:(Instr.build t (l.map fun p=>(p.1,ev ρ p.2)).toArray).run P w=.ok (.agg vc) w:=by
  unfold Instr.build
  simp only[Sem.run_bind,hz,Result.andThen_ok,run_underlying ht]
  rw[hp]
  simp only[Result.andThen_ok,h1]
  rfl
 simp only[execOp,List.map_toArray]
 rw[Sem.run_bind,hrun];rfl
theorem Gv.buildA {k:Nat} {zs rs:List AV} {l:List (Nat × Operand)} {cps:List (Nat × List AV)} (hpl:lZ P t k zs) (hs:l.all (fun p=>(aV env p.2).sto)=true) (hv:l.map (fun p=>(p.1,(aV env p.2).cs))=cps)
  (hf:jL (fun i=>some (i*k,k)) zs cps=some rs):Gv P env O (Oper.mk (some d) (.build t l.toArray) ty pos af none) (.agg rs):=Gv.ofEv fun I ρ h=>by
 obtain ⟨n,e,zv,ht,hz,hp,hc⟩:=hpl
 obtain ⟨vc,h1,h2⟩:=lY (I:=I) (place:=fun i=>some (i*k,k)) (l.map fun p=>(p.1,ev ρ p.2)) cps zs zv.cells rs (by subst hv;simp) (fun j p q hj hq=>mE h l hs j p q hj (hv▸hq)) (hc▸eA I _) hf
 refine ⟨.agg vc,⟨vc.toList,by simp,h2⟩,fun w=>?_⟩
 have hrun:(Instr.build t (l.map fun p=>(p.1,ev ρ p.2)).toArray).run P w=.ok (.agg vc) w:=by
  unfold Instr.build
  simp only[Sem.run_bind,hz,Result.andThen_ok,run_underlying ht,hp,h1]
  rfl
 simp only[execOp,List.map_toArray]
 rw[Sem.run_bind,hrun];rfl
def cU (P:Program) (t e:TypeId) (n k:Nat) (zs:List AV):Prop:=
 ∃zv,P.underlying t=some (.slice e)∧(∀w,(sizeOf e).run P w=.ok k w)∧(∀w,(zeroValue e).run P w=.ok zv w)∧0<n*k∧n*k≤2 ^ 24∧((Array.range (n*k)).map (zv.cells[·% zv.cells.size]!)).toList.map lit=zs
theorem jM {n k:Nat} {zs rs:List AV} {l:List (Nat × Operand)} {cps:List (Nat × List AV)} (hpl:cU P t e n k zs) (hs:l.all (fun p=>(aV env p.2).sto)=true) (hv:l.map (fun p=>(p.1,(aV env p.2).cs))=cps)
  (hf:jL (fun i=>some (i*k,k)) zs cps=some rs) {I:G} {ρ:dD} (h:ep I env ρ):∃vc:List Value,RepL I rs vc∧∀w,(execOp (ev ρ) (Oper.mk (some d) (.buildSlice t n l.toArray) ty pos af none)).run P w=.ok (.value (.slice (some ⟨w.heap.size,0,none⟩) n n)) (w.alloc (.cells vc.toArray e)):=by
 obtain ⟨zv,ht,hsz,hz,h0,h24,hc⟩:=hpl
 obtain ⟨vc,h1,h2⟩:=lY (I:=I) (place:=fun i=>some (i*k,k)) (l.map fun p=>(p.1,ev ρ p.2)) cps zs ((Array.range (n*k)).map (zv.cells[·% zv.cells.size]!)) rs (by subst hv;simp) (fun j p q hj hq=>mE h l hs j p q hj (hv▸hq)) (hc▸eA I _) hf
 refine ⟨vc.toList,h2,fun w=>?_⟩
 have hrun:(Instr.buildSlice t n (l.map fun p=>(p.1,ev ρ p.2)).toArray).run P w=.ok (.slice (some ⟨w.heap.size,0,none⟩) n n) (w.alloc (.cells vc e)):=by
  unfold Instr.buildSlice
  simp only[Sem.run_bind,Result.andThen_ok,run_underlying ht,hsz]
  rw[if_neg (by omega)]
  simp only[Sem.run_pure,Result.andThen_ok,if_neg (by omega:¬n*k=0),Sem.run_bind,hz,h1,newRow]
  simp
 simp only[execOp,List.map_toArray]
 rw[Sem.run_bind,hrun];simp
theorem RepR.of_flat {I:G} {k b:Nat} {c:Array Value} {T:TypeId} {f:Nat × Nat} (hb:I.k b=some (.cells c T f)):∀(rows:List (List AV)) (vs:List Value) (j:Nat),(∀r∈rows,r.length=k)→RepL I rows.flatten vs→(∀(i:Nat) u,vs[i]?=some u→c[j*k+i]?=some u)→RepR I k (some ⟨b,0,none⟩) j rows
 |[],_,_,_,_,_=>trivial
 |r::rows,vs,j,hk,h,hc=>by
  have hr:=hk r (by simp)
  have h1:=h.take r.length
  have h2:=h.drop r.length
  simp only[List.flatten_cons,List.take_left,List.drop_left] at h1 h2
  refine ⟨⟨b,0,vs.take r.length,rfl,?_,h1,fun i u hu=>⟨c,T,f,hb,?_⟩⟩,RepR.of_flat hb rows _ (j+1) (fun r hr=>hk r (by simp[hr])) h2 fun i u hu=>?_⟩
  ·rw[h1.length,hr]
  ·rw[List.getElem?_take] at hu
   split at hu
   ·rw[Nat.zero_add];exact hc i u hu
   ·cases hu
  ·rw[List.getElem?_drop,hr] at hu
   have:=hc _ u hu
   rw[Nat.add_mul,Nat.one_mul,Nat.add_assoc];exact this
theorem az.buildSliceF {n k:Nat} {zs rs:List AV} {rows:List (List AV)} {l:List (Nat × Operand)} {cps:List (Nat × List AV)} (hpl:cU P t e n k zs) (hs:l.all (fun p=>(aV env p.2).sto)=true) (hv:l.map (fun p=>(p.1,(aV env p.2).cs))=cps)
  (hf:jL (fun i=>some (i*k,k)) zs cps=some rs) (hr:rows.flatten=rs) (hk:rows.all (fun r=>Nat.beq r.length k)=true) (hn:rows.length=n) (kk:az P E ops K rest (br env d (.fro k rows)) O) :
  az P E ops K (Oper.mk (some d) (.buildSlice t n l.toArray) ty pos af none::rest) env O:=fun I F ρ w h1 h2=>by
 obtain ⟨htop,L,hL,hS⟩:=h2
 obtain ⟨vc,hrep,hrun⟩:=jM (d:=d) (ty:=ty) (pos:=pos) (af:=af) hpl hs hv hf h1
 refine qf rfl ?_
 unfold iN
 rw[hrun w]
 obtain ⟨hl,hS'⟩:=hS.alloc_pers (.cells vc.toArray e)
 let J:G:=⟨I.k.put w.heap.size (.cells vc.toArray e),I.h⟩
 have hle:I.le J:=⟨hl,fun _ _ h=>h⟩
 have hb:J.k w.heap.size=some (.cells vc.toArray e):=bI.put_same _ _ _
 refine q4 (fun _ _=>q5 hle) _ _ _ (kk J F _ _ ((h1.mono hle).upd d ⟨_,n,n,rfl,hn.symm,Nat.le_refl _,fun h=>by (cases h),?_⟩) ⟨htop,L,hL.mono hle,hS'⟩)
 exact RepR.of_flat hb rows vc 0 (fun r h=>Nat.eq_of_beq_eq_true (List.all_eq_true.1 hk r h)) (hr▸qj hle _ _ hrep) (fun i u hu=>by simpa using hu)
theorem az.buildSliceO {n k:Nat} {zs rs:List AV} {l:List (Nat × Operand)} {cps:List (Nat × List AV)} (hpl:cU P t e n k zs) (hs:l.all (fun p=>(aV env p.2).sto)=true) (hv:l.map (fun p=>(p.1,(aV env p.2).cs))=cps)
  (hf:jL (fun i=>some (i*k,k)) zs cps=some rs) (hk:rs.length=n*k) (hc1:rs.all AV.cell=true) (kk:∀i,az P E ops K rest (br env d (.own i n)) ((i,.grow k e rs)::O)) :
  az P E ops K (Oper.mk (some d) (.buildSlice t n l.toArray) ty pos af none::rest) env O:=fun I F ρ w h1 h2=>by
 obtain ⟨L,hL,hS⟩:=h2.2
 obtain ⟨vc,hrep,hrun⟩:=jM (d:=d) (ty:=ty) (pos:=pos) (af:=af) hpl hs hv hf h1
 refine qf rfl ?_
 unfold iN
 rw[hrun w]
 obtain ⟨i,hi⟩:=h2.name
 obtain ⟨J,e1,hle,e2,htop⟩:=hi (some w.heap.size,n)
 have hS':=hS.alloc (.cells vc.toArray e)
 refine q4 (fun _ _=>q5 hle) _ _ _ (kk i J F _ _ ((h1.mono hle).upd d ⟨_,n,e2,rfl⟩) ⟨htop,_,⟨[(w.heap.size,.cells vc.toArray e (0,0))],L,rfl,⟨_,n,n,vc,e2,qj hle _ _ hrep,hrep.cell1 hc1,fC.made (by rw[hrep.length,hk])⟩,hL.mono hle⟩,by rw[e1];exact hS'⟩)
theorem az.buildSlice0 {i:TypeInfo} {k:Nat} (ht:P.underlying t=some (.slice e)) (hi:P.info? e=some i) (kk:∀j,az P E ops K rest (br env d (.own j 0)) ((j,.grow k e [])::O)) :
  az P E ops K (Oper.mk (some d) (.buildSlice t 0 #[]) ty pos af none::rest) env O:=fun I F ρ w h1 h2=>by
 obtain ⟨L,hL,hS⟩:=h2.2
 obtain ⟨j,hj⟩:=h2.name
 refine cA.buildSlice0 ht hi hS fun b w' hS'=>?_
 obtain ⟨J,e1,hle,e2,htop⟩:=hj (some b,0)
 refine q4 (fun _ _=>q5 hle) _ _ _ (kk j J F _ _ ((h1.mono hle).upd d ⟨_,0,e2,rfl⟩) ⟨htop,_,⟨[(b,.cells [].toArray e (0,0))],L,rfl,⟨some b,0,0,[],e2,rfl,(by simp),fC.made (n:=0) (by simp)⟩,hL.mono hle⟩,by rw[e1];exact hS'⟩)
theorem az.make1 {i:TypeInfo} {zv z1:Value} {m:Nat} {k1 k2:IntKind} {l l':Int} (ht:P.underlying t=some (.slice e)) (hi:P.info? e=some i) (hz:i.zero=some zv) (hzc:zv.cells=#[z1]) (hk:i.size=1) (hx:aV env x=.int k1 l) (hy:aV env y=.int k2 l')
  (hl:l=(m:Int)) (hl':l'=(m:Int)) (hb:(i.bytes:Int)*(m:Int)≤281474976710656) (hm:m≤281474976710656) (hz1:z1.oneCell'=true) (kk:∀j,az P E ops K rest (br env d (.own j m)) ((j,.grow 1 e (List.replicate m (lit z1)))::O)) :
  az P E ops K (Oper.mk (some d) (.makeSlice t x y) ty pos af none::rest) env O:=fun I F ρ w h1 h2=>by
 obtain ⟨L,hL,hS⟩:=h2.2
 obtain ⟨j,hj⟩:=h2.name
 refine cA.make1 ht hi hz hzc hk (fB h1 hx) (fB h1 hy) hl hl' hb hm hS fun b w' hS'=>?_
 obtain ⟨J,e1,hle,e2,htop⟩:=hj (some b,m)
 have hrep:RepL J (List.replicate m (lit z1)) (List.replicate m z1):=by
  have:=eA J (List.replicate m z1)
  rwa [List.map_replicate] at this
 refine q4 (fun _ _=>q5 hle) _ _ _ (kk j J F _ _ ((h1.mono hle).upd d ⟨_,m,e2,rfl⟩) ⟨htop,_,⟨[(b,.cells (List.replicate m z1).toArray e (0,0))],L,rfl,⟨some b,m,m,_,e2,hrep,(fun u hu=>by rw[List.eq_of_mem_replicate hu];exact hz1),fC.made (by simp)⟩,hL.mono hle⟩,by rw[e1];exact hS'⟩)
end
end Go.Proofs.YtdilpodccjlkgaaGreatDoor
namespace Go.Proofs.YtdilpodccjlkgaaGreatDoor
theorem RepR.flat {I:G} {k:Nat} {a:Option Addr}:∀{rows:List (List AV)} {j:Nat},RepR I k a j rows→rows≠[]→∃b off vs,a=some ⟨b,off,none⟩∧RepL I rows.flatten vs∧vs.length=rows.length*k∧∀(i:Nat) u,vs[i]?=some u→Aw I.k b (off+j*k+i) u
 |[],_,_,h=>absurd rfl h
 |[r],j,⟨⟨b,off,vs,e,h1,h2,h3⟩,_⟩,_=>⟨b,off,vs,e,by simpa using h2,by simpa using h1,h3⟩
 |r::r'::rows,j,⟨⟨b,off,vs,e,h1,h2,h3⟩,h4⟩,_=>by
  obtain ⟨b',off',us,e',h5,h6,h7⟩:=RepR.flat h4 (by simp)
  subst e
  cases e'
  refine ⟨b,off,vs++us,rfl,by simpa using h2.append h5,by simp only[List.length_append,h1,h6,List.length_cons,Nat.add_mul];omega,fun i u hu=>?_⟩
  by_cases hi:i<vs.length
  ·rw[List.getElem?_append_left hi] at hu;exact h3 i u hu
  ·rw[List.getElem?_append_right (by omega)] at hu
   have:=h7 _ u hu
   have e:off+(j+1)*k+(i - vs.length)=off+j*k+i:=by rw[Nat.add_mul,h1];omega
   rwa [e] at this
theorem CL {I:G} {k:Nat} {rows:List (List AV)} {v:Value} (h:bq I (.fro k rows) v) (hc:rows.flatten.all AV.cell=true):∃a n c vs,v=.slice a n c∧n=rows.length∧RepL I rows.flatten vs∧(∀u∈vs,u.oneCell'=true)∧∀O,GN I.k O k a n vs:=by
 obtain ⟨a,n,c,e,hn,hnc,hnil,hr⟩:=h
 cases rows with
 |nil=>
  refine ⟨a,n,c,[],e,hn,rfl,by simp,fun O=>⟨by simp[hn],by simp,?_⟩⟩
  cases a with
  |none=>exact .inl ⟨rfl,hn⟩
  |some p=>exact .inr ⟨p,rfl,by simp⟩
 |cons r rows=>
  obtain ⟨b,off,vs,e',h1,h2,h3⟩:=hr.flat (by simp)
  refine ⟨a,n,c,vs,e,hn,h1,h1.cell1 hc,fun O=>⟨by rw[h2,hn],h1.cell1 hc,.inr ⟨_,e',fun j u hj=>⟨b,off,rfl,?_⟩⟩⟩⟩
  have:=h3 j u hj
  rw[Nat.zero_mul,Nat.add_zero] at this
  exact .inl this
section
variable {E:World} {P:Program} {ops:Array Oper} {K:aS→OL→Prop} {env:aS} {O O':OL} {rest:List Oper}
variable {d ty:Nat} {pos:String} {af:Array Edge} {x y z:Operand} {t u e:TypeId}
theorem gt.split {I:G} {O1 O2:OL} {F:List (Nat × Obj)} {E w:World} (hO:O.Perm (O1++O2)) (h:gt I O F E w):∃L2,bt I O2 L2∧gt I O1 (L2++F) E w:=by
 obtain ⟨ht,L,hL,hS⟩:=h
 obtain ⟨L',h1,h2⟩:=hL.perm hO
 obtain ⟨A,B,rfl,h3,h4⟩:=bt.append.1 h1
 exact ⟨B,h4,ht,A,h3,hS.perm (by rw[←List.append_assoc];exact (h2.append_right F).symm)⟩
theorem gt.join {I J:G} {O1 O2:OL} {L2 F:List (Nat × Obj)} {E w:World} (hle:I.le J) (h2:bt I O2 L2) (h:gt J O1 (L2++F) E w):gt J (O1++O2) F E w:=by
 obtain ⟨ht,L,hL,hS⟩:=h
 exact ⟨ht,L++L2,bt.append.2 ⟨L,L2,rfl,hL,h2.mono hle⟩,by rw[List.append_assoc];exact hS⟩
theorem gt.drops {I:G} {O1:OL} {L2 F:List (Nat × Obj)} {E w:World} (h:gt I O1 (L2++F) E w):SL I.k (L2++F) E w:=by
 obtain ⟨ht,L,hL,hS⟩:=h
 exact hS.dropAll
theorem az.callA {f:FuncId} {args:List Operand} {tys:Array TypeId} {as0:List AV} {O1 O2:OL} {R:AV→OL→Prop} (ha:args.map (aV env)=as0) (hO:O.Perm (O1++O2)) (hc:aR P E f as0 O1 R)
  (k:∀r O1',R r O1'→az P E ops K rest (br env d r) (O1'++O2)):az P E ops K (Oper.mk (some d) (.call { callee:=.value (.func f),args:=args.toArray,argTypes:=tys }) ty pos af none::rest) env O:=fun I F ρ w h1 h2=>by
 obtain ⟨L2,hL2,h3⟩:=h2.split hO
 refine cA.callF (hc I (L2++F) w (args.map (ev ρ)) (ha▸h1.evs args) h3) ?_
 rintro v w' ⟨J,r,O1',hle,hr,hS,hR⟩
 exact q4 (fun _ _=>q5 hle) _ _ _ (k r O1' hR J F _ _ ((h1.mono hle).upd d hr) (hS.join hle hL2))
theorem az.callP {f:FuncId} {args:List Operand} {tys:Array TypeId} {as0:List AV} {r:AV} (hc:aK P E f as0 r) (ha:args.map (aV env)=as0)
  (k:az P E ops K rest (br env d r) O):az P E ops K (Oper.mk (some d) (.call { callee:=.value (.func f),args:=args.toArray,argTypes:=tys }) ty pos af none::rest) env O:=fun I F ρ w h1 h2=>by
 obtain ⟨L2,hL2,h3⟩:=h2.split (O1:=[]) (O2:=O) (.refl _)
 refine cA.callF (hc I (L2++F) w (args.map (ev ρ)) (ha▸h1.evs args) h3) ?_
 rintro v w' ⟨J,r',O1',hle,hr,hS,rfl⟩
 exact q4 (fun _ _=>q5 hle) _ _ _ (k J F _ _ ((h1.mono hle).upd d hr) ⟨hS.1,L2,hL2.mono hle,hS.drops⟩)
theorem az.callVP {f:FuncId} {args:List Operand} {tys:Array TypeId} {a c as0:List AV} {r:AV} (hx:aV env x=.fn f a c) (hc:aK P E f as0 r) (ha:a++args.map (aV env)++c=as0)
  (k:az P E ops K rest (br env d r) O):az P E ops K (Oper.mk (some d) (.call { callee:=.value x,args:=args.toArray,argTypes:=tys }) ty pos af none::rest) env O:=fun I F ρ w h1 h2=>by
 obtain ⟨L2,hL2,h3⟩:=h2.split (O1:=[]) (O2:=O) (.refl _)
 have h4:=h1.ev x
 rw[hx] at h4
 obtain ⟨vs,us,e,h5,h6⟩:=h4
 refine cA.callV e (hc I (L2++F) w (vs++args.map (ev ρ)++us) (ha▸(h5.append (h1.evs args)).append h6) h3) ?_
 rintro v w' ⟨J,r',O1',hle,hr,hS,rfl⟩
 exact q4 (fun _ _=>q5 hle) _ _ _ (k J F _ _ ((h1.mono hle).upd d hr) ⟨hS.1,L2,hL2.mono hle,hS.drops⟩)
theorem Gv.func {f:FuncId} {l m:List Operand} {a c:List AV} (hl:l.map (aV env)=a) (hm:m.map (aV env)=c):Gv P env O (Oper.mk (some d) (.makeFunc (.func f) l.toArray m.toArray) ty pos af none) (.fn f a c):=Gv.ofEv fun I ρ h=>
 ⟨.func (.func f) (l.map (ev ρ)).toArray (m.map (ev ρ)).toArray,⟨_,_,rfl,hl▸h.evs l,hm▸h.evs m⟩,fun w=>by simp[execOp,Instr.makeFunc]⟩
def aX (E:World) (env:aS) (O:OL) (env':aS) (O':OL):Prop:=∀I F ρ w,ep I env ρ→gt I O F E w→∃J,I.le J∧ep J env' ρ∧gt J O' F E w
end
section
variable {E:World} {P:Program} {n:Nat} {os:Array Oper} {env env':aS} {O O':OL}
theorem aX.wp {c:Code} {Q:Exit→aS→OL→Prop} (g:aX E env O env' O') (h:dN P E n c Q env' O'):dN P E n c Q env O:=fun I F ρ w h1 h2=>by
 obtain ⟨J,hle,h3,h4⟩:=g I F ρ w h1 h2
 exact (h J F ρ w h3 h4).mono fun _ _ _=>lX.up hle
theorem aX.ops {K:aS→OL→Prop} {l:List Oper} (g:aX E env O env' O') (h:az P E os K l env' O'):az P E os K l env O:=fun I F ρ w h1 h2=>by
 obtain ⟨J,hle,h3,h4⟩:=g I F ρ w h1 h2
 exact q4 (fun _ _=>q5 hle) _ _ _ (h J F ρ w h3 h4)
theorem aX.fin {rs:Array ResultVar} {R:AV→OL→Prop} (g:aX E env O env' O') (h:dI P E rs R .ret env' O'):dI P E rs R .ret env O:=fun I F ρ w h1 h2=>by
 obtain ⟨J,hle,h3,h4⟩:=g I F ρ w h1 h2
 obtain ⟨v,h5,K,x,O'',h6,h7⟩:=h J F ρ w h3 h4
 exact ⟨v,h5,K,x,O'',hle.trans h6,h7⟩
theorem aX.perm (h:O.Perm O'):aX E env O env O':=fun I F ρ w h1 h2=>by
 obtain ⟨L2,hL2,h3⟩:=h2.split (O1:=O') (O2:=[]) (by simpa using h)
 have:L2=[]:=hL2
 subst this
 exact ⟨I,.refl _,h1,h3⟩
theorem aX.drop {i:Nat} {o:bS} (h:dB O i o O'):aX E env O env O':=fun I F ρ w h1 h2=>by
 obtain ⟨ht,L,hL,hS⟩:=h2
 obtain ⟨A,B,hp,_,hB⟩:=h.rep hL
 exact ⟨I,.refl _,h1,ht,B,hB,(hS.perm (by rw[←List.append_assoc];exact (hp.append_right F).symm):SL I.k (A++(B++F)) E w).dropAll⟩
theorem aX.slot {t:Nat} {x y:AV} (hv:env t=x) (hi:∀I v,bq I x v→bq I y v):aX E env O (br env t y) O:=fun I F ρ w h1 h2=>by
 refine ⟨I,.refl _,fun s=>?_,h2⟩
 unfold br
 cases hb:Nat.beq s t with
 |false=>exact h1 s
 |true=>
  have:s=t:=Nat.eq_of_beq_eq_true hb
  subst this
  exact hi I _ (hv▸h1 s)
end
section
variable {E:World} {P:Program} {n:Nat} {ops:Array Oper} {env:aS} {O O':OL}
theorem fo {c:Code} {Q:Exit→aS→OL→Prop} {t k:Nat} {T:TypeId} (hv:env t=.raw (.slice none 0 0)) (h:∀i,dN P E n c Q (br env t (.own i 0)) ((i,.grow k T [])::O)):dN P E n c Q env O:=fun I F ρ w h1 h2=>by
 obtain ⟨i,hi⟩:=h2.name
 obtain ⟨J,e1,hle,e2,htop⟩:=hi (none,0)
 obtain ⟨_,L,hL,hS⟩:=h2
 have h3:ρ t=.slice none 0 0:=by have:=h1 t;rw[hv] at this;exact this
 refine (h i J F ρ w (fun s=>?_) ⟨htop,_,⟨[],L,rfl,⟨none,0,0,[],e2,rfl,by simp,fC.nil k T⟩,hL.mono hle⟩,by rw[e1];exact hS⟩).mono fun _ _ _=>lX.up hle
 unfold br
 cases hb:Nat.beq s t with
 |false=>exact bq.mono hle _ _ (h1 s)
 |true=>
  have:s=t:=Nat.eq_of_beq_eq_true hb
  subst this
  exact ⟨none,0,e2,h3⟩
theorem know {I:G} {F:List (Nat × Obj)} {E w:World} {i k m:Nat} {T:TypeId} {rows:List (List AV)} (hO:dB O i (.grow k T rows.flatten) O') (hk:∀r∈rows,r.length=k) (hk0:0<k) (hm:rows.length=m) (h:gt I O F E w) :
  ∃J,I.le J∧gt J O' F E w∧∀v,bq I (.own i m) v→bq J (.fro k rows) v:=by
 obtain ⟨ht,L,hL,hS⟩:=h
 obtain ⟨A,B,hp,⟨b,c,n,vs,e1,hvs,hvc,hown⟩,hB⟩:=hO.rep hL
 simp only at e1
 have hS2:SL I.k (A++(B++F)) E w:=hS.perm (by rw[←List.append_assoc];exact (hp.append_right F).symm)
 have hflat:rows.flatten.length=rows.length*k:=by
  clear hO hvs hm
  induction rows with
  |nil=>simp
  |cons r rows ih=>simp only[List.flatten_cons,List.length_append,List.length_cons,ih (fun r h=>hk r (by simp[h])),hk r (by simp),Nat.add_mul];omega
 have hnm:n=m:=by
  have h5:=hown.1
  have h6:=hvs.length
  have:n*k=m*k:=by rw[←hm];omega
  exact Nat.eq_of_mul_eq_mul_right hk0 this
 subst hnm
 obtain ⟨h5,h6,h7⟩:=hown
 rcases h7 with ⟨ea,rfl,rfl⟩|⟨b',junk,ea,rfl,hj⟩
 ·refine ⟨I,.refl _,⟨ht,B,hB,by simpa using hS2⟩,?_⟩
  rintro v ⟨b2,c2,e2,rfl⟩
  rw[e1] at e2
  simp only[Option.some.injEq,Prod.mk.injEq] at e2
  obtain ⟨rfl,rfl⟩:=e2
  have h0:rows=[]:=List.eq_nil_of_length_eq_zero (by omega)
  subst h0
  exact ⟨adr b,n,0,rfl,hm.symm,h6,fun _=>rfl,trivial⟩
 ·cases b with
  |none=>simp[adr] at ea
  |some b=>
   simp[adr] at ea
   subst ea
   obtain ⟨hl,hS3⟩:=SL.freeze (by simpa using hS2:SL I.k ((b,.cells (vs++junk).toArray T (0,0))::(B++F)) E w)
   let J:G:=⟨I.k.put b (.cells (vs++junk).toArray T (0,0)),I.h⟩
   have hle:I.le J:=⟨hl,fun _ _ h=>h⟩
   have hb:J.k b=some (.cells (vs++junk).toArray T (0,0)):=bI.put_same _ _ _
   refine ⟨J,hle,⟨ht,B,hB.mono hle,hS3⟩,?_⟩
   rintro v ⟨b2,c2,e2,rfl⟩
   rw[e1] at e2
   simp only[Option.some.injEq,Prod.mk.injEq] at e2
   obtain ⟨rfl,rfl⟩:=e2
   refine ⟨adr (some b),n,c,rfl,hm.symm,h6,fun h=>by simp[adr] at h,RepR.of_flat hb rows vs 0 hk (qj hle _ _ hvs) fun i u hu=>?_⟩
   rw[Nat.zero_mul,Nat.zero_add,List.getElem?_toArray,List.getElem?_append_left (List.getElem?_eq_some_iff.1 hu).1]
   exact hu
theorem aX.know {t i k m:Nat} {T:TypeId} {rows:List (List AV)} (hv:env t=.own i m) (hO:dB O i (.grow k T rows.flatten) O') (hk:∀r∈rows,r.length=k) (hk0:0<k) (hm:rows.length=m):aX E env O (br env t (.fro k rows)) O':=fun I F ρ w h1 h2=>by
 obtain ⟨J,hle,h3,h4⟩:=Go.Proofs.YtdilpodccjlkgaaGreatDoor.know hO hk hk0 hm h2
 refine ⟨J,hle,fun s=>?_,h3⟩
 unfold br
 cases hb:Nat.beq s t with
 |false=>exact bq.mono hle _ _ (h1 s)
 |true=>
  have:s=t:=Nat.eq_of_beq_eq_true hb
  subst this
  exact h4 _ (hv▸h1 s)
end
end Go.Proofs.YtdilpodccjlkgaaGreatDoor
namespace Go.Proofs.YtdilpodccjlkgaaGreatDoor
theorem da.mono {P:Program} {ops:Array Oper} {S0 S0' S S':World→Prop} {W:Nat→Bool} {Q Q':dD→World→Prop} (hS0:∀w,S0 w→S0' w) (hS:∀w,S w→S' w) (hQ:∀ρ w,Q ρ w→Q' ρ w):∀(fuel:Nat) (listed:Array Bool) (ρ:dD) (w:World),
  da P ops S0 S W Q fuel listed ρ w→da P ops S0' S' W Q' fuel listed ρ w
 |0,_,_,_,h=>⟨h.1,hQ _ _ h.2⟩
 |fuel+1,_,_,_,h=>⟨fun h0=>hQ _ _ (h.1 h0),fun i hi o ho=>q4 (fun _ _ ⟨a,b⟩=>⟨⟨hS0 _ a.1,a.2.imp id (hS _)⟩,da.mono hS0 hS hQ fuel _ _ _ b⟩) _ _ _ (h.2 i hi o ho)⟩
def eS (J0:bI) (L:List (Nat × Obj)) (E:World) (w:World):Prop:=∃J L',J0.le J∧SL J L' E w∧∀y∈L,y∈L'
def bX (P:Program) (E:World) (l:List Oper) (W:Nat→Bool) (Q:aS→OL→Prop) (fuel:Nat) (listed:Array Bool) (env:aS) (Os Om:OL):Prop:=
 ∀I F ρ w Ls,ep I env ρ→bt I Os Ls→gt I Om (Ls++F) E w→da P l.toArray (eS I.k [] E) (eS I.k Ls E) W (iv I F E Q) fuel listed ρ w
def m7 (P:Program) (E:World) (l:List Oper) (W:Nat→Bool) (Q:aS→OL→Prop) (fuel:Nat) (listed:Array Bool) (env:aS) (O:OL):Prop:=
 ∀I F ρ w,ep I env ρ→gt I O F E w→∀S,da P l.toArray (eS I.k [] E) S W (iv I F E Q) fuel listed ρ w
theorem gt.here {I:G} {Om:OL} {Ls F:List (Nat × Obj)} {E w:World} (h:gt I Om (Ls++F) E w):eS I.k Ls E w:=by
 obtain ⟨_,L,_,hS⟩:=h
 exact ⟨I.k,_,.refl _,hS,fun y hy=>by simp[hy]⟩
theorem gt.together {I:G} {Os Om:OL} {Ls F:List (Nat × Obj)} {E w:World} (hs:bt I Os Ls) (h:gt I Om (Ls++F) E w):gt I (Os++Om) F E w:=by
 obtain ⟨ht,L,hL,hS⟩:=h
 refine ⟨ht,Ls++L,bt.append.2 ⟨Ls,L,rfl,hs,hL⟩,hS.perm ?_⟩
 rw[←List.append_assoc]
 exact (List.perm_append_comm).append_right F
theorem eS.less {J0:bI} {L:List (Nat × Obj)} {E w:World} (h:eS J0 L E w):eS J0 [] E w:=let ⟨J,L',a,b,_⟩:=h;⟨J,L',a,b,fun _ h=>(by cases h)⟩
section
variable {E:World} {P:Program} {n:Nat} {l:List Oper} {W:Nat→Bool} {Q:aS→OL→Prop} {fuel:Nat} {listed:Array Bool} {env:aS} {O Os Om:OL}
variable {d ty:Nat} {op:Op} {pos:String} {af:Array Edge}
theorem dN.regionDraw (W:Nat→Bool) {Q:Exit→aS→OL→Prop} {id:Nat} (hm:P.follows .mixedOrders=true) (hd:gz n l=true) (hO:O.Perm (Om++Os)) (h:bX P E l W (Q .normal) l.length (Array.replicate l.length false) env Os Om):dN P E n (.region id l.toArray true) Q env O:=fun I F ρ w h1 h2=>by
 obtain ⟨Ls,hLs,h3⟩:=h2.split hO
 refine WP.regionDraw (eS I.k [] E) (eS I.k Ls E) W hm hd fun w' hw=>?_
 subst hw
 refine h I F ρ _ Ls h1 hLs ?_
 obtain ⟨ht,L,hL,hS⟩:=h3
 exact ⟨ht,L,hL,hS.drew⟩
theorem AD {i:Nat} (hr:Region.ready .any l.toArray listed=[i]) (hW:(W i||!fL W listed)=true):eR W (listed.setIfInBounds i true):=by
 have h1:=(mem_ready.1 (show i∈Region.ready .any l.toArray listed by rw[hr];exact .head _)).1
 have hi:i<listed.size:=by
  rcases Nat.lt_or_ge i listed.size with h|h
  ·exact h
  ·rw[Array.getD_eq_getD_getElem?,Array.getElem?_eq_none h] at h1;cases h1
 rcases Bool.or_eq_true_iff.1 hW with h|h
 ·refine ⟨i,?_,h⟩
  rw[Array.getD_eq_getD_getElem?,Array.getElem?_setIfInBounds,if_pos rfl,if_pos hi];rfl
 ·refine lu ?_
  have h:fL W listed=false:=by simpa using h
  unfold fL at h
  obtain ⟨j,_,hj⟩:=List.all_eq_false.1 h
  simp only[Bool.not_eq_true,Bool.not_eq_false',Bool.and_eq_true] at hj
  exact ⟨j,by simpa using hj⟩
theorem bX.takeK {i:Nat} {x:AV} (hi:l[i]?=some (Oper.mk (some d) op ty pos af none)) (hs:Region.noSelect l.toArray=true) (hf:Region.free .any l.toArray listed i=true)
  (hr:(Region.ready .any l.toArray listed).contains i=true) (hWi:W i=false) (hg:Gv P env [] (Oper.mk (some d) op ty pos af none) x)
  (h:bX P E l W Q fuel (listed.setIfInBounds i true) (br env d x) Os Om):bX P E l W Q (fuel+1) listed env Os Om:=fun I F ρ w Ls h1 hLs h2=>by
 obtain ⟨v,hv,hrun⟩:=hg I [] E ρ h1 rfl
 exact da.takeK hi hs hf hr hWi h2.here.less (.inr h2.here) (fun w ⟨J,L',a,b,c⟩=>hrun w J L' a b c) (h I F _ w Ls (h1.upd d hv) hLs h2)
theorem bX.take {i:Nat} {x:AV} (hi:l[i]?=some (Oper.mk (some d) op ty pos af none)) (hs:Region.noSelect l.toArray=true) (hf:Region.free .any l.toArray listed i=true)
  (hr:(Region.ready .any l.toArray listed).contains i=true) (hW:gC l i W=true) (hWi:W i=false) (hcl:fL W listed=true) (hg:Gv P env Os (Oper.mk (some d) op ty pos af none) x)
  (h:bX P E l W Q fuel (listed.setIfInBounds i true) (br env d x) Os Om):bX P E l W Q (fuel+1) listed env Os Om:=fun I F ρ w Ls h1 hLs h2=>by
 obtain ⟨v,hv,hrun⟩:=hg I Ls E ρ h1 hLs
 exact da.take hi hs hf hr hW hWi hcl h2.here.less h2.here (fun w ⟨J,L',a,b,c⟩=>hrun w J L' a b c) (h I F _ w Ls (h1.upd d hv) hLs h2)
theorem bX.takeT {i j s:Nat} {b t:Bool} {x:AV} (hi:l[i]?=some (Oper.mk (some d) op ty pos af (some (j,b)))) (hg0:(l[j]?).bind (fun o:Oper=>o.dst)=some s) (hv0:env s=.bool t) (ht:t=b) (hs:Region.noSelect l.toArray=true) (hf:Region.free .any l.toArray listed i=true)
  (hr:(Region.ready .any l.toArray listed).contains i=true) (hW:gC l i W=true) (hWi:W i=false) (hcl:fL W listed=true) (hg:Gv P env Os (Oper.mk (some d) op ty pos af none) x)
  (h:bX P E l W Q fuel (listed.setIfInBounds i true) (br env d x) Os Om):bX P E l W Q (fuel+1) listed env Os Om:=fun I F ρ w Ls h1 hLs h2=>by
 obtain ⟨v,hv,hrun⟩:=hg I Ls E ρ h1 hLs
 exact da.takeT hi hg0 (by have:=h1 s;rw[hv0] at this;exact this) ht hs hf hr hW hWi hcl h2.here.less h2.here (fun w ⟨J,L',a,b,c⟩=>hrun w J L' a b c) (h I F _ w Ls (h1.upd d hv) hLs h2)
theorem bX.takeF {i j s:Nat} {b t:Bool} (hi:l[i]?=some (Oper.mk (some d) op ty pos af (some (j,b)))) (hg0:(l[j]?).bind (fun o:Oper=>o.dst)=some s) (hv0:env s=.bool t) (ht:t=!b) (hs:Region.noSelect l.toArray=true) (hf:Region.free .any l.toArray listed i=true)
  (hr:(Region.ready .any l.toArray listed).contains i=true) (hW:gC l i W=true) (hWi:W i=false) (hcl:fL W listed=true)
  (h:bX P E l W Q fuel (listed.setIfInBounds i true) (br env d (.raw undef)) Os Om):bX P E l W Q (fuel+1) listed env Os Om:=fun I F ρ w Ls h1 hLs h2=>
 da.takeF hi hg0 (by have:=h1 s;rw[hv0] at this;exact this) ht hs hf hr hW hWi hcl h2.here.less h2.here (h I F _ w Ls (h1.upd d rfl) hLs h2)
theorem bX.one {i:Nat} {o:Oper} (hi:l[i]?=some o) (hr:Region.ready .any l.toArray listed=[i])
  (h:az P E l.toArray (fun env' Om'=>bX P E l W Q fuel (listed.setIfInBounds i true) env' Os Om') [o] env Om):bX P E l W Q (fuel+1) listed env Os Om:=fun I F ρ w Ls h1 hLs h2=>
 da.one hi hr (q4 (fun ρ' w' ⟨J,env',Om',a,b,c,d⟩=>by
  have hst:eS I.k Ls E w':=by
   obtain ⟨J',L',h3,h4,h5⟩:=c.here
   exact ⟨J',L',a.k.trans h3,h4,h5⟩
  refine ⟨⟨hst.less,.inr hst⟩,da.mono ?_ ?_ (fun _ _=>q5 a) _ _ _ _ (d J F ρ' w' Ls b (hLs.mono a) c)⟩
  ·rintro w ⟨J',L',h3,h4⟩;exact ⟨J',L',a.k.trans h3,h4⟩
  ·rintro w ⟨J',L',h3,h4⟩;exact ⟨J',L',a.k.trans h3,h4⟩) _ _ _ (h I (Ls++F) ρ w h1 h2))
theorem bX.done (hr:Region.ready .any l.toArray listed=[]) (h:Q env (Os++Om)):bX P E l W Q fuel listed env Os Om:=fun I F ρ w Ls h1 hLs h2=>
 da.done hr ⟨I,env,Os++Om,.refl _,h1,gt.together hLs h2,h⟩
theorem bX.case {t:Bool} {s:Nat} (_:env s=.bool t) (h1:t=true→bX P E l W Q fuel listed env Os Om) (h2:t=false→bX P E l W Q fuel listed env Os Om):bX P E l W Q fuel listed env Os Om:=by
 cases t
 ·exact h2 rfl
 ·exact h1 rfl
theorem bX.writes (h:m7 P E l W Q fuel listed env (Os++Om)):bX P E l W Q fuel listed env Os Om:=fun I F ρ w Ls h1 hLs h2=>h I F ρ w h1 (gt.together hLs h2) _
theorem m7.one {i:Nat} {o:Oper} (hi:l[i]?=some o) (hr:Region.ready .any l.toArray listed=[i]) (hW:(W i||!fL W listed)=true)
  (h:az P E l.toArray (fun env' O'=>m7 P E l W Q fuel (listed.setIfInBounds i true) env' O') [o] env O):m7 P E l W Q (fuel+1) listed env O:=fun I F ρ w h1 h2 S=>
 da.one hi hr (q4 (fun ρ' w' ⟨J,env',O',a,b,c,d⟩=>⟨⟨(by
  obtain ⟨_,L',_,h4⟩:=c
  exact ⟨J.k,_,a.k,h4,fun _ h=>(by cases h)⟩),.inl (AD hr hW)⟩,da.mono (fun _ ⟨J',L',h3,h4⟩=>⟨J',L',a.k.trans h3,h4⟩) (fun _ h=>h) (fun _ _=>q5 a) _ _ _ _ (d J F ρ' w' b c S)⟩) _ _ _ (h I F ρ w h1 h2))
theorem m7.done (hr:Region.ready .any l.toArray listed=[]) (h:Q env O):m7 P E l W Q fuel listed env O:=fun I F ρ w h1 h2 S=>
 da.done hr ⟨I,env,O,.refl _,h1,h2,h⟩
end
theorem RepL.same {I J:G} (hle:I.le J):∀{cs:List AV} {vs:List Value},RepL I cs vs→∀{off:Nat} {x y:AV},cs[off]?=some x→(∀v,bq I x v→bq J y v)→RepL J (cs.set off y) vs
 |[],_,_,_,_,_,h,_=>by simp at h
 |c::cs,_,⟨v,us,e,h1,h2⟩,off,x,y,h,hxy=>by
  subst e
  cases off with
  |zero=>simp at h;subst h;exact ⟨v,us,rfl,hxy v h1,qj hle _ _ h2⟩
  |succ off=>exact ⟨v,us,rfl,bq.mono hle _ _ h1,RepL.same hle h2 (by simpa using h) hxy⟩
section
variable {E:World} {P:Program} {n:Nat} {env:aS} {O O' O'':OL}
theorem fD.same {I J:G} {F:List (Nat × Obj)} {E w:World} {j off:Nat} {T:TypeId} {cs:List AV} {x y:AV} (hle:I.le J) (hk:J.k=I.k∨True) (hp:fD O j (.cells T cs) (.cells T (cs.set off y)) O') (hc:cs[off]?=some x) (hxy:∀v,bq I x v→bq J y v)
  {L:List (Nat × Obj)} (hL:bt I O L):∃L',bt J O' L'∧L.Perm L':=by
 obtain ⟨A,B,hp1,⟨b,c,vs,e1,hvs,hvc,rfl⟩,hback⟩:=hp.rep hL
 obtain ⟨L',h1,h2⟩:=hback hle (A':=[(b,.cells vs.toArray T (0,0))]) ⟨b,c,vs,hle.h _ _ e1,hvs.same hle hc hxy,hvc,rfl⟩
 exact ⟨L',h1,hp1.trans h2.symm⟩
theorem aX.knowC {j off i k m:Nat} {T T':TypeId} {cs:List AV} {rows:List (List AV)} (hO:dB O i (.grow k T rows.flatten) O') (hP:fD O' j (.cells T' cs) (.cells T' (cs.set off (.fro k rows))) O'') (hc:cs[off]?=some (.own i m))
  (hk:∀r∈rows,r.length=k) (hk0:0<k) (hm:rows.length=m):aX E env O env O'':=fun I F ρ w h1 h2=>by
 obtain ⟨J,hle,h3,h4⟩:=Go.Proofs.YtdilpodccjlkgaaGreatDoor.know hO hk hk0 hm h2
 obtain ⟨ht,L,hL,hS⟩:=h3
 obtain ⟨_,L0,hL0,hS0⟩:=h2
 obtain ⟨A,B,hp,⟨b,c,vs,e1,hvs,hvc,rfl⟩,hback⟩:=hP.rep hL
 obtain ⟨A0,B0,hp0,_,hB0⟩:=hO.rep hL0
 obtain ⟨A1,B1,hp1,⟨b1,c1,vs1,e2,hvs1,hvc1,rfl⟩,_⟩:=hP.rep hB0
 have e3:=hle.h _ _ e2
 simp only at e1 e3
 rw[e1] at e3
 simp only[Option.some.injEq,Prod.mk.injEq] at e3
 obtain ⟨rfl,rfl⟩:=e3
 have hS1:SL I.k (A0++(B0++F)) E w:=hS0.perm (by rw[←List.append_assoc];exact (hp0.append_right F).symm)
 have hv1:=hS1.own (b,.cells vs1.toArray T' (0,0)) (by simp;right;left;exact hp1.mem_iff.2 (by simp))
 have hv:=hS.own (b,.cells vs.toArray T' (0,0)) (by simp;left;exact hp.mem_iff.2 (by simp))
 simp only at hv hv1
 rw[hv] at hv1
 simp only[Option.some.injEq,Obj.cells.injEq] at hv1
 have hvv:vs=vs1:=by have:=congrArg Array.toList hv1.1;simpa using this
 subst hvv
 obtain ⟨L',h5,h6⟩:=hback (qd J) (A':=[(b,.cells vs.toArray T' (0,0))]) ⟨b,c,vs,e1,hvs1.same hle hc h4,hvc,rfl⟩
 exact ⟨J,hle,h1.mono hle,ht,L',h5,hS.perm (((h6.trans hp.symm).append_right F))⟩
theorem fe {j off k:Nat} {T T':TypeId} {cs:List AV} {c:Code} {Q:Exit→aS→OL→Prop} {f:Nat→OL} (hP:∀i,fD O j (.cells T' cs) (.cells T' (cs.set off (.own i 0))) (f i)) (hc:cs[off]?=some (.raw (.slice none 0 0)))
  (h:∀i,dN P E n c Q env ((i,.grow k T [])::f i)):dN P E n c Q env O:=fun I F ρ w h1 h2=>by
 obtain ⟨i,hi⟩:=h2.name
 obtain ⟨J,e1,hle,e2,htop⟩:=hi (none,0)
 obtain ⟨_,L,hL,hS⟩:=h2
 obtain ⟨L',h3,h4⟩:=fD.same (F:=F) (E:=E) (w:=w) hle (.inr trivial) (hP i) hc (fun v hv=>⟨none,0,e2,hv⟩) hL
 exact (h i J F ρ w (h1.mono hle) ⟨htop,_,⟨[],L',rfl,⟨none,0,0,[],e2,rfl,by simp,fC.nil k T⟩,h3⟩,by rw[e1];exact hS.perm (h4.symm.append_right F)⟩).mono fun _ _ _=>lX.up hle
end
def AV.plain:AV→Bool
 |.bool _ | .int _ _ | .str _=>true
 |_=>false
theorem AV.plain_rep {I J:G} {x:AV} {v:Value} (hp:x.plain=true) (h:bq I x v):bq J x v:=by
 cases x<;>first|exact h|cases hp
theorem AE {k:Nat} {rows:List (List AV)} (hk:∀r∈rows,r.length=k):rows.flatten.length=rows.length*k:=by
 induction rows with
 |nil=>simp
 |cons r rows ih=>simp only[List.flatten_cons,List.length_append,List.length_cons,ih (fun r h=>hk r (by simp[h])),hk r (by simp),Nat.add_mul];omega
end Go.Proofs.YtdilpodccjlkgaaGreatDoor
namespace Go.Proofs.YtdilpodccjlkgaaGreatDoor
inductive tm:OL→OL→OL→Prop
 |rest (O):tm O O []
 |l {x O A B}:tm O A B→tm (x::O) (x::A) B
 |r {x O A B}:tm O A B→tm (x::O) A (x::B)
theorem tm.perm {O A B:OL} (h:tm O A B):O.Perm (A++B):=by
 induction h with
 |rest=>simp
 |l _ ih=>exact ih.cons _
 |r _ ih=>exact (ih.cons _).trans List.perm_middle.symm
section
variable {E:World} {P:Program} {n:Nat} {ops:Array Oper} {K:aS→OL→Prop} {env:aS} {O O':OL} {rest:List Oper}
variable {d ty:Nat} {pos:String} {af:Array Edge} {x y z:Operand} {t u e:TypeId}
theorem az.storeW {i m:Nat} {T:TypeId} {v:AV} {cs l:List AV} (hs:∀w,(sizeOf t).run P w=.ok m w) (hx:aV env x=.po i 0) (hy:aV env y=v) (hv:v.sto=true) (hl:v.cs=l) (hl1:l.all AV.cell=true) (hn:l.length=m)
  (hO:fD O i (.cells T cs) (.cells T l) O') (hb:cs.length=m) (k:az P E ops K rest env O'):az P E ops K (Oper.mk none (.store t x y) ty pos af none::rest) env O:=
 az.storeC (off:=0) hs hx hy hv hl hl1 hn hO (by rw[hb];simp) (by rw[Nat.zero_add,List.drop_eq_nil_of_le (by omega)];simp) k
theorem az.storeG {i off m k:Nat} {T:TypeId} {v:AV} {cs l new:List AV} (hs:∀w,(sizeOf t).run P w=.ok m w) (hx:aV env x=.po i off) (hy:aV env y=v) (hv:v.sto=true) (hl:v.cs=l) (hl1:l.all AV.cell=true) (hn:l.length=m)
  (hO:fD O i (.grow k T cs) (.grow k T new) O') (hb:off+m≤cs.length) (hm:0<m) (hnew:cs.take off++l++cs.drop (off+m)=new) (kk:az P E ops K rest env O'):az P E ops K (Oper.mk none (.store t x y) ty pos af none::rest) env O:=fun I F ρ w h1 h2=>by
 obtain ⟨htop,L,hL,hS⟩:=h2
 have h3:=h1.ev x
 rw[hx] at h3
 obtain ⟨b,c,e1,e⟩:=h3
 have h4:=h1.ev y
 rw[hy] at h4
 have h5:=AV.cs_rep h4 hv
 rw[hl] at h5
 obtain ⟨A,B,hp,⟨b',c',n',vs,e2,h6,h6c,hown⟩,hback⟩:=hO.rep hL
 simp only at e2
 rw[e1] at e2
 simp only[Option.some.injEq,Prod.mk.injEq] at e2
 obtain ⟨rfl,rfl⟩:=e2
 obtain ⟨g1,g2,g3⟩:=hown
 rcases g3 with ⟨g3,_,_⟩|⟨b'',junk,g3,rfl,g4⟩
 ·simp[adr] at g3
 simp[adr] at g3
 subst g3
 have hS2:SL I.k ((b,.cells (vs++junk).toArray T (0,0))::(B++F)) E w:=hS.perm ((hp.append_right F).symm)
 have hlen:=h6.length
 have hrun:=m6 (P:=P) (t:=t) (b:=b) (off:=off) (v:=ev ρ y) (vs:=(ev ρ y).cells.toList) (old:=vs++junk) (w:=w) hs (by simp) (by rw[h5.length,hn]) (h5.cell1 hl1) (by rw[List.length_append];omega) (hS2.own _ (.head _))
 have hre:(vs++junk).take off++(ev ρ y).cells.toList++(vs++junk).drop (off+m)=(vs.take off++(ev ρ y).cells.toList++vs.drop (off+m))++junk:=by
  rw[List.take_append_of_le_length (by omega),List.drop_append_of_le_length (by omega)];simp
 rw[hre] at hrun
 refine qf rfl ?_
 unfold iN
 have:(execOp (ev ρ) (Oper.mk none (.store t x y) ty pos af none)).run P w=.ok .skip (w.setRow b ((vs.take off++(ev ρ y).cells.toList++vs.drop (off+m))++junk).toArray):=by
  simp only[execOp,e]
  rw[Sem.run_bind,hrun];rfl
 rw[this]
 have hnr:RepL I new (vs.take off++(ev ρ y).cells.toList++vs.drop (off+m)):=hnew▸((h6.take off).append h5).append (h6.drop (off+m))
 have hnl:(vs.take off++(ev ρ y).cells.toList++vs.drop (off+m)).length=vs.length:=by
  have:=h5.length
  simp only[List.length_append,List.length_take,List.length_drop];omega
 obtain ⟨L',h7,h8⟩:=hback (qd I) (A':=[(b,.cells ((vs.take off++(ev ρ y).cells.toList++vs.drop (off+m))++junk).toArray T (0,0))]) ⟨some b,_,n',_,e1,hnr,by
  intro u hu
  simp only[List.mem_append] at hu
  rcases hu with (hu|hu)|hu
  ·exact h6c u (List.mem_of_mem_take hu)
  ·exact h5.cell1 hl1 u hu
  ·exact h6c u (List.mem_of_mem_drop hu),by rw[hnl];exact g1,g2,.inr ⟨b,junk,rfl,rfl,by
   simp only[List.length_append] at g4 ⊢
   simp only[List.length_append] at hnl
   omega⟩⟩
 exact kk I F ρ _ h1 ⟨htop,L',h7,(hS2.turn1).perm (h8.append_right F)⟩
theorem az.storeG1 {i off k:Nat} {T:TypeId} {v:AV} {cs:List AV} (hs:∀w,(sizeOf t).run P w=.ok 1 w) (hx:aV env x=.po i off) (hy:aV env y=v) (hv:v.sto=true) (hl:v.cs=[v]) (hl1:v.cell=true)
  (hO:fD O i (.grow k T cs) (.grow k T (cs.set off v)) O') (hb:off<cs.length) (kk:az P E ops K rest env O'):az P E ops K (Oper.mk none (.store t x y) ty pos af none::rest) env O:=
 az.storeG hs hx hy hv hl (by simp[hl1]) rfl hO (by omega) (by omega) (by rw[List.set_eq_take_append_cons_drop,if_pos hb];simp) kk
theorem Gv.field1 {fs:Array Field} {f:Field} {i:Nat} {cs:List AV} {v:AV} (ht:P.underlying t=some (.struct fs)) (hf:fs[i]?=some f) (ha:∀w,(isAgg f.type).run P w=.ok false w) (hx:aV env x=.agg cs) (hv:cs[f.offset]?=some v) :
  Gv P env O (Oper.mk (some d) (.field t x i) ty pos af none) v:=Gv.ofEv fun I ρ h=>by
 have h2:=h.ev x
 rw[hx] at h2
 obtain ⟨vs,e,hr⟩:=h2
 obtain ⟨u,hu,hru⟩:=hr.get hv
 exact ⟨u,hru,fun w=>by simp[execOp,e,Instr.field,run_underlying ht,hf,part,ha,hu,asAgg,Result.andThen]⟩
theorem Gv.idxAF {n k j:Nat} {i:Int} {cs cs':List AV} (ht:P.underlying t=some (.array n e)) (hs:∀w,(sizeOf e).run P w=.ok k w) (hx:aV env x=.pf cs) (hy:aV env y=.int .i64 i) (hi:i=(j:Int)) (hj:j<n) (hl:cs.drop (j*k)=cs') :
  Gv P env O (Oper.mk (some d) (.indexAddr t x y) ty pos af none) (.pf cs'):=fun I L E ρ h1 _=>by
 have h2:=h1.ev x
 rw[hx] at h2
 obtain ⟨b,off,vs,ex,h3,h5⟩:=h2
 refine ⟨.pointer (some ⟨b,off+j*k,none⟩),⟨b,_,vs.drop (j*k),rfl,hl▸h3.drop _,fun m u hu=>?_⟩,fun w J L' _ _ _=>?_⟩
 ·rw[List.getElem?_drop] at hu
  have:=h5 _ _ hu
  rwa [←Nat.add_assoc] at this
 ·subst hi
  simp[execOp,ex,fB h1 hy,Instr.indexAt,asIntOf,run_underlying ht,hs,hj,dy,Instr.sureAddr]
theorem Gv.idxAO {n k j id off:Nat} {i:Int} (ht:P.underlying t=some (.array n e)) (hs:∀w,(sizeOf e).run P w=.ok k w) (hx:aV env x=.po id off) (hy:aV env y=.int .i64 i) (hi:i=(j:Int)) (hj:j<n) {r:Nat} (hr:off+j*k=r) :
  Gv P env O (Oper.mk (some d) (.indexAddr t x y) ty pos af none) (.po id r):=fun I L E ρ h1 _=>by
 have h2:=h1.ev x
 rw[hx] at h2
 obtain ⟨b,c,e1,ex⟩:=h2
 refine ⟨.pointer (some ⟨b,r,none⟩),⟨b,c,e1,rfl⟩,fun w J L' _ _ _=>?_⟩
 subst hi hr
 simp[execOp,ex,fB h1 hy,Instr.indexAt,asIntOf,run_underlying ht,hs,hj,dy,Instr.sureAddr]
theorem Gv.index1 {n j:Nat} {i:Int} {cs:List AV} {v:AV} (ht:P.underlying t=some (.array n e)) (ha:∀w,(isAgg e).run P w=.ok false w) (hs:∀w,(sizeOf e).run P w=.ok 1 w) (hx:aV env x=.agg cs) (hy:aV env y=.int .i64 i) (hi:i=(j:Int)) (hj:j<n) (hv:cs[j]?=some v) :
  Gv P env O (Oper.mk (some d) (.index t x y) ty pos af none) v:=Gv.ofEv fun I ρ h=>by
 have h2:=h.ev x
 rw[hx] at h2
 obtain ⟨vs,ex,hr⟩:=h2
 obtain ⟨u,hu,hru⟩:=hr.get hv
 refine ⟨u,hru,fun w=>?_⟩
 subst hi
 simp[execOp,ex,fB h hy,Instr.index,asIntOf,run_underlying ht,hj,hs,part,ha,hu,Result.andThen]
theorem Gv.indexA {n j k:Nat} {i:Int} {cs l:List AV} (ht:P.underlying t=some (.array n e)) (ha:∀w,(isAgg e).run P w=.ok true w) (hs:∀w,(sizeOf e).run P w=.ok k w) (hx:aV env x=.agg cs) (hy:aV env y=.int .i64 i) (hi:i=(j:Int)) (hj:j<n) (hl:(cs.drop (j*k)).take k=l) :
  Gv P env O (Oper.mk (some d) (.index t x y) ty pos af none) (.agg l):=Gv.ofEv fun I ρ h=>by
 have h2:=h.ev x
 rw[hx] at h2
 obtain ⟨vs,ex,hr⟩:=h2
 refine ⟨.agg ((vs.drop (j*k)).take k).toArray,⟨_,rfl,hl▸(hr.drop _).take _⟩,fun w=>?_⟩
 subst hi
 simp[execOp,ex,fB h hy,Instr.index,asIntOf,run_underlying ht,hj,hs,part,ha,Result.andThen]
theorem Gv.indexT {j:Nat} {i:Int} {s:ByteArray} {c:UInt8} (ht:P.underlying t=some .string) (hx:aV env x=.str s) (hy:aV env y=.int .i64 i) (hi:i=(j:Int)) (hv:s.data[j]?=some c) :
  Gv P env O (Oper.mk (some d) (.index t x y) ty pos af none) (.int .u8 c.toNat):=Gv.ofEv fun I ρ h=>by
 refine ⟨_,rfl,fun w=>?_⟩
 subst hi
 have hj:s[j]?=some c:=by
  have h1:=(Array.getElem?_eq_some_iff.1 hv)
  obtain ⟨h1,h2⟩:=h1
  show (if h:j<s.size then some s[j] else none)=some c
  rw[dif_pos (show j<s.size from h1)];exact congrArg some h2
 simp[execOp,CK h hx,fB h hy,Instr.index,asIntOf,run_underlying ht,hj]
theorem az.rangeT {s:ByteArray} (ht:P.underlying t=some .string) (hx:aV env x=.str s) (k:∀i,az P E ops K rest (br env d (.po i 0)) ((i,.iter s 0)::O)):az P E ops K (Oper.mk (some d) (.range t x) ty pos af none::rest) env O:=fun I F ρ w h1 h2=>by
 obtain ⟨L,hL,hS⟩:=h2.2
 obtain ⟨i,hi⟩:=h2.name
 refine cA.rangeT ht hS (CK h1 hx) fun b w' hS'=>?_
 obtain ⟨J,e1,hle,e2,htop⟩:=hi (some b,0)
 exact q4 (fun _ _=>q5 hle) _ _ _ (k i J F _ _ ((h1.mono hle).upd d ⟨b,0,e2,rfl⟩) ⟨htop,_,⟨_,L,rfl,⟨b,0,e2,rfl⟩,hL.mono hle⟩,by rw[e1];exact hS'⟩)
theorem az.nextT {i p:Nat} {s:ByteArray} (hx:aV env x=.po i 0) (hO:fD O i (.iter s p) (.iter s (p+(Utf8.decode s p).2)) O') (hp:p<s.size)
  (k:az P E ops K rest (br env d (.tup [.bool true,.int .i64 p,.int .i32 (Utf8.decode s p).1])) O'):az P E ops K (Oper.mk (some d) (.next x true) ty pos af none::rest) env O:=fun I F ρ w h1 h2=>by
 obtain ⟨ht,L,hL,hS⟩:=h2
 have h3:=h1.ev x
 rw[hx] at h3
 obtain ⟨b,c,e1,e⟩:=h3
 obtain ⟨A,B,hp1,⟨b',c',e2,rfl⟩,hback⟩:=hO.rep hL
 simp only at e2
 rw[e1] at e2
 simp only[Option.some.injEq,Prod.mk.injEq] at e2
 obtain ⟨rfl,rfl⟩:=e2
 have hS2:SL I.k ((b,.stringIter s p)::(B++F)) E w:=hS.perm ((hp1.append_right F).symm)
 refine cA.nextT hS2 e hp fun w' hS'=>?_
 obtain ⟨L',h7,h8⟩:=hback (qd I) (A':=[(b,.stringIter s (p+(Utf8.decode s p).2))]) ⟨b,c,e1,rfl⟩
 exact k I F _ _ (h1.upd d ⟨[.bool true,.int .i64 p,.int .i32 (Utf8.decode s p).1],rfl,⟨_,_,rfl,rfl,⟨_,_,rfl,rfl,⟨_,_,rfl,rfl,rfl⟩⟩⟩⟩) ⟨ht,L',h7,hS'.perm (h8.append_right F)⟩
theorem az.nextTover {i p:Nat} {s:ByteArray} (hx:aV env x=.po i 0) (hO:dB O i (.iter s p) O') (hp:¬p<s.size)
  (k:az P E ops K rest (br env d (.tup [.bool false])) O):az P E ops K (Oper.mk (some d) (.next x true) ty pos af none::rest) env O:=fun I F ρ w h1 h2=>by
 obtain ⟨ht,L,hL,hS⟩:=id h2
 have h3:=h1.ev x
 rw[hx] at h3
 obtain ⟨b,c,e1,e⟩:=h3
 obtain ⟨A,B,hp1,⟨b',c',e2,rfl⟩,_⟩:=hO.rep hL
 simp only at e2
 rw[e1] at e2
 simp only[Option.some.injEq,Prod.mk.injEq] at e2
 obtain ⟨rfl,rfl⟩:=e2
 have hS2:SL I.k ((b,.stringIter s p)::(B++F)) E w:=hS.perm (by have:=(hp1.append_right F).symm;simpa using this)
 exact cA.nextTover hS2 e hp (k I F _ _ (h1.upd d ⟨[.bool false],rfl,⟨_,_,rfl,rfl,rfl⟩⟩) h2)
theorem az.nextA {i p:Nat} {s:ByteArray} {c:UInt8} (hx:aV env x=.po i 0) (hc:s.data[p]?=some c) (hc2:c<128) (hO:fD O i (.iter s p) (.iter s (p+1)) O')
  (k:az P E ops K rest (br env d (.tup [.bool true,.int .i64 p,.int .i32 (c.toNat:Int)])) O'):az P E ops K (Oper.mk (some d) (.next x true) ty pos af none::rest) env O:=by
 have hp:p<s.size:=by
  by_cases hp:p<s.data.size
  ·exact hp
  ·rw[Array.getElem?_eq_none (by omega)] at hc;cases hc
 have hd:=rS hc hc2
 exact az.nextT hx (by rw[hd];exact hO) hp (by rw[hd];exact k)
end
end Go.Proofs.YtdilpodccjlkgaaGreatDoor
namespace Go.Proofs.YtdilpodccjlkgaaGreatDoor
theorem mF {k:Nat}:∀(xs:List (List AV)) (i:Nat) (pre zs:List AV),(∀x∈xs,x.length=k)→zs.length=xs.length*k→pre.length=i*k →
  jL (fun i=>some (i*k,k)) (pre++zs) ((xs.zipIdx i).map fun p=>(p.2,p.1))=some (pre++xs.flatten)
 |[],i,pre,zs,_,h,_=>by simp at h;subst h;simp[jL]
 |x::xs,i,pre,zs,hk,h,hp=>by
  have hx:=hk x (by simp)
  have e1:Nat.beq x.length k=true:=by rw[hx];exact Nat.beq_refl k
  have e2:Nat.ble (i*k+k) (pre++zs).length=true:=by
   rw[Nat.ble_eq,List.length_append,hp,h,List.length_cons,Nat.add_mul];omega
  simp only[List.zipIdx_cons,List.map_cons,jL,e1,e2,Bool.and_self,cond_true]
  have h1:(pre++zs).take (i*k)=pre:=by rw[←hp];simp
  have h2:(pre++zs).drop (i*k+k)=zs.drop k:=by rw[←hp,List.drop_append];simp
  rw[h1,h2,←List.append_assoc]
  rw[mF xs (i+1) (pre++x) (zs.drop k) (fun y hy=>hk y (by simp[hy])) (by rw[List.length_drop,h,List.length_cons,Nat.add_mul];omega) (by rw[List.length_append,hp,hx,Nat.add_mul];omega)]
  simp
theorem wK {α:Type} {enc:α→List AV} {k:Nat} (hk:∀x,(enc x).length=k):∀(l:List α) (j:Nat) {x:α},l[j]?=some x→((l.flatMap enc).drop (j*k)).take k=enc x
 |[],j,x,h=>by simp at h
 |y::l,0,x,h=>by simp at h;subst h;simp[List.take_append_of_le_length,hk]
 |y::l,j+1,x,h=>by
  simp only[List.getElem?_cons_succ] at h
  rw[←wK hk l j h,List.flatMap_cons,Nat.add_mul,Nat.one_mul,Nat.add_comm,←List.drop_drop]
  congr 2
  rw[←hk y];simp
section
variable {E:World} {P:Program} {env:aS} {O:OL} {d ty:Nat} {pos:String} {af:Array Edge} {t:TypeId}
theorem Gv.buildAF {k:Nat} {zs:List AV} {xs:List (List AV)} {l:List (Nat × Operand)} (hpl:lZ P t k zs) (hs:l.all (fun p=>(aV env p.2).sto)=true) (hv:l.map (fun p=>(p.1,(aV env p.2).cs))=(xs.zipIdx 0).map fun p=>(p.2,p.1))
  (hk:xs.all (fun x=>Nat.beq x.length k)=true) (hz:zs.length=xs.length*k):Gv P env O (Oper.mk (some d) (.build t l.toArray) ty pos af none) (.agg xs.flatten):=
 Gv.buildA hpl hs hv (by
  have:=mF xs 0 [] zs (fun x hx=>Nat.eq_of_beq_eq_true (List.all_eq_true.1 hk x hx)) hz (by simp)
  simpa using this)
end
inductive pR:OL→Nat→bS→Nat→bS→OL→Prop
 |head {i o j o' O}:pR ((i,o)::O) i o j o' ((j,o')::O)
 |tail {x O i o j o' O'}:pR O i o j o' O'→pR (x::O) i o j o' (x::O')
theorem pR.rep {I:G} {O O':OL} {i j:Nat} {o o':bS} (h:pR O i o j o' O'):∀{L},bt I O L→∃A B,L.Perm (A++B)∧lW I (i,o) A ∧
  ∀{J:G} {A'},I.le J→lW J (j,o') A'→∃L',bt J O' L'∧L'.Perm (A'++B):=by
 induction h with
 |head=>rintro L ⟨A,B,e,h1,h2⟩;exact ⟨A,B,e▸.refl _,h1,fun {J A'} hl h=>⟨A'++B,⟨A',B,rfl,h,h2.mono hl⟩,.refl _⟩⟩
 |tail h ih=>
  rintro L ⟨A,B,e,h1,h2⟩
  obtain ⟨C,D,hp,h3,h4⟩:=ih h2
  refine ⟨C,A++D,?_,h3,fun {J A'} hl h=>?_⟩
  ·subst e
   refine (hp.append_left A).trans ?_
   rw[←List.append_assoc,←List.append_assoc]
   exact List.perm_append_comm.append_right D
  ·obtain ⟨L',h5,h6⟩:=h4 hl h
   refine ⟨A++L',⟨A,L',rfl,h1.mono hl,h5⟩,?_⟩
   refine (h6.append_left A).trans ?_
   rw[←List.append_assoc,←List.append_assoc]
   exact List.perm_append_comm.append_right D
section
variable {E:World} {P:Program} {ops:Array Oper} {K:aS→OL→Prop} {env:aS} {O O':OL} {rest:List Oper}
variable {d ty:Nat} {pos:String} {af:Array Edge} {x y z:Operand} {t u e:TypeId}
theorem az.appendS {ti:TypeInfo} {zv:Value} {k n i:Nat} {cs:List AV} {rows:List (List AV)} {f:Nat→OL} (ht:P.underlying t=some (.slice e)) (hi:P.info? e=some ti) (hz:ti.zero=some zv) (hk:ti.size=k) (hzc:zv.cells.size=k)
  (hx:aV env x=.own i n) (hy:aV env y=.fro k rows) (hO:∀j,pR O i (.grow k e cs) j (.grow k e (cs++rows.flatten)) (f j)) (hn:cs.length=n*k) (hk0:0<k) (hc1:rows.flatten.all AV.cell=true) (hb:(n+rows.length)*ti.bytes≤140737488355328) (hb2:n+rows.length≤140737488355328)
  (kk:∀j,az P E ops K rest (br env d (.own j (n+rows.length))) (f j)) :
  az P E ops K (Oper.mk (some d) (.call { callee:=.builtin .append,args:=#[x,y],argTypes:=#[t,t] }) ty pos af none::rest) env O:=fun I F ρ w h1 h2=>by
 obtain ⟨htop,L,hL,hS⟩:=id h2
 have h3:=h1.ev x
 rw[hx] at h3
 obtain ⟨b,cap,e1,ex⟩:=h3
 have h4:=h1.ev y
 rw[hy] at h4
 obtain ⟨sa,m,sc,vs,ey,hm,hvs,hvc,hsrc⟩:=CL h4 hc1
 obtain ⟨j,hj⟩:=h2.name
 obtain ⟨A,B,hp,⟨b',cap',n',us,e2,hus,huc,hown⟩,hback⟩:=(hO j).rep hL
 simp only at e2
 rw[e1] at e2
 simp only[Option.some.injEq,Prod.mk.injEq] at e2
 obtain ⟨rfl,rfl⟩:=e2
 have hnn:n'=n:=by
  have h5:=hown.1
  have h6:=hus.length
  have:n'*k=n*k:=by omega
  exact Nat.eq_of_mul_eq_mul_right hk0 this
 subst hnn
 subst hm
 have hS2:SL I.k (A++(B++F)) E w:=hS.perm (by rw[←List.append_assoc];exact (hp.append_right F).symm)
 refine cA.append ht hi hz hk hzc ex ey hS2 hown (hsrc _) hb hb2 fun a' c' A' w' h5 h6 h7=>?_
 have hb':∃b'',a'=adr b'':=by
  rcases h5.2.2 with ⟨e,_⟩|⟨b'',junk,e,_⟩
  ·exact ⟨none,e⟩
  ·exact ⟨some b'',e⟩
 obtain ⟨b'',rfl⟩:=hb'
 obtain ⟨J,ek,hle,e3,htop'⟩:=hj (b'',c')
 obtain ⟨L',h8,h9⟩:=hback hle (A':=A') ⟨b'',c',_,us++vs,e3,qj hle _ _ (hus.append hvs),(by
  intro u hu
  rcases List.mem_append.1 hu with hu|hu
  ·exact huc u hu
  ·exact hvc u hu),h5⟩
 exact q4 (fun _ _=>q5 hle) _ _ _ (kk j J F _ _ ((h1.mono hle).upd d ⟨b'',c',e3,rfl⟩) ⟨htop',L',h8,by rw[ek];exact h6.perm (by rw[←List.append_assoc];exact h9.append_right F)⟩)
end
theorem kM {α:Type} {enc:α→List AV} {xs ys:List α} {x:α} (h:ys=xs++[x]):(xs.map enc).flatten++[enc x].flatten=(ys.map enc).flatten:=by subst h;simp
theorem l5 {α:Type} {enc:α→List AV} {k:Nat} (hk:∀x,(enc x).length=k) (xs:List α):(xs.map enc).flatten.length=xs.length*k:=by
 rw[AE (k:=k) (by simp[hk]),List.length_map]
end Go.Proofs.YtdilpodccjlkgaaGreatDoor
namespace Go.Proofs.YtdilpodccjlkgaaGreatDoor
theorem Eu {I:G} {x v:Value} (h:bq I (lit x) v):v=x:=by cases x<;>exact h
theorem kN {I:G}:∀{xs vs:List Value},RepL I (xs.map lit) vs→vs=xs
 |[],_,h=>h
 |x::xs,_,⟨v,us,e,h1,h2⟩=>by rw[e,Eu h1,kN h2]
section
variable {E:World} {P:Program} {env:aS} {O:OL} {d ty:Nat} {pos:String} {af:Array Edge} {x y:Operand} {t u:TypeId}
theorem Gv.eqlP {xs ys:List Value} {r:Bool} (hg:P.eqGuardType P.depth t=false) (hx:aV env x=.agg (xs.map lit)) (hy:aV env y=.agg (ys.map lit)) (hr:∀w,(Op.equalIn 10000 t (.agg xs.toArray) (.agg ys.toArray)).run P w=.ok r w) :
  Gv P env O (Oper.mk (some d) (.binOp .eql t x y u) ty pos af none) (.bool r):=Gv.ofEv fun I ρ h=>by
 have h1:=h.ev x
 have h2:=h.ev y
 rw[hx] at h1
 rw[hy] at h2
 obtain ⟨vs,e1,hv⟩:=h1
 obtain ⟨us,e2,hu⟩:=h2
 rw[kN hv] at e1
 rw[kN hu] at e2
 exact ⟨_,rfl,fun w=>by simp only[execOp,e1,e2];simp[run_eqGuard_agg w .eql t x y xs.toArray ys.toArray hg,run_eql_struct,hr]⟩
end
theorem FD {α:Type} {xs ys:List α} {k:Nat} (h1:k<xs.length) (h2:k<ys.length) (h:¬xs[k]=ys[k]):¬xs=ys:=fun e=>by subst e;exact h rfl
theorem xT {α:Type} {xs ys:List α} {k:Nat} (h1:k<xs.length) (h2:k<ys.length) (he:xs.take k=ys.take k) (h:xs[k]=ys[k]):xs.take (k+1)=ys.take (k+1):=by
 rw[List.take_succ_eq_append_getElem h1,List.take_succ_eq_append_getElem h2,he,h]
theorem xU {α:Type} {xs ys:List α} {k:Nat} (hl:xs.length=ys.length) (hk:xs.length≤k) (he:xs.take k=ys.take k):xs=ys:=by
 rwa [List.take_of_length_le hk,List.take_of_length_le (by omega)] at he
end Go.Proofs.YtdilpodccjlkgaaGreatDoor
namespace Go.Proofs.YtdilpodccjlkgaaGreatDoor
section
variable {E:World} {P:Program} {ops:Array Oper} {K:aS→OL→Prop} {env:aS} {O O':OL} {rest:List Oper}
variable {d ty:Nat} {pos:String} {af:Array Edge} {x y:Operand} {t u e:TypeId}
theorem az.isNil {k:Nat} {rows:List (List AV)} (ht:P.underlying t=some (.slice e)) (hx:aV env x=.fro k rows) (hy:aV env y=.raw (.slice none 0 0)) (kt:rows=[]→az P E ops K rest (br env d (.bool true)) O) (kf:az P E ops K rest (br env d (.bool false)) O) :
  az P E ops K (Oper.mk (some d) (.binOp .eql t x y u) ty pos af none::rest) env O:=fun I F ρ w h1 h2=>by
 have h3:=h1.ev x
 rw[hx] at h3
 obtain ⟨a,n,c,e1,hn,hnc,hnil,_⟩:=h3
 refine cA.eqNilS ht e1 (fd h1 hy) ?_
 cases a with
 |none=>
  have:rows=[]:=List.eq_nil_of_length_eq_zero (by have:=hnil rfl;omega)
  exact kt this I F _ w (h1.upd d rfl) h2
 |some p=>exact kf I F _ w (h1.upd d rfl) h2
theorem qT {rs:Array ResultVar} {R:AV→OL→Prop} {s k:Nat} {T:TypeId} (hv:env s=.raw (.slice none 0 0)) (h:∀i,dI P E rs R .ret (br env s (.own i 0)) ((i,.grow k T [])::O)):dI P E rs R .ret env O:=fun I F ρ w h1 h2=>by
 obtain ⟨i,hi⟩:=h2.name
 obtain ⟨J,e1,hle,e2,htop⟩:=hi (none,0)
 obtain ⟨_,L,hL,hS⟩:=h2
 have h3:ρ s=.slice none 0 0:=by have:=h1 s;rw[hv] at this;exact this
 obtain ⟨v,g1,K,x,O',g2,g3⟩:=h i J F ρ w (fun q=>by
  unfold br
  cases hb:Nat.beq q s with
  |false=>exact bq.mono hle _ _ (h1 q)
  |true=>
   have:q=s:=Nat.eq_of_beq_eq_true hb
   subst this
   exact ⟨none,0,e2,h3⟩) ⟨htop,_,⟨[],L,rfl,⟨none,0,0,[],e2,rfl,by simp,fC.nil k T⟩,hL.mono hle⟩,by rw[e1];exact hS⟩
 exact ⟨v,g1,K,x,O',hle.trans g2,g3⟩
end
theorem Left.refl (O:OL):Left O O:=⟨O,.refl _,rfl⟩
end Go.Proofs.YtdilpodccjlkgaaGreatDoor
namespace Go.Proofs.YtdilpodccjlkgaaGreatDoor
section
variable {E:World} {P:Program} {ops:Array Oper} {K:aS→OL→Prop} {env:aS} {O O':OL} {rest:List Oper}
variable {d ty:Nat} {pos:String} {af:Array Edge} {x y:Operand} {t u e:TypeId}
theorem xV {k:Nat} {zs:List AV} {xs:List (List AV)} (hk:xs.all (fun x=>Nat.beq x.length k)=true) (hz:zs.length=xs.length*k):jL (fun i=>some (i*k,k)) zs ((xs.zipIdx 0).map fun p=>(p.2,p.1))=some xs.flatten:=by
 have:=mF xs 0 [] zs (fun x hx=>Nat.eq_of_beq_eq_true (List.all_eq_true.1 hk x hx)) hz (by simp)
 simpa using this
theorem az.buildSliceFF {n k:Nat} {zs:List AV} {rows:List (List AV)} {l:List (Nat × Operand)} (hpl:cU P t e n k zs) (hs:l.all (fun p=>(aV env p.2).sto)=true) (hv:l.map (fun p=>(p.1,(aV env p.2).cs))=(rows.zipIdx 0).map fun p=>(p.2,p.1))
  (hk:rows.all (fun r=>Nat.beq r.length k)=true) (hn:rows.length=n) (hz:zs.length=n*k) (kk:az P E ops K rest (br env d (.fro k rows)) O) :
  az P E ops K (Oper.mk (some d) (.buildSlice t n l.toArray) ty pos af none::rest) env O:=
 az.buildSliceF hpl hs hv (xV hk (by rw[hz,hn])) rfl hk hn kk
end
theorem SL.belowE {I:bI} {O:List (Nat × Obj)} {E w:World} (hS:SL I O E w):Go.RowKit.Below E.heap.size E w:=by
 have key:∀k,k<E.heap.size→w.heap[k]?=E.heap[k]?:=fun k hk=>by
  have h1:E.heap[k]?=some E.heap[k]:=Array.getElem?_eq_getElem hk
  rw[h1]
  exact hS.pers _ _ (hS.base k _ h1)
 refine ⟨hS.os,hS.tape,hS.output,?_,key⟩
 rcases Nat.lt_or_ge w.heap.size E.heap.size with h|h
 ·have:=key w.heap.size h
  rw[Array.getElem?_eq_none (Nat.le_refl _),Array.getElem?_eq_getElem h] at this
  cases this
 ·exact h
theorem aK.ofBelow {E:World} {P:Program} {f:FuncId} {fn:Func} {c:Code} {as0:List AV} {vs:List Value} {r:Value} (hf:P.funcs[f]?=some fn) (hb:fn.body=some c) (hn:fn.name≠"runtime.NumGoroutine") (has:as0=vs.map lit)
  (h:∀w,Go.RowKit.Below E.heap.size E w→Calls P f vs.toArray w fun e w'=>e=.returned r∧Go.RowKit.Below w.heap.size w w'):aK P E f as0 (lit r):=fun I F w us h1 h2=>by
 subst has
 rw[kN h1]
 obtain ⟨ht,L,hL,hS⟩:=h2
 have hL:L=[]:=hL
 subst hL
 refine Fn.ofCalls hf hb hn ?_
 exact (h w hS.belowE).mono fun e w' ⟨he,hw⟩=>⟨_,he,I,lit r,[],.refl _,wJ I r,⟨ht,[],rfl,hS.below hw⟩,rfl⟩
end Go.Proofs.YtdilpodccjlkgaaGreatDoor
namespace Go.Proofs.YtdilpodccjlkgaaGreatDoor
section
variable {E:World} {P:Program} {env:aS} {O:OL} {d ty:Nat} {pos:String} {af:Array Edge} {x y:Operand} {t u e:TypeId}
theorem Gv.quo {k:IntKind} {a b:Int} (hx:aV env x=.int k a) (hy:aV env y=.int k b) (hb:b≠0):Gv P env O (Oper.mk (some d) (.binOp .quo t x y u) ty pos af none) (.int k (k.wrap (a.tdiv b))):=Gv.ofEv fun I ρ h=>⟨_,rfl,fun w=>by
 rw[cH (fB h hx) (fB h hy) (by decide) (by decide)];simp[binOp,Op.intDiv,hb]⟩
theorem Gv.neg {k:IntKind} {a:Int} (hx:aV env x=.int k a):Gv P env O (Oper.mk (some d) (.unOp .neg t x) ty pos af none) (.int k (k.wrap (0 - a))):=Gv.ofEv fun I ρ h=>⟨_,rfl,fun w=>by
 simp[execOp,fB h hx,Op.unary,Op.intArith]⟩
theorem Gv.conv {k k':IntKind} {a:Int} {ds:TypeDesc} {src dst:TypeId} (hs:P.underlying src=some ds) (hd:P.underlying dst=some (.int k')) (hx:aV env x=.int k a):Gv P env O (Oper.mk (some d) (.convert src dst x) ty pos af none) (.int k' (k'.wrap a)):=Gv.ofEv fun I ρ h=>⟨_,rfl,fun w=>by
 simp only[execOp,fB h hx]
 cases ds<;>simp[convert,run_underlying hs,run_underlying hd,Conv.intToInt]⟩
end
end Go.Proofs.YtdilpodccjlkgaaGreatDoor
namespace Go.Proofs.YtdilpodccjlkgaaGreatDoor
section
variable {E:World} {P:Program} {n:Nat} {l:List Oper} {W:Nat→Bool} {Q:aS→OL→Prop} {fuel:Nat} {listed:Array Bool} {env:aS} {O Os Om:OL}
theorem bX.two {i j:Nat} {o o':Oper} (hi:l[i]?=some o) (hj:l[j]?=some o') (hr:Region.ready .any l.toArray listed=[i,j])
  (h:az P E l.toArray (fun env' Om'=>bX P E l W Q fuel (listed.setIfInBounds i true) env' Os Om') [o] env Om)
  (h':az P E l.toArray (fun env' Om'=>bX P E l W Q fuel (listed.setIfInBounds j true) env' Os Om') [o'] env Om):bX P E l W Q (fuel+1) listed env Os Om:=fun I F ρ w Ls h1 hLs h2=>by
 have key:∀k ok,az P E l.toArray (fun env' Om'=>bX P E l W Q fuel (listed.setIfInBounds k true) env' Os Om') [ok] env Om →
   cA P l.toArray (fun ρ' w'=>(eS I.k [] E w'∧(eR W (listed.setIfInBounds k true)∨eS I.k Ls E w'))∧da P l.toArray (eS I.k [] E) (eS I.k Ls E) W (iv I F E Q) fuel (listed.setIfInBounds k true) ρ' w') [ok] ρ w:=fun k ok h=>
  q4 (fun ρ' w' ⟨J,env',Om',a,b,c,d⟩=>by
   have hst:eS I.k Ls E w':=by
    obtain ⟨J',L',h3,h4,h5⟩:=c.here
    exact ⟨J',L',a.k.trans h3,h4,h5⟩
   refine ⟨⟨hst.less,.inr hst⟩,da.mono ?_ ?_ (fun _ _=>q5 a) _ _ _ _ (d J F ρ' w' Ls b (hLs.mono a) c)⟩
   ·rintro w ⟨J',L',h3,h4⟩;exact ⟨J',L',a.k.trans h3,h4⟩
   ·rintro w ⟨J',L',h3,h4⟩;exact ⟨J',L',a.k.trans h3,h4⟩) _ _ _ (h I (Ls++F) ρ w h1 h2)
 refine ⟨fun h0=>(by rw[hr] at h0;cases h0),fun k hk o2 ho2=>?_⟩
 rw[hr] at hk
 simp only[List.mem_cons,List.not_mem_nil,or_false] at hk
 rw[List.getElem?_toArray] at ho2
 rcases hk with rfl|rfl
 ·rw[hi] at ho2;cases ho2;exact key _ _ h
 ·rw[hj] at ho2;cases ho2;exact key _ _ h'
end
end Go.Proofs.YtdilpodccjlkgaaGreatDoor
namespace Go.Proofs.YtdilpodccjlkgaaGreatDoor
section
variable {E:World} {P:Program} {n:Nat} {l:List Oper} {W:Nat→Bool} {Q:aS→OL→Prop} {fuel:Nat} {listed:Array Bool} {env:aS} {O Os Om:OL}
theorem bX.three {i j m:Nat} {o o' o'':Oper} (hi:l[i]?=some o) (hj:l[j]?=some o') (hm:l[m]?=some o'') (hr:Region.ready .any l.toArray listed=[i,j,m])
  (h:az P E l.toArray (fun env' Om'=>bX P E l W Q fuel (listed.setIfInBounds i true) env' Os Om') [o] env Om)
  (h':az P E l.toArray (fun env' Om'=>bX P E l W Q fuel (listed.setIfInBounds j true) env' Os Om') [o'] env Om)
  (h'':az P E l.toArray (fun env' Om'=>bX P E l W Q fuel (listed.setIfInBounds m true) env' Os Om') [o''] env Om):bX P E l W Q (fuel+1) listed env Os Om:=fun I F ρ w Ls h1 hLs h2=>by
 have key:∀k ok,az P E l.toArray (fun env' Om'=>bX P E l W Q fuel (listed.setIfInBounds k true) env' Os Om') [ok] env Om →
   cA P l.toArray (fun ρ' w'=>(eS I.k [] E w'∧(eR W (listed.setIfInBounds k true)∨eS I.k Ls E w'))∧da P l.toArray (eS I.k [] E) (eS I.k Ls E) W (iv I F E Q) fuel (listed.setIfInBounds k true) ρ' w') [ok] ρ w:=fun k ok h=>
  q4 (fun ρ' w' ⟨J,env',Om',a,b,c,d⟩=>by
   have hst:eS I.k Ls E w':=by
    obtain ⟨J',L',h3,h4,h5⟩:=c.here
    exact ⟨J',L',a.k.trans h3,h4,h5⟩
   refine ⟨⟨hst.less,.inr hst⟩,da.mono ?_ ?_ (fun _ _=>q5 a) _ _ _ _ (d J F ρ' w' Ls b (hLs.mono a) c)⟩
   ·rintro w ⟨J',L',h3,h4⟩;exact ⟨J',L',a.k.trans h3,h4⟩
   ·rintro w ⟨J',L',h3,h4⟩;exact ⟨J',L',a.k.trans h3,h4⟩) _ _ _ (h I (Ls++F) ρ w h1 h2)
 refine ⟨fun h0=>(by rw[hr] at h0;cases h0),fun k hk o2 ho2=>?_⟩
 rw[hr] at hk
 simp only[List.mem_cons,List.not_mem_nil,or_false] at hk
 rw[List.getElem?_toArray] at ho2
 rcases hk with rfl|rfl|rfl
 ·rw[hi] at ho2;cases ho2;exact key _ _ h
 ·rw[hj] at ho2;cases ho2;exact key _ _ h'
 ·rw[hm] at ho2;cases ho2;exact key _ _ h''
end
theorem aR.know {E:World} {P:Program} {f:FuncId} {as0:List AV} {O:OL} {R R':AV→OL→Prop} (h:aR P E f as0 O R) (hr:∀I F w v x O',R x O'→bq I x v→gt I O' F E w→∃J y O'',I.le J∧bq J y v∧gt J O'' F E w∧R' y O''):aR P E f as0 O R':=fun I F w vs h1 h2=>
 (h I F w vs h1 h2).mono fun v w' ⟨J,x,O',a,b,c,d⟩=>by
  obtain ⟨K,y,O'',e1,e2,e3,e4⟩:=hr J F w' v x O' d b c
  exact ⟨K,y,O'',a.trans e1,e2,e3,e4⟩
end Go.Proofs.YtdilpodccjlkgaaGreatDoor
namespace Go.Proofs.YtdilpodccjlkgaaGreatDoor
theorem dB.perm {O O':OL} {i:Nat} {o:bS} (h:dB O i o O'):O.Perm ((i,o)::O'):=by
 induction h with
 |head=>exact .refl _
 |tail _ ih=>exact (ih.cons _).trans (.swap _ _ _)
section
variable {E:World} {P:Program} {f:FuncId} {as0:List AV} {O:OL}
theorem aR.exact {γ:Type} {x:γ→AV} {M:γ→OL} {p:γ→Prop} (h:aR P E f as0 O (fun y O'=>∃g,y=x g∧Left O' (M g)∧p g)):aR P E f as0 O (fun y O'=>∃g,y=x g∧O'=M g∧p g):=
 h.know fun I F w v y O' ⟨g,e,hl,hp⟩ h1 h2=>⟨I,y,M g,.refl _,h1,hl.sla h2,g,e,rfl,hp⟩
theorem aR.frozen {k m:Nat} {T:TypeId} {rows:List (List AV)} (h:aR P E f as0 [] (fun y O'=>∃i:Nat,y=.own i m∧Left O' [(i,.grow k T rows.flatten)]∧True)) (hk:∀r∈rows,r.length=k) (hk0:0<k) (hm:rows.length=m):aK P E f as0 (.fro k rows):=
 h.know fun I F w v y O' ⟨i,e,hl,_⟩ h1 h2=>by
  subst e
  obtain ⟨J,h3,h4,h5⟩:=Go.Proofs.YtdilpodccjlkgaaGreatDoor.know .head hk hk0 hm (hl.sla h2)
  exact ⟨J,_,[],h3,h5 _ h1,h4,rfl⟩
end
end Go.Proofs.YtdilpodccjlkgaaGreatDoor
namespace Go.Proofs.YtdilpodccjlkgaaGreatDoor
open Go.ChangeShapes Go.WideShapes Go.ChangeAt Go.RowKit Go.Deep
def full (W:World):bI:=fun b=>W.heap[b]?
theorem CM (W:World):SL (full W) [] W W:=⟨rfl,rfl,rfl,fun _ _ h=>h,by simp,by simp,by simp,fun _ _ h=>h,(fun _ _ h h2=>by rw[show W.heap[_]?=some _ from h] at h2;cases h2),by simp⟩
def I0 (W:World):G:=⟨full W,fun _=>none⟩
theorem n6 {W:World} {p:Addr} {v:Value} (h:W.cell? p=some v):p=⟨p.block,p.off,none⟩∧Aw (full W) p.block p.off v:=by
 unfold World.cell? at h
 split at h
 ·rename_i c t f hb
  split at h
  ·cases h
  ·rename_i hs
   have:p.spot=none:=by simpa using hs
   obtain ⟨b,o,s⟩:=p
   simp only at this
   subst this
   exact ⟨rfl,⟨c,t,f,hb,h⟩⟩
 ·cases h
def fX (P:Program) (W:World) (T:TypeId) {α:Type} (enc:α→List AV) (ok:α→Prop):Prop:=
 ∀{H:Type} (e:TypeId × Value→H) (held:Bool) (fuel:Nat) (cs:List Value) (x:DataW H × List MemPlace),DataW.trod e P W 0 (fun _=>true) held fuel T cs=some x→∃a,ok a∧RepL (I0 W) (enc a) cs
section
variable {P:Program} {W:World} {T e:TypeId}
theorem fX.int {k:IntKind} (hu:P.underlying T=some (.int k)):fX P W T (fun x:Int=>[.int k x]) (fun x=>(Lit.int k x).wf=true):=fun _ _ _ _ _ h=>by
 obtain ⟨n,rfl,_,hw⟩:=DataW.trod_int hu h
 exact ⟨n,hw,_,_,rfl,rfl,rfl⟩
theorem fX.str (hu:P.underlying T=some .string):fX P W T (fun x:ByteArray=>[.str x]) (fun x=>x.size≤maxLen):=fun _ _ _ _ _ h=>by
 obtain ⟨n,rfl,_,hw⟩:=DataW.trod_string hu h
 exact ⟨n,hw,_,_,rfl,rfl,rfl⟩
theorem fX.slice {α:Type} {enc:α→List AV} {ok:α→Prop} {k:Nat} (ht:P.underlying T=some (.slice e)) (he:fX P W e enc ok) (hk:P.cellsOf e=k) (hk0:0<k) :
  fX P W T (fun xs:List α=>[.fro k (xs.map enc)]) (fun xs=>(∀x∈xs,ok x)∧xs.length≤maxLen):=fun en held fuel cs x h=>by
 rcases open_slice ht h with ⟨rfl,_⟩|⟨a,len,cap,m,n,D,Pl,rfl,_,hl,hc,hm,_,hr⟩
 ·exact ⟨[],⟨by simp,Nat.zero_le _⟩,_,_,rfl,⟨none,0,0,rfl,rfl,Nat.le_refl _,fun _=>rfl,trivial⟩,rfl⟩
 ·simp only[if_true] at hm
  have each:∀i,i<len→∃y:α,ok y∧∃vs:List Value,vs.length=k∧RepL (I0 W) (enc y) vs∧∀j (u:Value),vs[j]?=some u→W.cell? (a.add (i*k+j))=some u:=by
   intro i hi
   obtain ⟨cs,h1,h2⟩:=hr i (by omega)
   rw[hk] at h1
   obtain ⟨_,hcl,hat⟩:=World.cells?_some h1
   obtain ⟨y,hy,hrep⟩:=he en held n cs _ h2
   refine ⟨y,hy,cs,hcl,hrep,fun j u hu=>?_⟩
   have hj:j<k:=by have:=(List.getElem?_eq_some_iff.1 hu).1;omega
   have:=hat j hj
   rw[Go.Deep.add_add] at this
   rw[this,hu]
  by_cases h0:len=0
  ·subst h0
   exact ⟨[],⟨by simp,Nat.zero_le _⟩,_,_,rfl,⟨some a,0,cap,rfl,rfl,Nat.zero_le _,fun h=>by (cases h),trivial⟩,rfl⟩
  ·obtain ⟨y0,_⟩:=each 0 (by omega)
   have:Inhabited α:=⟨y0⟩
   obtain ⟨Y,hY⟩:=choose_lt each
   have ha:a=⟨a.block,a.off,none⟩:=by
    obtain ⟨_,vs,hvl,_,hat⟩:=hY 0 (by omega)
    have:=hat 0 _ (List.getElem?_eq_getElem (show 0<vs.length by omega))
    rw[Nat.zero_mul] at this
    exact (n6 (by simpa [Addr.add] using this)).1
   refine ⟨(List.range len).map Y,⟨?_,by simp;omega⟩,_,_,rfl,⟨some a,len,cap,rfl,by simp,hl,fun h=>by (cases h),RepR.intro fun j r hj=>?_⟩,rfl⟩
   ·intro x hx
    obtain ⟨i,hi,rfl⟩:=List.mem_map.1 hx
    exact (hY i (by simpa using hi)).1
   ·rw[List.getElem?_map,List.getElem?_map] at hj
    have hjl:j<len:=by
     rcases Nat.lt_or_ge j len with h|h
     ·exact h
     ·rw[List.getElem?_eq_none (by simpa using h)] at hj;cases hj
    rw[List.getElem?_range hjl] at hj
    simp only[Option.map_some,Option.some.injEq] at hj
    subst hj
    obtain ⟨_,vs,hvl,hrep,hat⟩:=hY j hjl
    refine ⟨a.block,a.off,vs,by rw[←ha],hvl,hrep,fun i u hu=>?_⟩
    have:=hat i u hu
    rw[ha,dy] at this
    have:=(n6 this).2
    rw[Nat.zero_add,Nat.add_assoc];exact this
theorem RepL.fld {I:G} {cs:List Value} {e es:List AV} {o k:Nat} (h1:RepL I e ((cs.drop o).take k)) (h2:RepL I es (cs.drop (o+k))):RepL I (e++es) (cs.drop o):=by
 have:=h1.append h2
 rwa [←List.drop_drop,List.take_append_drop] at this
theorem RepL.fin {I:G} {cs:List Value} {o:Nat} (h:cs.length=o):RepL I [] (cs.drop o):=List.drop_eq_nil_of_le (by omega)
theorem fX.at {α:Type} {enc:α→List AV} {ok:α→Prop} {f:Field} {H:Type} {en:TypeId × Value→H} {held:Bool} {n o k i:Nat} {cs:List Value} {xs:List (DataW H × List MemPlace)}
  (h1:DataW.trod en P W 0 (fun _=>true) held n f.type ((cs.drop f.offset).take (P.cellsOf f.type))=xs[i]?) (hd:fX P W f.type enc ok) (h2:i<xs.length) (ho:f.offset=o) (hk:P.cellsOf f.type=k) :
  ∃a,ok a∧RepL (I0 W) (enc a) ((cs.drop o).take k):=by
 rw[List.getElem?_eq_getElem h2,ho,hk] at h1
 exact hd en held n _ _ h1
theorem fX.pair {α:Type} {enc:α→List AV} {ok:α→Prop} {k:Nat} (ht:P.underlying T=some (.array 2 e)) (he:fX P W e enc ok) (hk:P.cellsOf e=k) (hT:P.cellsOf T=k+k) :
  fX P W T (fun x:α × α=>enc x.1++enc x.2) (fun x=>ok x.1∧ok x.2):=fun en held fuel cs x h=>by
 obtain ⟨xs,m,_,_,hl,hxl,hf⟩:=DataW.trod_array ht h
 have h0:=hf 0 (by omega)
 have h1:=hf 1 (by omega)
 rw[List.getElem?_eq_getElem (by omega),hk] at h0 h1
 rw[Nat.zero_mul] at h0
 rw[Nat.one_mul] at h1
 obtain ⟨a,ha,ra⟩:=he en held m _ _ h0
 obtain ⟨b,hb,rb⟩:=he en held m _ _ h1
 refine ⟨(a,b),⟨ha,hb⟩,?_⟩
 have hcl:cs.length=k+k:=by rw[hl,hT]
 have h2:(cs.drop k).take k=cs.drop k:=List.take_of_length_le (by rw[List.length_drop];omega)
 rw[h2] at rb
 have:=ra.append rb
 rw[List.drop_zero,List.take_append_drop] at this
 exact this
end
theorem n7 {P:Program} {W:World} {name:String} {k:IntKind} {zs:List Int} {g:Nat} {t e:TypeId} {n:Nat}
  (hg:P.globalNamed name=some g) (hty:(P.globals[g]?).map (·.type)=some t) (ht:P.underlying t=some (.array n e)) (he:P.underlying e=some (.int k)) (hce:P.cellsOf e=1) (hct:P.cellsOf t=n)
  (h:Lib.VarReads P W name (Lib.tabData k zs)):Lib.TabIs P W name k zs:=by
 obtain ⟨g',t',cs,fuel,p,hg',ht',hvar,hd⟩:=h
 obtain rfl:=Option.some.inj (hg.symm.trans hg')
 obtain rfl:=Option.some.inj (hty.symm.trans ht')
 unfold Lib.TabIs
 rw[hvar,←Lib.cells_of_tab ht he hce hct hd]
theorem aK.call {P:Program} {W:World} {f:FuncId} {us:List AV} {vs:List Value} {r:AV} (h:aK P W f us r) (hr:RepL (I0 W) us vs) (hp:r.plain=true):Calls P f vs.toArray W fun e w'=>∃v,e=.returned v∧bq (I0 W) r v∧Below W.heap.size W w':=by
 have:=(h (I0 W) [] W vs hr ⟨⟨0,fun _ _=>rfl⟩,[],rfl,CM W⟩).2
 refine this.mono fun e w' ⟨v,he,J,x,O',hle,hx,hS,hxr⟩=>⟨v,he,?_,?_⟩
 ·subst hxr;exact AV.plain_rep hp hx
 ·obtain ⟨_,L,_,hSL⟩:=hS
  exact hSL.belowE
end Go.Proofs.YtdilpodccjlkgaaGreatDoor
namespace Go.Proofs.YtdilpodccjlkgaaGreatDoor
section
variable {E:World} {P:Program} {n:Nat} {env:aS} {O O' O'':OL} {i k m:Nat} {T:TypeId} {rows rows':List (List AV)}
end
section
variable {E:World} {P:Program} {f:FuncId} {us bs:List AV} {r:AV}
end
section
variable {E:World} {P:Program} {n:Nat} {ops:Array Oper} {K:aS→OL→Prop} {env:aS} {O O':OL} {rest:List Oper}
variable {d ty:Nat} {pos:String} {af:Array Edge} {t e:TypeId} {x y:Operand} {L:List (Nat × Obj)}
end
end Go.Proofs.YtdilpodccjlkgaaGreatDoor
namespace Go.Proofs.YtdilpodccjlkgaaGreatDoor
section
variable {E:World} {P:Program} {n:Nat} {ops:Array Oper} {K:aS→OL→Prop} {env:aS} {O O':OL} {rest:List Oper}
variable {d ty:Nat} {pos:String} {af:Array Edge} {t e:TypeId} {x y:Operand}
theorem RepR.drop {I:G} {k n c j:Nat} {a:Option Addr} {rows:List (List AV)} (hn:n=rows.length) (hnc:n≤c) (hr:RepR I k a 0 rows):RepR I k (if c=j then a else a.map (·.add (j*k))) 0 (rows.drop j):=
 RepR.intro fun j' r hj=>by
  rw[List.getElem?_drop] at hj
  have hlt:=(List.getElem?_eq_some_iff.1 hj).1
  obtain ⟨b,off,vs,rfl,h4,h5,h6⟩:=hr.get hj
  rw[if_neg (by omega)]
  refine ⟨b,off+j*k,vs,by simp[Addr.add],h4,h5,fun i u hu=>?_⟩
  have:=h6 i u hu
  rw[Nat.zero_add,Nat.add_mul] at this
  rw[Nat.zero_add]
  rwa [←Nat.add_assoc] at this
theorem Gv.cutLo {k j:Nat} {a:Int} {rows:List (List AV)} (ht:P.underlying t=some (.slice e)) (hs:∀w,(sizeOf e).run P w=.ok k w) (hx:aV env x=.fro k rows) (hy:aV env y=.int .i64 a) (hi:a=(j:Int)) (hj:j≤rows.length) :
  Gv P env O (Oper.mk (some d) (.slice t x (some y) none none) ty pos af none) (.fro k (rows.drop j)):=Gv.ofEv fun I ρ h=>by
 have h2:=h.ev x
 rw[hx] at h2
 obtain ⟨p,n,c,ex,hn,hnc,hnil,hr⟩:=h2
 have h3:=fB h hy
 subst hi
 refine ⟨.slice (if c=j then p else p.map (·.add (j*k))) (n - j) (c - j),⟨_,_,_,rfl,by rw[List.length_drop,hn],by omega,fun hp=>?_,hr.drop hn hnc⟩,fun w=>?_⟩
 ·split at hp
  ·omega
  ·cases p with
   |none=>have:=hnil rfl;omega
   |some q=>cases hp
 ·have hjn:j≤n:=by omega
  simp[execOp,Instr.sliceAt,Instr.slice,Instr.sliceBounds,Instr.sliceBound,asIntOf,Sem.run_bind,run_underlying ht,hs,ex,h3,hjn]
theorem Gv.cutLoM {α:Type} {enc:α→List AV} {xs:List α} {k j:Nat} {a:Int} (ht:P.underlying t=some (.slice e)) (hs:∀w,(sizeOf e).run P w=.ok k w) (hx:aV env x=.fro k (xs.map enc)) (hy:aV env y=.int .i64 a) (hi:a=(j:Int)) (hj:j≤xs.length) :
  Gv P env O (Oper.mk (some d) (.slice t x (some y) none none) ty pos af none) (.fro k ((xs.drop j).map enc)):=by
 have:=Gv.cutLo (d:=d) (ty:=ty) (pos:=pos) (af:=af) (O:=O) ht hs hx hy hi (by rwa [List.length_map])
 rwa [←List.map_drop] at this
end
section
variable {P:Program} {E:World} {l:List Oper} {W:Nat→Bool} {fuel:Nat} {listed:Array Bool} {d ty:Nat} {op:Op} {pos:String} {af:Array Edge} {Q:aS→OL→Prop} {env:aS} {Os Om:OL}
def rU (l:List Oper) (W:Nat→Bool) (listed:Array Bool) (i:Nat):Bool:=Region.noSelect l.toArray&&(Region.free .any l.toArray listed i&&((Region.ready .any l.toArray listed).contains i&&(gC l i W&&(!W i&&fL W listed))))
theorem rU.of {i:Nat} (h:rU l W listed i=true):Region.noSelect l.toArray=true∧Region.free .any l.toArray listed i=true∧(Region.ready .any l.toArray listed).contains i=true∧gC l i W=true∧W i=false∧fL W listed=true:=by
 simpa only[rU,Bool.and_eq_true,Bool.not_eq_true'] using h
theorem ak (i:Nat) {x:AV} (hi:l[i]?=some (Oper.mk (some d) op ty pos af none)) (hg:Gv P env Os (Oper.mk (some d) op ty pos af none) x)
  (h:bX P E l W Q fuel (listed.setIfInBounds i true) (br env d x) Os Om) (hb:rU l W listed i=true:=by kernel_rfl):bX P E l W Q (fuel+1) listed env Os Om:=
 have ⟨a,b,c,e,g,k⟩:=rU.of hb
 bX.take hi a b c e g k hg h
theorem cR (i:Nat) {j s:Nat} {b t:Bool} {x:AV} (hi:l[i]?=some (Oper.mk (some d) op ty pos af (some (j,b)))) (hg0:(l[j]?).bind (fun o:Oper=>o.dst)=some s) (hv0:env s=.bool t) (ht:t=b) (hg:Gv P env Os (Oper.mk (some d) op ty pos af none) x)
  (h:bX P E l W Q fuel (listed.setIfInBounds i true) (br env d x) Os Om) (hb:rU l W listed i=true:=by kernel_rfl):bX P E l W Q (fuel+1) listed env Os Om:=
 have ⟨a,b,c,e,g,k⟩:=rU.of hb
 bX.takeT hi hg0 hv0 ht a b c e g k hg h
theorem b9 (i:Nat) {j s:Nat} {b t:Bool} (hi:l[i]?=some (Oper.mk (some d) op ty pos af (some (j,b)))) (hg0:(l[j]?).bind (fun o:Oper=>o.dst)=some s) (hv0:env s=.bool t) (ht:t=!b)
  (h:bX P E l W Q fuel (listed.setIfInBounds i true) (br env d (.raw undef)) Os Om) (hb:rU l W listed i=true:=by kernel_rfl):bX P E l W Q (fuel+1) listed env Os Om:=
 have ⟨a,b,c,e,g,k⟩:=rU.of hb
 bX.takeF hi hg0 hv0 ht a b c e g k h
theorem ba (i:Nat) {o:Oper} (hi:l[i]?=some o) (h:az P E l.toArray (fun env' Om'=>bX P E l W Q fuel (listed.setIfInBounds i true) env' Os Om') [o] env Om) (hr:Region.ready .any l.toArray listed=[i]:=by kernel_rfl):bX P E l W Q (fuel+1) listed env Os Om:=bX.one hi hr h
theorem bY (h:Q env (Os++Om)) (hr:Region.ready .any l.toArray listed=[]:=by kernel_rfl):bX P E l W Q fuel listed env Os Om:=bX.done hr h
variable {x y z:Operand} {t:TypeId} {O:OL}
theorem dq {k:IntKind} {a:Int} (hx:aV env x=.int k a):Gv P env O (Oper.mk (some d) (.move x) ty pos af none) (.int k a):=Gv.move hx
theorem l6 {a:Bool} (hx:aV env x=.bool a):Gv P env O (Oper.mk (some d) (.move x) ty pos af none) (.bool a):=Gv.move hx
theorem CN {k:Nat} {a:List (List AV)} (hx:aV env x=.fro k a):Gv P env O (Oper.mk (some d) (.move x) ty pos af none) (.fro k a):=Gv.move hx
theorem mA {k:IntKind} {a:Int} (hx:aV env x=.int k a):Gv P env O (Oper.mk (some d) (.assign x) ty pos af none) (.int k a):=Gv.assign hx
theorem lT {a:Bool} (hx:aV env x=.bool a):Gv P env O (Oper.mk (some d) (.assign x) ty pos af none) (.bool a):=Gv.assign hx
theorem kO {k:Nat} {a:List (List AV)} (hx:aV env x=.fro k a):Gv P env O (Oper.mk (some d) (.assign x) ty pos af none) (.fro k a):=Gv.assign hx
theorem b7 {k:IntKind} {a:Int} {cs:List AV} (ha:∀w,(isAgg t).run P w=.ok false w) (hx:aV env x=.pf (.int k a::cs)):Gv P env O (Oper.mk (some d) (.load t x) ty pos af none) (.int k a):=Gv.load1F ha hx
theorem dx {k:Nat} {a:List (List AV)} {cs:List AV} (ha:∀w,(isAgg t).run P w=.ok false w) (hx:aV env x=.pf (.fro k a::cs)):Gv P env O (Oper.mk (some d) (.load t x) ty pos af none) (.fro k a):=Gv.load1F ha hx
theorem ta {b v:Bool} (hc:aV env x=.bool b) (hb:b=true) (hy:aV env y=.bool v):Gv P env O (Oper.mk (some d) (.pick x y z) ty pos af none) (.bool v):=Gv.pickT hc hb hy
theorem qU {b v:Bool} (hc:aV env x=.bool b) (hb:b=false) (hy:aV env z=.bool v):Gv P env O (Oper.mk (some d) (.pick x y z) ty pos af none) (.bool v):=Gv.pickF hc hb hy
theorem FE {i m:Nat} (hx:aV env x=.own i m):Gv P env O (Oper.mk (some d) (.move x) ty pos af none) (.own i m):=Gv.move hx
theorem ef {i m:Nat} (hx:aV env x=.po i m):Gv P env O (Oper.mk (some d) (.move x) ty pos af none) (.po i m):=Gv.move hx
theorem gD {cs:List AV} (hx:aV env x=.pf cs):Gv P env O (Oper.mk (some d) (.move x) ty pos af none) (.pf cs):=Gv.move hx
theorem Ft {cs:List AV} (hx:aV env x=.tup cs):Gv P env O (Oper.mk (some d) (.move x) ty pos af none) (.tup cs):=Gv.move hx
theorem gZ {i m:Nat} (hx:aV env x=.own i m):Gv P env O (Oper.mk (some d) (.assign x) ty pos af none) (.own i m):=Gv.assign hx
theorem gc {i m:Nat} (hx:aV env x=.po i m):Gv P env O (Oper.mk (some d) (.assign x) ty pos af none) (.po i m):=Gv.assign hx
theorem Hk {a:Value} (hx:aV env x=.raw a):Gv P env O (Oper.mk (some d) (.assign x) ty pos af none) (.raw a):=Gv.assign hx
theorem D8 {vs:List AV} {i:Nat} {k:IntKind} {a:Int} (hx:aV env x=.tup vs) (hv:vs[i]?=some (.int k a)):Gv P env O (Oper.mk (some d) (.extract x i) ty pos af none) (.int k a):=Gv.extract hx hv
theorem D9 {vs:List AV} {i:Nat} {a:Bool} (hx:aV env x=.tup vs) (hv:vs[i]?=some (.bool a)):Gv P env O (Oper.mk (some d) (.extract x i) ty pos af none) (.bool a):=Gv.extract hx hv
theorem bx {fs:Array Field} {f:Field} {i sz:Nat} {cs cs':List AV} (ht:P.underlying t=some (.struct fs)) (hf:fs[i]?=some f) (hs:∀w,(sizeOf f.type).run P w=.ok sz w)
  (hx:aV env x=.pf cs) (hr:cs.drop f.offset=cs') (hz:sz≠0:=by decide):Gv P env O (Oper.mk (some d) (.fieldAddr t x i) ty pos af none) (.pf cs'):=Gv.fieldF ht hf hs hz hx hr
theorem CA {u:TypeId} {a b:Int} (hx:aV env x=.int .i64 a) (hy:aV env y=.int .i64 b) (hr:lj (a+b):=by unfold lj;omega):Gv P env O (Oper.mk (some d) (.binOp .add t x y u) ty pos af none) (.int .i64 (a+b)):=Gv.add hx hy hr
theorem ae {n id:Nat} {y:Code} {R:Exit→aS→OL→Prop} (h:az P E l.toArray (n5 (dN P E n y R) R .normal) l env O) (hd:gz n l=true:=by exact rfl):dN P E n (.seq (.region id l.toArray false) y) R env O:=zd (dN.region hd h)
theorem aO {n id:Nat} {R:Exit→aS→OL→Prop} (h:az P E l.toArray (R .normal) l env O) (hd:gz n l=true:=by exact rfl):dN P E n (.region id l.toArray false) R env O:=dN.region hd h
theorem bh {α:Type} {enc:α→List AV} {xs:List α} {k:Nat} {e:TypeId} (j:Nat) {i:Int} {v:α} (ht:P.underlying t=some (.slice e)) (hs:∀w,(sizeOf e).run P w=.ok k w) (hx:aV env x=.fro k (xs.map enc)) (hy:aV env y=.int .i64 i) (hi:i=(j:Int)) (hj:xs[j]?=some v) :
  Gv P env O (Oper.mk (some d) (.indexAddr t x y) ty pos af none) (.pf (enc v)):=Gv.idxM ht hs hx hy hi hj
theorem aD {O:OL}:Left O O:=⟨_,.refl _,rfl⟩
theorem dB.t1 {x0:Nat × bS} {O:OL} {i:Nat} {o:bS}:dB (x0::(i,o)::O) i o (x0::O):=.tail .head
theorem fD.t1 {x0:Nat × bS} {O:OL} {i:Nat} {o o':bS}:fD (x0::(i,o)::O) i o o' (x0::(i,o')::O):=.tail .head
theorem pR.t1 {x0:Nat × bS} {O:OL} {i j:Nat} {o o':bS}:pR (x0::(i,o)::O) i o j o' (x0::(j,o')::O):=.tail .head
theorem dB.t2 {x0 x1:Nat × bS} {O:OL} {i:Nat} {o:bS}:dB (x0::x1::(i,o)::O) i o (x0::x1::O):=.tail .t1
theorem fD.t2 {x0 x1:Nat × bS} {O:OL} {i:Nat} {o o':bS}:fD (x0::x1::(i,o)::O) i o o' (x0::x1::(i,o')::O):=.tail .t1
theorem pR.t2 {x0 x1:Nat × bS} {O:OL} {i j:Nat} {o o':bS}:pR (x0::x1::(i,o)::O) i o j o' (x0::x1::(j,o')::O):=.tail .t1
theorem dB.t3 {x0 x1 x2:Nat × bS} {O:OL} {i:Nat} {o:bS}:dB (x0::x1::x2::(i,o)::O) i o (x0::x1::x2::O):=.tail .t2
theorem fD.t3 {x0 x1 x2:Nat × bS} {O:OL} {i:Nat} {o o':bS}:fD (x0::x1::x2::(i,o)::O) i o o' (x0::x1::x2::(i,o')::O):=.tail .t2
theorem pR.t3 {x0 x1 x2:Nat × bS} {O:OL} {i j:Nat} {o o':bS}:pR (x0::x1::x2::(i,o)::O) i o j o' (x0::x1::x2::(j,o')::O):=.tail .t2
theorem dB.t4 {x0 x1 x2 x3:Nat × bS} {O:OL} {i:Nat} {o:bS}:dB (x0::x1::x2::x3::(i,o)::O) i o (x0::x1::x2::x3::O):=.tail .t3
theorem fD.t4 {x0 x1 x2 x3:Nat × bS} {O:OL} {i:Nat} {o o':bS}:fD (x0::x1::x2::x3::(i,o)::O) i o o' (x0::x1::x2::x3::(i,o')::O):=.tail .t3
theorem pR.t4 {x0 x1 x2 x3:Nat × bS} {O:OL} {i j:Nat} {o o':bS}:pR (x0::x1::x2::x3::(i,o)::O) i o j o' (x0::x1::x2::x3::(j,o')::O):=.tail .t3
theorem dB.t5 {x0 x1 x2 x3 x4:Nat × bS} {O:OL} {i:Nat} {o:bS}:dB (x0::x1::x2::x3::x4::(i,o)::O) i o (x0::x1::x2::x3::x4::O):=.tail .t4
theorem fD.t5 {x0 x1 x2 x3 x4:Nat × bS} {O:OL} {i:Nat} {o o':bS}:fD (x0::x1::x2::x3::x4::(i,o)::O) i o o' (x0::x1::x2::x3::x4::(i,o')::O):=.tail .t4
theorem pR.t5 {x0 x1 x2 x3 x4:Nat × bS} {O:OL} {i j:Nat} {o o':bS}:pR (x0::x1::x2::x3::x4::(i,o)::O) i o j o' (x0::x1::x2::x3::x4::(j,o')::O):=.tail .t4
theorem dB.t6 {x0 x1 x2 x3 x4 x5:Nat × bS} {O:OL} {i:Nat} {o:bS}:dB (x0::x1::x2::x3::x4::x5::(i,o)::O) i o (x0::x1::x2::x3::x4::x5::O):=.tail .t5
theorem fD.t6 {x0 x1 x2 x3 x4 x5:Nat × bS} {O:OL} {i:Nat} {o o':bS}:fD (x0::x1::x2::x3::x4::x5::(i,o)::O) i o o' (x0::x1::x2::x3::x4::x5::(i,o')::O):=.tail .t5
theorem pR.t6 {x0 x1 x2 x3 x4 x5:Nat × bS} {O:OL} {i j:Nat} {o o':bS}:pR (x0::x1::x2::x3::x4::x5::(i,o)::O) i o j o' (x0::x1::x2::x3::x4::x5::(j,o')::O):=.tail .t5
theorem dB.t7 {x0 x1 x2 x3 x4 x5 x6:Nat × bS} {O:OL} {i:Nat} {o:bS}:dB (x0::x1::x2::x3::x4::x5::x6::(i,o)::O) i o (x0::x1::x2::x3::x4::x5::x6::O):=.tail .t6
theorem fD.t7 {x0 x1 x2 x3 x4 x5 x6:Nat × bS} {O:OL} {i:Nat} {o o':bS}:fD (x0::x1::x2::x3::x4::x5::x6::(i,o)::O) i o o' (x0::x1::x2::x3::x4::x5::x6::(i,o')::O):=.tail .t6
theorem pR.t7 {x0 x1 x2 x3 x4 x5 x6:Nat × bS} {O:OL} {i j:Nat} {o o':bS}:pR (x0::x1::x2::x3::x4::x5::x6::(i,o)::O) i o j o' (x0::x1::x2::x3::x4::x5::x6::(j,o')::O):=.tail .t6
theorem dB.t8 {x0 x1 x2 x3 x4 x5 x6 x7:Nat × bS} {O:OL} {i:Nat} {o:bS}:dB (x0::x1::x2::x3::x4::x5::x6::x7::(i,o)::O) i o (x0::x1::x2::x3::x4::x5::x6::x7::O):=.tail .t7
theorem fD.t8 {x0 x1 x2 x3 x4 x5 x6 x7:Nat × bS} {O:OL} {i:Nat} {o o':bS}:fD (x0::x1::x2::x3::x4::x5::x6::x7::(i,o)::O) i o o' (x0::x1::x2::x3::x4::x5::x6::x7::(i,o')::O):=.tail .t7
theorem pR.t8 {x0 x1 x2 x3 x4 x5 x6 x7:Nat × bS} {O:OL} {i j:Nat} {o o':bS}:pR (x0::x1::x2::x3::x4::x5::x6::x7::(i,o)::O) i o j o' (x0::x1::x2::x3::x4::x5::x6::x7::(j,o')::O):=.tail .t7
theorem aH {α0:Sort _} {a0:α0}:a0=a0∧True:=⟨rfl,trivial⟩
theorem cV {α0:Sort _} {a0:α0} {α1:Sort _} {a1:α1}:a0=a0∧a1=a1∧True:=⟨rfl,rfl,trivial⟩
theorem de {α0:Sort _} {a0:α0} {α1:Sort _} {a1:α1} {α2:Sort _} {a2:α2}:a0=a0∧a1=a1∧a2=a2∧True:=⟨rfl,rfl,rfl,trivial⟩
theorem fl {α0:Sort _} {a0:α0} {α1:Sort _} {a1:α1} {α2:Sort _} {a2:α2} {α3:Sort _} {a3:α3}:a0=a0∧a1=a1∧a2=a2∧a3=a3∧True:=⟨rfl,rfl,rfl,rfl,trivial⟩
theorem iO {α0:Sort _} {a0:α0} {α1:Sort _} {a1:α1} {α2:Sort _} {a2:α2} {α3:Sort _} {a3:α3} {α4:Sort _} {a4:α4}:a0=a0∧a1=a1∧a2=a2∧a3=a3∧a4=a4∧True:=⟨rfl,rfl,rfl,rfl,rfl,trivial⟩
theorem nu {α0:Sort _} {a0:α0} {α1:Sort _} {a1:α1} {α2:Sort _} {a2:α2} {α3:Sort _} {a3:α3} {α4:Sort _} {a4:α4} {α5:Sort _} {a5:α5}:a0=a0∧a1=a1∧a2=a2∧a3=a3∧a4=a4∧a5=a5∧True:=⟨rfl,rfl,rfl,rfl,rfl,rfl,trivial⟩
theorem lf {α0:Sort _} {a0:α0} {α1:Sort _} {a1:α1} {α2:Sort _} {a2:α2} {α3:Sort _} {a3:α3} {α4:Sort _} {a4:α4} {α5:Sort _} {a5:α5} {α6:Sort _} {a6:α6}:a0=a0∧a1=a1∧a2=a2∧a3=a3∧a4=a4∧a5=a5∧a6=a6∧True:=⟨rfl,rfl,rfl,rfl,rfl,rfl,rfl,trivial⟩
theorem pS {α0:Sort _} {a0:α0} {α1:Sort _} {a1:α1} {α2:Sort _} {a2:α2} {α3:Sort _} {a3:α3} {α4:Sort _} {a4:α4} {α5:Sort _} {a5:α5} {α6:Sort _} {a6:α6} {α7:Sort _} {a7:α7}:a0=a0∧a1=a1∧a2=a2∧a3=a3∧a4=a4∧a5=a5∧a6=a6∧a7=a7∧True:=⟨rfl,rfl,rfl,rfl,rfl,rfl,rfl,rfl,trivial⟩
theorem n8 {α0:Sort _} {a0:α0} {α1:Sort _} {a1:α1} {α2:Sort _} {a2:α2} {α3:Sort _} {a3:α3} {α4:Sort _} {a4:α4} {α5:Sort _} {a5:α5} {α6:Sort _} {a6:α6} {α7:Sort _} {a7:α7} {α8:Sort _} {a8:α8}:a0=a0∧a1=a1∧a2=a2∧a3=a3∧a4=a4∧a5=a5∧a6=a6∧a7=a7∧a8=a8∧True:=⟨rfl,rfl,rfl,rfl,rfl,rfl,rfl,rfl,rfl,trivial⟩
theorem nv {α0:Sort _} {a0:α0} {α1:Sort _} {a1:α1} {α2:Sort _} {a2:α2} {α3:Sort _} {a3:α3} {α4:Sort _} {a4:α4} {α5:Sort _} {a5:α5} {α6:Sort _} {a6:α6} {α7:Sort _} {a7:α7} {α8:Sort _} {a8:α8} {α9:Sort _} {a9:α9}:a0=a0∧a1=a1∧a2=a2∧a3=a3∧a4=a4∧a5=a5∧a6=a6∧a7=a7∧a8=a8∧a9=a9∧True:=⟨rfl,rfl,rfl,rfl,rfl,rfl,rfl,rfl,rfl,rfl,trivial⟩
theorem iP {α0:Sort _} {a0:α0} {α1:Sort _} {a1:α1} {α2:Sort _} {a2:α2} {α3:Sort _} {a3:α3} {α4:Sort _} {a4:α4} {α5:Sort _} {a5:α5} {α6:Sort _} {a6:α6} {α7:Sort _} {a7:α7} {α8:Sort _} {a8:α8} {α9:Sort _} {a9:α9} {α10:Sort _} {a10:α10} {α11:Sort _} {a11:α11}:a0=a0∧a1=a1∧a2=a2∧a3=a3∧a4=a4∧a5=a5∧a6=a6∧a7=a7∧a8=a8∧a9=a9∧a10=a10∧a11=a11∧True:=⟨rfl,rfl,rfl,rfl,rfl,rfl,rfl,rfl,rfl,rfl,rfl,rfl,trivial⟩
variable {ops:Array Oper} {K:aS→OL→Prop} {rest:List Oper} {u e:TypeId}
theorem aa {k:IntKind} {a:Int} (hx:aV env x=.int k a) (kk:az P E ops K rest (br env d (.int k a)) O):az P E ops K (Oper.mk (some d) (.move x) ty pos af none::rest) env O:=za (dq hx) kk
theorem ab {a:Bool} (hx:aV env x=.bool a) (kk:az P E ops K rest (br env d (.bool a)) O):az P E ops K (Oper.mk (some d) (.assign x) ty pos af none::rest) env O:=za (lT hx) kk
theorem aj {a:Bool} (hx:aV env x=.bool a) (kk:az P E ops K rest (br env d (.bool a)) O):az P E ops K (Oper.mk (some d) (.move x) ty pos af none::rest) env O:=za (l6 hx) kk
theorem ao {fs:Array Field} {f:Field} {i sz:Nat} {cs cs':List AV} (ht:P.underlying t=some (.struct fs)) (hf:fs[i]?=some f) (hs:∀w,(sizeOf f.type).run P w=.ok sz w) (hx:aV env x=.pf cs) (hr:cs.drop f.offset=cs') (kk:az P E ops K rest (br env d (.pf cs')) O) (hz:sz≠0:=by decide):az P E ops K (Oper.mk (some d) (.fieldAddr t x i) ty pos af none::rest) env O:=za (bx ht hf hs hx hr hz) kk
theorem ap {k:IntKind} {a:Int} (hx:aV env x=.int k a) (kk:az P E ops K rest (br env d (.int k a)) O):az P E ops K (Oper.mk (some d) (.assign x) ty pos af none::rest) env O:=za (mA hx) kk
theorem aq {b v:Bool} (hc:aV env x=.bool b) (hb:b=true) (hy:aV env y=.bool v) (kk:az P E ops K rest (br env d (.bool v)) O):az P E ops K (Oper.mk (some d) (.pick x y z) ty pos af none::rest) env O:=za (ta hc hb hy) kk
theorem au {b v:Bool} (hc:aV env x=.bool b) (hb:b=false) (hy:aV env z=.bool v) (kk:az P E ops K rest (br env d (.bool v)) O):az P E ops K (Oper.mk (some d) (.pick x y z) ty pos af none::rest) env O:=za (qU hc hb hy) kk
theorem ay {k:IntKind} {a:Int} {cs:List AV} (ha:∀w,(isAgg t).run P w=.ok false w) (hx:aV env x=.pf (.int k a::cs)) (kk:az P E ops K rest (br env d (.int k a)) O):az P E ops K (Oper.mk (some d) (.load t x) ty pos af none::rest) env O:=za (b7 ha hx) kk
theorem ai {k:IntKind} {a b:Int} (hx:aV env x=.int k a) (hy:aV env y=.int k b) (kk:az P E ops K rest (br env d (.bool (decide (a=b)))) O):az P E ops K (Oper.mk (some d) (.binOp .eql t x y u) ty pos af none::rest) env O:=za (Gv.eqlI hx hy) kk
theorem ac {n:Nat} {cs:List AV} (ha:∀w,(isAgg t).run P w=.ok true w) (hs:∀w,(sizeOf t).run P w=.ok n w) (hx:aV env x=.pf cs) (hn:cs.length=n) (kk:az P E ops K rest (br env d (.agg cs)) O):az P E ops K (Oper.mk (some d) (.load t x) ty pos af none::rest) env O:=za (Gv.loadWF ha hs hx hn) kk
theorem aC {u:TypeId} {a b:Int} (hx:aV env x=.int .i64 a) (hy:aV env y=.int .i64 b) (kk:az P E ops K rest (br env d (.int .i64 (a+b))) O) (hr:lj (a+b):=by unfold lj;omega):az P E ops K (Oper.mk (some d) (.binOp .add t x y u) ty pos af none::rest) env O:=za (CA hx hy hr) kk
theorem ax {k:IntKind} {a b:Int} (hx:aV env x=.int k a) (hy:aV env y=.int k b) (kk:az P E ops K rest (br env d (.bool (decide (a<b)))) O):az P E ops K (Oper.mk (some d) (.binOp .lss t x y u) ty pos af none::rest) env O:=za (Gv.lss hx hy) kk
theorem ar {α:Type} {enc:α→List AV} {xs:List α} {k:Nat} (ht:P.underlying t=some (.slice e)) (hx:aV env x=.fro k (xs.map enc)) (kk:az P E ops K rest (br env d (.int .i64 xs.length)) O):az P E ops K (Oper.mk (some d) (.call { callee:=.builtin .len,args:=#[x],argTypes:=#[t] }) ty pos af none::rest) env O:=za (Gv.lenM ht hx) kk
theorem aE {i m:Nat} (hx:aV env x=.po i m) (kk:az P E ops K rest (br env d (.po i m)) O):az P E ops K (Oper.mk (some d) (.move x) ty pos af none::rest) env O:=za (ef hx) kk
theorem aI {k:Nat} {a:List (List AV)} {cs:List AV} (ha:∀w,(isAgg t).run P w=.ok false w) (hx:aV env x=.pf (.fro k a::cs)) (kk:az P E ops K rest (br env d (.fro k a)) O):az P E ops K (Oper.mk (some d) (.load t x) ty pos af none::rest) env O:=za (dx ha hx) kk
theorem aB {b:Bool} (hx:aV env x=.bool b) (kk:az P E ops K rest (br env d (.bool (!b))) O):az P E ops K (Oper.mk (some d) (.unOp .not t x) ty pos af none::rest) env O:=za (Gv.not hx) kk
theorem aT {k:Nat} {a:List (List AV)} (hx:aV env x=.fro k a) (kk:az P E ops K rest (br env d (.fro k a)) O):az P E ops K (Oper.mk (some d) (.move x) ty pos af none::rest) env O:=za (CN hx) kk
theorem aw {i off:Nat} (hx:aV env x=.po i off) (kk:az P E ops K rest (br env d (.po i off)) O):az P E ops K (Oper.mk (some d) (.nilCheck x) ty pos af none::rest) env O:=za (Gv.nilCheckO hx) kk
theorem bg {cs:List AV} (hx:aV env x=.pf cs) (kk:az P E ops K rest (br env d (.pf cs)) O):az P E ops K (Oper.mk (some d) (.move x) ty pos af none::rest) env O:=za (gD hx) kk
theorem aM {k:IntKind} {a b:Int} (hx:aV env x=.int k a) (hy:aV env y=.int k b) (kk:az P E ops K rest (br env d (.bool (!decide (a=b)))) O):az P E ops K (Oper.mk (some d) (.binOp .neq t x y u) ty pos af none::rest) env O:=za (Gv.neqI hx hy) kk
theorem bz {i m:Nat} (hx:aV env x=.own i m) (kk:az P E ops K rest (br env d (.own i m)) O):az P E ops K (Oper.mk (some d) (.move x) ty pos af none::rest) env O:=za (FE hx) kk
theorem bF {a:Value} (hx:aV env x=.raw a) (kk:az P E ops K rest (br env d (.raw a)) O):az P E ops K (Oper.mk (some d) (.assign x) ty pos af none::rest) env O:=za (Hk hx) kk
theorem bJ {vs:List AV} {i:Nat} {k:IntKind} {a:Int} (hx:aV env x=.tup vs) (hv:vs[i]?=some (.int k a)) (kk:az P E ops K rest (br env d (.int k a)) O):az P E ops K (Oper.mk (some d) (.extract x i) ty pos af none::rest) env O:=za (D8 hx hv) kk
theorem bR {cs:List AV} (hx:aV env x=.tup cs) (kk:az P E ops K rest (br env d (.tup cs)) O):az P E ops K (Oper.mk (some d) (.move x) ty pos af none::rest) env O:=za (Ft hx) kk
theorem bb {k:IntKind} {a b:Int} (hx:aV env x=.int k a) (hy:aV env y=.int k b) (kk:az P E ops K rest (br env d (.bool (decide (b<a)))) O):az P E ops K (Oper.mk (some d) (.binOp .gtr t x y u) ty pos af none::rest) env O:=za (Gv.gtr hx hy) kk
theorem bZ {vs:List AV} {i:Nat} {a:Bool} (hx:aV env x=.tup vs) (hv:vs[i]?=some (.bool a)) (kk:az P E ops K rest (br env d (.bool a)) O):az P E ops K (Oper.mk (some d) (.extract x i) ty pos af none::rest) env O:=za (D9 hx hv) kk
end
set_option linter.defProp false
def wz:=@Tryz.underlying23
def j5:=@Tryz.underlying54
def j6:=@Tryz.sizeOf3
def j7:=@Tryz.isAgg3
def j8:=@Tryz.sizeOf23
def j9:=@Tryz.isAgg23
def je:=@Tryz.underlying75
def jf:=@Tryz.sizeOf26
def jg:=@Tryz.underlying26
def jh:=@Tryz.underlying49
def ji:=@Tryz.underlying70
def jj:=@Tryz.underlying51
def jk:=@Tryz.underlying24
def ju:=@Tryz.isAgg26
def jv:=@Tryz.sizeOf54
def jw:=@Tryz.underlying109
def jx:=@Tryz.underlying29
def jy:=@Tryz.sizeOf52
def jz:=@Tryz.underlying45
def Z0:=@Tryz.sizeOf51
def Z1:=@Tryz.underlying47
def Z2:=@Tryz.isAgg52
def Z3:=@Tryz.underlying63
def Z4:=@Tryz.zeroValue54
def Z5:=@Tryz.underlying44
def Z6:=@Tryz.sizeOf24
def Z7:=@Tryz.underlying22
def Z8:=@Tryz.sizeOf71
def Z9:=@Tryz.sizeOf226
def Za:=@Tryz.sizeOf2
def Zb:=@Tryz.underlying130
def Zc:=@Tryz.sizeOf4
def Zd:=@Tryz.isAgg24
def Ze:=@Tryz.sizeOf47
def Zf:=@Tryz.sizeOf63
def Zg:=@Tryz.isAgg71
def Zh:=@Tryz.type23
def Zi:=@Tryz.underlying61
def Zj:=@Tryz.isAgg2
def Zk:=@Tryz.isAgg54
def Zl:=@Tryz.underlying136
def Zm:=@Tryz.sizeOf49
def Zn:=@Tryz.zeroValue51
def Zo:=@Tryz.sizeOf45
def Zp:=@Tryz.underlying77
def Zq:=@Tryz.underlying167
def Zr:=@Tryz.underlying9
def Zs:=@Tryz.zeroValue3
def Zt:=@Tryz.underlying69
def Zu:=@Tryz.underlying3
def Zv:=@Tryz.underlying226
def Zw:=@Tryz.underlying117
def Zx:=@Tryz.isAgg45
def Zy:=@Tryz.isAgg226
def Zz:=@Tryz.sizeOf46
def Y0:=@Tryz.underlying4
def Y1:=@Tryz.sizeOf61
def Y2:=@Tryz.underlying154
def Y3:=@Tryz.sizeOf9
def Y4:=@Tryz.sizeOf22
def Y5:=@Tryz.underlying132
def Y6:=@Tryz.underlying256
def Y7:=@Tryz.isAgg4
def Y8:=@Tryz.isAgg46
def Y9:=@Tryz.isAgg9
def Ya:=@Tryz.underlying259
def Yb:=@Tryz.isAgg22
def Yc:=@Tryz.zeroValue63
def Yd:=@Tryz.underlying242
def Ye:=@Tryz.underlying254
def Yf:=@Tryz.underlying151
def Yg:=@Tryz.sizeOf44
def Yh:=@Tryz.sizeOf77
def Yi:=@Tryz.sizeOf69
def Yj:=@Tryz.sizeOf154
def Yk:=@Tryz.isAgg51
def Yl:=@Tryz.underlying87
def Ym:=@Tryz.underlying261
def Yn:=@Tryz.underlying205
def Yo:=@Tryz.underlying183
def Yp:=@Tryz.underlying145
def Yq:=@Tryz.sizeOf59
def Yr:=@Tryz.zeroValue226
def Ys:=@Tryz.isAgg44
def Yt:=@Tryz.underlying134
def Yu:=@Tryz.underlying199
def Yv:=@Tryz.underlying204
def Yw:=@Tryz.underlying169
def Yx:=@Tryz.sizeOf117
def Yy:=@Tryz.underlying196
def Yz:=@Tryz.sizeOf261
def X0:=@Tryz.isAgg63
def X1:=@Tryz.underlying78
def X2:=@Tryz.underlying180
def X3:=@Tryz.underlying265
def X4:=@Tryz.isAgg59
def X5:=@Tryz.isAgg69
def X6:=@Tryz.sizeOf134
def X7:=@Tryz.zeroValue61
def X8:=@Tryz.type3
def X9:=@Tryz.zeroValue154
def Xa:=@Tryz.sizeOf70
def Xb:=@Tryz.underlying72
set_option linter.defProp false
def zb:=@aX.perm
def zc:=@dB.perm
def ze:=@az.callP
def zf:=@aX.ops
def zh:=@tm.perm
def zm:=@dI.t1
def zn:=@Gv.fieldO
def zq:=@aR.intro
def zr:=@az.callA
def zt:=@Gv.load1C
def zw:=@dN.regionDraw
def y1:=@az.storeW
def y3:=@aX.wp
def y4:=@az.buildSliceFF
def y5:=@Gv.build
def y6:=@az.alloc
def y9:=@az.boxF
def yb:=@Gv.nilCheckO
def yc:=@Gv.nilCheckF
def ye:=@aX.fin
def yh:=@dI.t0
def yi:=@m7.one
def yj:=@az.appendS
def yk:=@az.boxO
def ym:=@bX.writes
def yn:=@Gv.load1F
def yo:=@m7.done
def yq:=@bX.two
def yr:=@Gv.loadWF
def yt:=@Gv.move
def yu:=@aR.exact
def yv:=@Gv.idxAF
def yw:=@az.storeC
def yx:=@bX.takeK
def yy:=@Gv.geq
def yz:=@Gv.extract
def q7:=@dI.t2
def q9:=@RepL.fld
def qa:=@Gv.idxM
def qb:=@Gv.leq
def qc:=@Gv.assign
def qe:=@bX.case
def qk:=@List.getElem?_eq_getElem
def ql:=@List.take_succ_eq_append_getElem
def qm:=@List.append_assoc
def qn:=@Nat.zero_le
def qo:=@List.getElem_mem
def qp:=@List.take_length
def qq:=@List.length_append
def qr:=@List.length_map
def qs:=@List.getElem?_map
def qt:=@Bool.eq_iff_iff
def qu:=@List.mem_of_getElem?
def qv:=@List.map_append
def qw:=@List.append_nil
def qx:=@decide_eq_true
def qy:=@decide_eq_false
def qz:=@Bool.and_eq_true
def w3:=@List.all_eq_true
def w4:=@of_decide_eq_true
def w5:=@of_decide_eq_false
def w6:=@decide_eq_true_eq
theorem U {α:Sort _} {a:α}:a=a:=rfl
end Go.Proofs.YtdilpodccjlkgaaGreatDoor
