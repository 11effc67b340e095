/- Arrays told whole; rows of a list. No conditions. -/
import Derived.Test.YtbbonnfjealmpaaGreatDoorZa
import Derived.Test.YtbbonnfjealmpaaGreatDoorChecked
set_option linter.unusedVariables false
set_option linter.unusedSimpArgs false
set_option linter.unusedSectionVars false
namespace Go.Proofs.YtbbonnfjealmpaaGreatDoor
section
section
variable {E:World} {P:Program} {env:aT} {O:OL} {d ty:Nat} {pos:String} {af:Array Edge} {x y z:Operand} {t u e:TypeId}
theorem Gv.ofEv {op:Op} {v:AV} (h:∀(I:G) ρ,eW I env ρ→∃u,cC I v u∧∀w,(execOp (ev ρ) (Oper.mk (some d) op ty pos af none)).run P w=.ok (.value u) w):Gv P env O (Oper.mk (some d) op ty pos af none) v:=
 fun I _ _ ρ h1 _=>let ⟨u,h2,h3⟩:=h I ρ h1;⟨u,h2,fun w _ _ _ _ _=>h3 w⟩
theorem Gv.move {v:AV} (hx:bc env x=v):Gv P env O (Oper.mk (some d) (.move x) ty pos af none) v:=Gv.ofEv fun I ρ h=>⟨ev ρ x,hx▸h.ev x,fun _=>rfl⟩
theorem Gv.assign {v:AV} (hx:bc env x=v):Gv P env O (Oper.mk (some d) (.assign x) ty pos af none) v:=Gv.ofEv fun I ρ h=>⟨ev ρ x,hx▸h.ev x,fun _=>rfl⟩
theorem Ji {I:G} {ρ:dX} {b:Bool} (h:eW I env ρ) (hx:bc env x=.bool b):ev ρ x=.bool b:=by have:=h.ev x;rw[hx] at this;exact this
theorem gr {I:G} {ρ:dX} {k:IntKind} {n:Int} (h:eW I env ρ) (hx:bc env x=.int k n):ev ρ x=.int k n:=by have:=h.ev x;rw[hx] at this;exact this
theorem El {I:G} {ρ:dX} {s:ByteArray} (h:eW I env ρ) (hx:bc env x=.str s):ev ρ x=.string s:=by have:=h.ev x;rw[hx] at this;exact this
theorem ik {I:G} {ρ:dX} {v:Value} (h:eW I env ρ) (hx:bc env x=.raw v):ev ρ x=v:=by have:=h.ev x;rw[hx] at this;exact this
theorem Gv.pickT {b:Bool} {v:AV} (hc:bc env x=.bool b) (hb:b=true) (hy:bc env y=v):Gv P env O (Oper.mk (some d) (.pick x y z) ty pos af none) v:=
 Gv.ofEv fun I ρ h=>⟨ev ρ y,hy▸h.ev y,fun _=>Run.pickT (Ji h hc) hb rfl⟩
theorem Gv.pickF {b:Bool} {v:AV} (hc:bc env x=.bool b) (hb:b=false) (hy:bc env z=v):Gv P env O (Oper.mk (some d) (.pick x y z) ty pos af none) v:=
 Gv.ofEv fun I ρ h=>⟨ev ρ z,hy▸h.ev z,fun _=>Run.pickF (Ji h hc) hb rfl⟩
theorem Gv.lss {k:IntKind} {a b:Int} (hx:bc env x=.int k a) (hy:bc env y=.int k b):Gv P env O (Oper.mk (some d) (.binOp .lss t x y u) ty pos af none) (.bool (decide (a<b))):=Gv.ofEv fun I ρ h=>⟨_,rfl,fun _=>Run.lss (gr h hx) (gr h hy)⟩
theorem Gv.leq {k:IntKind} {a b:Int} (hx:bc env x=.int k a) (hy:bc env y=.int k b):Gv P env O (Oper.mk (some d) (.binOp .leq t x y u) ty pos af none) (.bool (decide (a≤b))):=Gv.ofEv fun I ρ h=>⟨_,rfl,fun _=>Run.leq (gr h hx) (gr h hy)⟩
theorem Gv.gtr {k:IntKind} {a b:Int} (hx:bc env x=.int k a) (hy:bc env y=.int k b):Gv P env O (Oper.mk (some d) (.binOp .gtr t x y u) ty pos af none) (.bool (decide (b<a))):=Gv.ofEv fun I ρ h=>⟨_,rfl,fun _=>Run.gtr (gr h hx) (gr h hy)⟩
theorem Gv.geq {k:IntKind} {a b:Int} (hx:bc env x=.int k a) (hy:bc env y=.int k b):Gv P env O (Oper.mk (some d) (.binOp .geq t x y u) ty pos af none) (.bool (decide (b≤a))):=Gv.ofEv fun I ρ h=>⟨_,rfl,fun _=>Run.geq (gr h hx) (gr h hy)⟩
theorem Gv.eqlI {k:IntKind} {a b:Int} (hx:bc env x=.int k a) (hy:bc env y=.int k b):Gv P env O (Oper.mk (some d) (.binOp .eql t x y u) ty pos af none) (.bool (decide (a=b))):=Gv.ofEv fun I ρ h=>⟨_,rfl,fun _=>Run.eqlI (gr h hx) (gr h hy)⟩
theorem Gv.neqI {k:IntKind} {a b:Int} (hx:bc env x=.int k a) (hy:bc env y=.int k b):Gv P env O (Oper.mk (some d) (.binOp .neq t x y u) ty pos af none) (.bool (!decide (a=b))):=Gv.ofEv fun I ρ h=>⟨_,rfl,fun _=>by rw[←decide_not];exact Run.neqI (gr h hx) (gr h hy)⟩
theorem Gv.add {a b:Int} (hx:bc env x=.int .i64 a) (hy:bc env y=.int .i64 b) (hr:lz (a+b)):Gv P env O (Oper.mk (some d) (.binOp .add t x y u) ty pos af none) (.int .i64 (a+b)):=Gv.ofEv fun I ρ h=>⟨_,rfl,fun _=>Run.add (gr h hx) (gr h hy) hr⟩
theorem Gv.sub {a b:Int} (hx:bc env x=.int .i64 a) (hy:bc env y=.int .i64 b) (hr:lz (a - b)):Gv P env O (Oper.mk (some d) (.binOp .sub t x y u) ty pos af none) (.int .i64 (a - b)):=Gv.ofEv fun I ρ h=>⟨_,rfl,fun _=>Run.sub (gr h hx) (gr h hy) hr⟩
theorem Gv.mul {a b:Int} (hx:bc env x=.int .i64 a) (hy:bc env y=.int .i64 b) (hr:lz (a*b)):Gv P env O (Oper.mk (some d) (.binOp .mul t x y u) ty pos af none) (.int .i64 (a*b)):=Gv.ofEv fun I ρ h=>⟨_,rfl,fun _=>Run.mul (gr h hx) (gr h hy) hr⟩
theorem Gv.addW {k:IntKind} {a b:Int} (hx:bc env x=.int k a) (hy:bc env y=.int k b):Gv P env O (Oper.mk (some d) (.binOp .add t x y u) ty pos af none) (.int k (k.wrap (a+b))):=Gv.ofEv fun I ρ h=>⟨_,rfl,fun _=>Run.addW (gr h hx) (gr h hy)⟩
theorem Gv.subW {k:IntKind} {a b:Int} (hx:bc env x=.int k a) (hy:bc env y=.int k b):Gv P env O (Oper.mk (some d) (.binOp .sub t x y u) ty pos af none) (.int k (k.wrap (a - b))):=Gv.ofEv fun I ρ h=>⟨_,rfl,fun _=>Run.subW (gr h hx) (gr h hy)⟩
theorem Gv.mulW {k:IntKind} {a b:Int} (hx:bc env x=.int k a) (hy:bc env y=.int k b):Gv P env O (Oper.mk (some d) (.binOp .mul t x y u) ty pos af none) (.int k (k.wrap (a*b))):=Gv.ofEv fun I ρ h=>⟨_,rfl,fun _=>Run.mulW (gr h hx) (gr h hy)⟩
theorem Gv.not {b:Bool} (hx:bc env x=.bool b):Gv P env O (Oper.mk (some d) (.unOp .not t x) ty pos af none) (.bool (!b)):=Gv.ofEv fun I ρ h=>⟨_,rfl,fun _=>Run.not (Ji h hx)⟩
theorem Gv.eqlT {a b:ByteArray} (hx:bc env x=.str a) (hy:bc env y=.str b):Gv P env O (Oper.mk (some d) (.binOp .eql t x y u) ty pos af none) (.bool (decide (a=b))):=Gv.ofEv fun I ρ h=>⟨_,rfl,fun _=>Run.eqlT (El h hx) (El h hy)⟩
theorem Gv.neqT {a b:ByteArray} (hx:bc env x=.str a) (hy:bc env y=.str b):Gv P env O (Oper.mk (some d) (.binOp .neq t x y u) ty pos af none) (.bool (!decide (a=b))):=Gv.ofEv fun I ρ h=>⟨_,rfl,fun _=>Run.neqT (El h hx) (El h hy)⟩
theorem Gv.eqlB {a b:Bool} (ht:P.underlying t=some .bool) (hx:bc env x=.bool a) (hy:bc env y=.bool b):Gv P env O (Oper.mk (some d) (.binOp .eql t x y u) ty pos af none) (.bool (a == b)):=Gv.ofEv fun I ρ h=>⟨_,rfl,fun _=>Run.eqlB ht (Ji h hx) (Ji h hy)⟩
theorem Gv.neqB {a b:Bool} (ht:P.underlying t=some .bool) (hx:bc env x=.bool a) (hy:bc env y=.bool b):Gv P env O (Oper.mk (some d) (.binOp .neq t x y u) ty pos af none) (.bool (!(a == b))):=Gv.ofEv fun I ρ h=>⟨_,rfl,fun _=>Run.neqB ht (Ji h hx) (Ji h hy)⟩
theorem Gv.addT {a b:ByteArray} (hx:bc env x=.str a) (hy:bc env y=.str b) (hl:a.size+b.size≤140737488355328):Gv P env O (Oper.mk (some d) (.binOp .add t x y u) ty pos af none) (.str (a++b)):=Gv.ofEv fun I ρ h=>⟨_,rfl,fun _=>by
 have:¬(((a.size+b.size:Nat):Int)>IntKind.i64.max):=by
  have:IntKind.i64.max=9223372036854775807:=by rfl
  rw[this];omega
 have he:∀w,(eqGuard .add t x y (.string a) (.string b)).run P w=.ok () w:=fun w=>rfl
 simp only[execOp,El h hx,El h hy]
 simp only[Sem.run_bind,he,Result.andThen]
 simp[binOp,Op.stringOp]
 have h2:¬((a.size:Int)+b.size>IntKind.i64.max):=by simpa using this
 simp at h2
 rw[if_neg (by omega)]⟩
theorem Gv.extract {vs:List AV} {i:Nat} {v:AV} (hx:bc env x=.tup vs) (hv:vs[i]?=some v):Gv P env O (Oper.mk (some d) (.extract x i) ty pos af none) v:=Gv.ofEv fun I ρ h=>by
 have:=h.ev x
 rw[hx] at this
 obtain ⟨us,e,hr⟩:=this
 obtain ⟨u,hu,hru⟩:=hr.get hv
 exact ⟨u,hru,fun _=>Run.extract e (by simpa using hu)⟩
theorem Gv.nilCheckF {cs:List AV} (hx:bc env x=.pf cs):Gv P env O (Oper.mk (some d) (.nilCheck x) ty pos af none) (.pf cs):=Gv.ofEv fun I ρ h=>by
 have h2:=h.ev x
 rw[hx] at h2
 obtain ⟨b,off,vs,e,h3⟩:=id h2
 rw[e] at h2
 exact ⟨_,h2,fun _=>Run.nilCheck e⟩
theorem Gv.nilCheckO {i off:Nat} (hx:bc env x=.po i off):Gv P env O (Oper.mk (some d) (.nilCheck x) ty pos af none) (.po i off):=Gv.ofEv fun I ρ h=>by
 have h2:=h.ev x
 rw[hx] at h2
 obtain ⟨b,c,e1,e⟩:=id h2
 rw[e] at h2
 exact ⟨_,h2,fun _=>Run.nilCheck e⟩
theorem Gv.lenF {k:Nat} {rows:List (List AV)} (ht:P.underlying t=some (.slice e)) (hx:bc env x=.fro k rows):Gv P env O (Oper.mk (some d) (.call { callee:=.builtin .len,args:=#[x],argTypes:=#[t] }) ty pos af none) (.int .i64 rows.length):=Gv.ofEv fun I ρ h=>by
 have h2:=h.ev x
 rw[hx] at h2
 obtain ⟨a,n,c,e,rfl,_⟩:=h2
 exact ⟨_,rfl,fun _=>Run.lenS ht e⟩
theorem Gv.lenM {α:Type} {enc:α→List AV} {xs:List α} {k:Nat} (ht:P.underlying t=some (.slice e)) (hx:bc env x=.fro k (xs.map enc)):Gv P env O (Oper.mk (some d) (.call { callee:=.builtin .len,args:=#[x],argTypes:=#[t] }) ty pos af none) (.int .i64 xs.length):=by
 have:=Gv.lenF (d:=d) (ty:=ty) (pos:=pos) (af:=af) (O:=O) ht hx
 rwa [List.length_map] at this
theorem Gv.lenO {i n:Nat} (ht:P.underlying t=some (.slice e)) (hx:bc env x=.own i n):Gv P env O (Oper.mk (some d) (.call { callee:=.builtin .len,args:=#[x],argTypes:=#[t] }) ty pos af none) (.int .i64 n):=Gv.ofEv fun I ρ h=>by
 have h2:=h.ev x
 rw[hx] at h2
 obtain ⟨b,c,_,e⟩:=h2
 exact ⟨_,rfl,fun _=>Run.lenS ht e⟩
theorem Gv.lenT {s:ByteArray} (ht:P.underlying t=some .string) (hx:bc env x=.str s):Gv P env O (Oper.mk (some d) (.call { callee:=.builtin .len,args:=#[x],argTypes:=#[t] }) ty pos af none) (.int .i64 s.size):=Gv.ofEv fun I ρ h=>⟨_,rfl,fun _=>Run.lenT ht (El h hx)⟩
theorem Gv.load1F {c:AV} {cs:List AV} (ha:∀w,(isAgg t).run P w=.ok false w) (hx:bc env x=.pf (c::cs)):Gv P env O (Oper.mk (some d) (.load t x) ty pos af none) c:=fun I L E ρ h1 _=>by
 have h2:=h1.ev x
 rw[hx] at h2
 obtain ⟨b,off,vs,e,⟨v,us,e2,h3,h4⟩,h5⟩:=h2
 subst e2
 exact ⟨v,h3,fun w J L' hl hS _=>Run.load1 ha hS e ((h5 0 v rfl).mono hl |>.at_ _)⟩
theorem Gv.loadAF {n:Nat} {cs l:List AV} (ha:∀w,(isAgg t).run P w=.ok true w) (hs:∀w,(sizeOf t).run P w=.ok n w) (hx:bc env x=.pf cs) (hn:Nat.ble n cs.length=true) (hl:cs.take n=l):Gv P env O (Oper.mk (some d) (.load t x) ty pos af none) (.agg l):=fun I L E ρ h1 _=>by
 have h2:=h1.ev x
 rw[hx] at h2
 obtain ⟨b,off,vs,e,h3,h5⟩:=h2
 refine ⟨.agg (vs.take n).toArray,⟨_,rfl,hl▸h3.take n⟩,fun w J L' hk hS _=>Run.loadA ha ?_ hS e ?_⟩
 ·have hn:=Nat.le_of_ble_eq_true hn
  have:=h3.length
  rw[List.length_take,Nat.min_eq_left (by omega)];exact hs
 ·intro j v hj
  rw[List.getElem?_take] at hj
  split at hj
  ·exact ((h5 j v hj).mono hk).at_ _
  ·cases hj
theorem Gv.loadWF {n:Nat} {cs:List AV} (ha:∀w,(isAgg t).run P w=.ok true w) (hs:∀w,(sizeOf t).run P w=.ok n w) (hx:bc env x=.pf cs) (hn:cs.length=n):Gv P env O (Oper.mk (some d) (.load t x) ty pos af none) (.agg cs):=
 Gv.loadAF ha hs hx (by rw[hn];simp) (by rw[←hn];simp)
theorem Gv.fieldF {fs:Array Field} {f:Field} {i sz:Nat} {cs cs':List AV} (ht:P.underlying t=some (.struct fs)) (hf:fs[i]?=some f) (hs:∀w,(sizeOf f.type).run P w=.ok sz w) (hz:sz≠0)
  (hx:bc env x=.pf cs) (hr:cs.drop f.offset=cs'):Gv P env O (Oper.mk (some d) (.fieldAddr t x i) ty pos af none) (.pf cs'):=fun I L E ρ h1 _=>by
 have h2:=h1.ev x
 rw[hx] at h2
 obtain ⟨b,off,vs,e,h3,h5⟩:=h2
 refine ⟨.pointer (some ⟨b,off+f.offset,none⟩),⟨b,_,vs.drop f.offset,rfl,hr▸h3.drop _,fun j u hj=>?_⟩,fun w J L' _ _ _=>Run.field ht hf hs hz e rfl⟩
 rw[List.getElem?_drop] at hj
 have:=h5 _ _ hj
 rwa [←Nat.add_assoc] at this
theorem Gv.fieldO {fs:Array Field} {f:Field} {i id off r sz:Nat} (ht:P.underlying t=some (.struct fs)) (hf:fs[i]?=some f) (hs:∀w,(sizeOf f.type).run P w=.ok sz w) (hz:sz≠0)
  (hx:bc env x=.po id off) (hr:off+f.offset=r):Gv P env O (Oper.mk (some d) (.fieldAddr t x i) ty pos af none) (.po id r):=fun I L E ρ h1 _=>by
 have h2:=h1.ev x
 rw[hx] at h2
 obtain ⟨b,c,e1,e⟩:=h2
 exact ⟨_,⟨b,c,e1,rfl⟩,fun w J L' _ _ _=>Run.field ht hf hs hz e hr⟩
theorem Gv.idxF {k j:Nat} {i:Int} {rows:List (List AV)} {r:List AV} (ht:P.underlying t=some (.slice e)) (hs:∀w,(sizeOf e).run P w=.ok k w) (hx:bc env x=.fro k rows) (hy:bc env y=.int .i64 i) (hi:i=(j:Int)) (hj:rows[j]?=some r) :
  Gv P env O (Oper.mk (some d) (.indexAddr t x y) ty pos af none) (.pf r):=fun I L E ρ h1 _=>by
 have h2:=h1.ev x
 rw[hx] at h2
 obtain ⟨a,n,c,ex,hn,_,_,h3⟩:=h2
 obtain ⟨b,off,vs,rfl,h4,h5,h6⟩:=h3.get hj
 have hlt:j<n:=by rw[hn];exact (List.getElem?_eq_some_iff.1 hj).1
 refine ⟨.pointer (some ⟨b,off+j*k,none⟩),⟨b,_,vs,rfl,h5,fun i u hu=>?_⟩,fun w J L' _ _ _=>Run.idx ht hs ex (gr h1 hy) hi hlt⟩
 have:=h6 i u hu
 rwa [Nat.zero_add] at this
theorem Gv.idxM {α:Type} {enc:α→List AV} {xs:List α} {k j:Nat} {i:Int} {v:α} (ht:P.underlying t=some (.slice e)) (hs:∀w,(sizeOf e).run P w=.ok k w) (hx:bc env x=.fro k (xs.map enc)) (hy:bc env y=.int .i64 i) (hi:i=(j:Int)) (hj:xs[j]?=some v) :
  Gv P env O (Oper.mk (some d) (.indexAddr t x y) ty pos af none) (.pf (enc v)):=Gv.idxF ht hs hx hy hi (by rw[List.getElem?_map,hj];rfl)
end
def tj (O:OL) (i:Nat) (o:bC):Prop:=∃O',dH O i o O'
theorem tj.cells {I:G} {O:OL} {L:List (Nat × Obj)} {i:Nat} {T:TypeId} {cs:List AV} (h:tj O i (.cells T cs)) (hL:cD I O L):∃b c vs,I.h i=some (some b,c)∧RepL I cs vs∧(b,Obj.cells vs.toArray T (0,0))∈L:=by
 obtain ⟨O',h⟩:=h
 obtain ⟨A,B,hp,h1,_⟩:=h.rep hL
 obtain ⟨b,c,vs,h2,h3,_,rfl⟩:=h1
 exact ⟨b,c,vs,h2,h3,hp.mem_iff.2 (by simp)⟩
theorem tj.grow {I:G} {O:OL} {L:List (Nat × Obj)} {i k:Nat} {T:TypeId} {cs:List AV} (h:tj O i (.grow k T cs)) (hL:cD I O L) (hne:cs≠[]):∃b c vs junk,I.h i=some (some b,c)∧RepL I cs vs∧(b,Obj.cells (vs++junk).toArray T (0,0))∈L:=by
 obtain ⟨O',h⟩:=h
 obtain ⟨A,B,hp,h1,_⟩:=h.rep hL
 obtain ⟨b,c,n,vs,h2,h3,_,h4,h5,h6⟩:=h1
 rcases h6 with ⟨_,h6,_⟩|⟨b',junk,e,e2,h6⟩
 ·have:=h3.length
  have:n=0:=by omega
  subst this
  simp at h4
  subst h4
  simp at this
  exact absurd this.symm (by simpa using hne)
 ·cases b with
  |none=>simp[adr] at e
  |some b=>
   simp[adr] at e
   subst e e2
   exact ⟨b,c,vs,junk,h2,h3,hp.mem_iff.2 (by simp)⟩
section
variable {E:World} {P:Program} {env:aT} {O:OL} {d ty:Nat} {pos:String} {af:Array Edge} {x y z:Operand} {t u e:TypeId}
theorem Gv.load1C {i off:Nat} {T:TypeId} {c:AV} {cs tl:List AV} (ha:∀w,(isAgg t).run P w=.ok false w) (hx:bc env x=.po i off) (hO:tj O i (.cells T cs)) (hv:cs.drop off=c::tl):Gv P env O (Oper.mk (some d) (.load t x) ty pos af none) c:=fun I L E ρ h1 hL=>by
 have h2:=h1.ev x
 rw[hx] at h2
 obtain ⟨b,k,e1,e⟩:=h2
 obtain ⟨b',k',vs,e2,h3,hm⟩:=hO.cells hL
 rw[e1] at e2;cases e2
 have h4:=h3.drop off
 rw[hv] at h4
 obtain ⟨v,us,e5,h6,h7⟩:=h4
 exact ⟨v,h6,fun w J L' hl hS hsub=>Run.load1 ha hS e (.inr ⟨_,_,_,hsub _ hm,by rw[List.getElem?_toArray];exact wt e5⟩)⟩
theorem Gv.loadAC {i off n:Nat} {T:TypeId} {cs l:List AV} (ha:∀w,(isAgg t).run P w=.ok true w) (hs:∀w,(sizeOf t).run P w=.ok n w) (hx:bc env x=.po i off) (hO:tj O i (.cells T cs)) (hn:Nat.ble (off+n) cs.length=true) (hl:(cs.drop off).take n=l) :
  Gv P env O (Oper.mk (some d) (.load t x) ty pos af none) (.agg l):=fun I L E ρ h1 hL=>by
 have h2:=h1.ev x
 rw[hx] at h2
 obtain ⟨b,k,e1,e⟩:=h2
 obtain ⟨b',k',vs,e2,h3,hm⟩:=hO.cells hL
 rw[e1] at e2;cases e2
 refine ⟨.agg ((vs.drop off).take n).toArray,⟨_,rfl,hl▸(h3.drop off).take n⟩,fun w J L' hk hS hsub=>Run.loadA ha ?_ hS e ?_⟩
 ·have hn:=Nat.le_of_ble_eq_true hn
  have:=h3.length
  rw[List.length_take,List.length_drop,Nat.min_eq_left (by omega)];exact hs
 ·intro j v hj
  rw[List.getElem?_take] at hj
  split at hj
  ·rw[List.getElem?_drop] at hj
   exact .inr ⟨_,_,_,hsub _ hm,by rw[List.getElem?_toArray];exact hj⟩
  ·cases hj
theorem Gv.loadWC {i n:Nat} {T:TypeId} {cs:List AV} (ha:∀w,(isAgg t).run P w=.ok true w) (hs:∀w,(sizeOf t).run P w=.ok n w) (hx:bc env x=.po i 0) (hO:tj O i (.cells T cs)) (hn:cs.length=n):Gv P env O (Oper.mk (some d) (.load t x) ty pos af none) (.agg cs):=
 Gv.loadAC ha hs hx hO (by rw[hn];simp) (by rw[←hn];simp)
theorem Gv.load1G {i off k:Nat} {T:TypeId} {c:AV} {cs tl:List AV} (ha:∀w,(isAgg t).run P w=.ok false w) (hx:bc env x=.po i off) (hO:tj O i (.grow k T cs)) (hv:cs.drop off=c::tl):Gv P env O (Oper.mk (some d) (.load t x) ty pos af none) c:=fun I L E ρ h1 hL=>by
 have h2:=h1.ev x
 rw[hx] at h2
 obtain ⟨b,k,e1,e⟩:=h2
 obtain ⟨b',k',vs,junk,e2,h3,hm⟩:=hO.grow hL (by intro h;subst h;simp at hv)
 rw[e1] at e2;cases e2
 have h4:=h3.drop off
 rw[hv] at h4
 obtain ⟨v,us,e5,h6,h7⟩:=h4
 exact ⟨v,h6,fun w J L' hl hS hsub=>Run.load1 ha hS e (.inr ⟨_,_,_,hsub _ hm,by
  have:=wt e5
  rw[List.getElem?_toArray,List.getElem?_append_left (List.getElem?_eq_some_iff.1 this).1];exact this⟩)⟩
theorem Gv.loadAG {i off n k:Nat} {T:TypeId} {cs l:List AV} (ha:∀w,(isAgg t).run P w=.ok true w) (hs:∀w,(sizeOf t).run P w=.ok n w) (hx:bc env x=.po i off) (hO:tj O i (.grow k T cs)) (hne:cs≠[]) (hn:off+n≤cs.length) (hl:(cs.drop off).take n=l) :
  Gv P env O (Oper.mk (some d) (.load t x) ty pos af none) (.agg l):=fun I L E ρ h1 hL=>by
 have h2:=h1.ev x
 rw[hx] at h2
 obtain ⟨b,k,e1,e⟩:=h2
 obtain ⟨b',k',vs,junk,e2,h3,hm⟩:=hO.grow hL hne
 rw[e1] at e2;cases e2
 refine ⟨.agg ((vs.drop off).take n).toArray,⟨_,rfl,hl▸(h3.drop off).take n⟩,fun w J L' hk hS hsub=>Run.loadA ha ?_ hS e ?_⟩
 ·have:=h3.length
  rw[List.length_take,List.length_drop,Nat.min_eq_left (by omega)];exact hs
 ·intro j v hj
  rw[List.getElem?_take] at hj
  split at hj
  ·rw[List.getElem?_drop] at hj
   exact .inr ⟨_,_,_,hsub _ hm,by rw[List.getElem?_toArray,List.getElem?_append_left (List.getElem?_eq_some_iff.1 hj).1];exact hj⟩
  ·cases hj
theorem Gv.idxO {i n k j:Nat} {a:Int} {T:TypeId} {cs:List AV} (ht:P.underlying t=some (.slice e)) (hs:∀w,(sizeOf e).run P w=.ok k w) (hx:bc env x=.own i n) (hy:bc env y=.int .i64 a) (hi:a=(j:Int)) (hO:tj O i (.grow k T cs)) (hne:cs≠[]) (hj:j<n) :
  Gv P env O (Oper.mk (some d) (.indexAddr t x y) ty pos af none) (.po i (j*k)):=fun I L E ρ h1 hL=>by
 have h2:=h1.ev x
 rw[hx] at h2
 obtain ⟨b,c,e1,e⟩:=h2
 obtain ⟨b',k',vs,junk,e2,_⟩:=hO.grow hL hne
 rw[e1] at e2;cases e2
 refine ⟨.pointer (some ⟨b',0+j*k,none⟩),⟨b',_,e1,by rw[Nat.zero_add]⟩,fun w J L' _ _ _=>Run.idx ht hs e (gr h1 hy) hi hj⟩
end
end
section
def lit:Value→AV
 |.bool b=>.bool b
 |.int k n=>.int k n
 |.string s=>.str s
 |v=>.raw v
theorem BG (I:G) (v:Value):cC I (lit v) v:=by cases v<;>exact rfl
theorem eQ (I:G):∀l:List Value,RepL I (l.map lit) l
 |[]=>rfl
 |v::l=>⟨v,l,rfl,BG I v,eQ I l⟩
def AV.cs:AV→List AV
 |.agg cs=>cs
 |x=>[x]
def AV.sto:AV→Bool
 |.any | .tup _=>false
 |.raw v=>v.oneCell'
 |_=>true
theorem AV.cs_rep {I:G} {x:AV} {v:Value} (h:cC I x v) (hs:x.sto=true):RepL I x.cs v.cells.toList:=by
 cases x
 case agg cs=>obtain ⟨vs,e,h2⟩:=h;subst e;simpa [AV.cs,Value.cells] using h2
 case any=>cases hs
 case tup=>cases hs
 all_goals
  have hc:v.cells=#[v]:=by
   have:=AV.cell_rep h (by first|rfl|exact hs)
   cases v<;>first|rfl|(simp[Value.oneCell'] at this)
  rw[hc]
  exact RepL.one h
theorem iB.name {I:G} {O:OL} {F:List (Nat × Obj)} {E w:World} (h:iB I O F E w):∃i,∀hd:Option Nat × Nat,∃J:G,J.k=I.k∧I.le J∧J.h i=some hd∧∃top,∀i,top≤i→J.h i=none:=by
 obtain ⟨⟨top,ht⟩,_⟩:=h
 refine ⟨top,fun hd=>⟨⟨I.k,fun j=>if j=top then some hd else I.h j⟩,rfl,⟨.refl _,fun i x hi=>?_⟩,by simp,top+1,fun i hi=>?_⟩⟩
 ·have:i≠top:=fun e=>by rw[e,ht top (Nat.le_refl _)] at hi;cases hi
  simp[this,hi]
 ·simp only
  rw[if_neg (by omega)];exact ht i (by omega)
theorem cD.perm {I:G} {O O':OL} (h:O.Perm O'):∀{L},cD I O L→∃L',cD I O' L'∧L.Perm L':=by
 induction h with
 |nil=>intro L h;exact ⟨L,h,.refl _⟩
 |cons x _ ih=>rintro L ⟨A,B,e,h1,h2⟩;obtain ⟨B',h3,h4⟩:=ih h2;exact ⟨A++B',⟨A,B',rfl,h1,h3⟩,e▸h4.append_left A⟩
 |swap x y l=>
  rintro L ⟨A,B,e,h1,C,D,e2,h2,h3⟩
  refine ⟨C++(A++D),⟨C,A++D,rfl,h2,A,D,rfl,h1,h3⟩,?_⟩
  subst e e2
  rw[←List.append_assoc,←List.append_assoc]
  exact List.perm_append_comm.append_right D
 |trans _ _ ih1 ih2=>intro L h;obtain ⟨L1,h1,h2⟩:=ih1 h;obtain ⟨L2,h3,h4⟩:=ih2 h1;exact ⟨L2,h3,h2.trans h4⟩
def bn (P:Program) (E:World) (f:FuncId) (args:List AV) (O:OL) (R:AV→OL→Prop):Prop:=
 ∀I F w vs,RepL I args vs→iB I O F E w→Fn P f vs.toArray w fun v w'=>∃J x O',I.le J∧cC J x v∧iB J O' F E w'∧R x O'
def aP (P:Program) (E:World) (f:FuncId) (args:List AV) (r:AV):Prop:=bn P E f args [] fun x _=>x=r
theorem bn.mono {E:World} {P:Program} {f:FuncId} {args:List AV} {O:OL} {R R':AV→OL→Prop} (h:bn P E f args O R) (hr:∀x O,R x O→R' x O):bn P E f args O R':=fun I F w vs h1 h2=>
 (h I F w vs h1 h2).mono fun _ _ ⟨J,x,O',a,b,c,d⟩=>⟨J,x,O',a,b,c,hr _ _ d⟩
def L8 (E:World) (rs:Array ResultVar) (env:aT) (O:OL) (P:Program) (x:AV):Prop:=
 ∀I F ρ w,eW I env ρ→iB I O F E w→∃v,tn rs ρ P w=.ok v w∧cC I x v
def ga (P:Program) (E:World) (rs:Array ResultVar) (R:AV→OL→Prop):Exit→aT→OL→Prop:=fun e env O=>
 match e with
 |.normal | .ret=>∀I F ρ w,eW I env ρ→iB I O F E w→∃v,tn rs ρ P w=.ok v w∧∃J x O',I.le J∧cC J x v∧iB J O' F E w∧R x O'
 |_=>False
def Em (args:List AV):aT:=fun t=>(args[t]?).getD (.raw undef)
theorem CD {I:G} {args:List AV} {vs:List Value} (h:RepL I args vs):eW I (Em args) (Hb vs.toArray):=fun t=>by
 unfold Em Hb
 cases ha:args[t]? with
 |none=>
  have:vs[t]?=none:=by
   rw[List.getElem?_eq_none_iff] at ha ⊢
   rw[h.length];exact ha
  simp[Array.getD_eq_getD_getElem?,this,cC]
 |some x=>
  obtain ⟨v,hv,hr⟩:=h.get ha
  simp[Array.getD_eq_getD_getElem?,hv,hr]
theorem bn.intro {E:World} {P:Program} {f:FuncId} {fn:Func} {c:Code} {args:List AV} {O:OL} {R:AV→OL→Prop} (hf:P.funcs[f]?=some fn) (hb:fn.body=some c)
  (hn:fn.name≠"runtime.NumGoroutine") (hs:Nat.ble args.length fn.ntmps=true) (h:dV P E fn.ntmps c (ga P E fn.results R) (Em args) O):bn P E f args O R:=fun I F w vs h1 h2=>
 Fn.intro hf hb hn (by rw[List.size_toArray,h1.length];exact hs) ((h I F _ w (CD h1) h2).mono fun e ρ w ⟨J,env,O,a,b,c,d⟩=>by
  cases e<;>first|exact d.elim|(obtain ⟨v,h3,K,x,O',h4,h5,h6,h7⟩:=d J F ρ w b c;exact ⟨v,h3,K,x,O',a.trans h4,h5,h6,h7⟩))
section
variable {E:World} {P:Program} {env:aT} {O:OL} {R:AV→OL→Prop}
theorem ga.of {rs:Array ResultVar} {x:AV} (h:L8 E rs env O P x) (hr:R x O):ga P E rs R .ret env O:=fun I F ρ w h1 h2=>by
 obtain ⟨v,h3,h4⟩:=h I F ρ w h1 h2
 exact ⟨v,h3,I,x,O,.refl _,h4,h2,hr⟩
theorem ga.t1 {t:Nat} {x:AV} (hv:env t=x) (h:R x O):ga P E #[.tmp t] R .ret env O:=ga.of (fun I F ρ w h1 _=>⟨_,by simp[tn],hv▸h1 t⟩) h
theorem ga.t0 (h:R (.tup []) O):ga P E #[] R .ret env O:=ga.of (x:=.tup []) (fun I F ρ w h1 _=>⟨.tuple #[],by simp[tn],⟨[],rfl,rfl⟩⟩) h
theorem ga.t2 {t u:Nat} {x y:AV} (hv:env t=x) (hu:env u=y) (h:R (.tup [x,y]) O):ga P E #[.tmp t,.tmp u] R .ret env O:=
 ga.of (x:=.tup [x,y]) (fun I F ρ w h1 _=>⟨.tuple #[ρ t,ρ u],by simp[tn],⟨[ρ t,ρ u],rfl,⟨_,_,rfl,hv▸h1 t,⟨_,_,rfl,hu▸h1 u,rfl⟩⟩⟩⟩) h
theorem ga.c1 {t T i:Nat} {T':TypeId} {cs:List AV} {n:Nat} (hv:env t=.po i 0) (hO:tj O i (.cells T' cs)) (ha:∀w,(isAgg T).run P w=.ok true w) (hs:∀w,(sizeOf T).run P w=.ok n w) (hn:cs.length=n) (h:R (.agg cs) O) :
  ga P E #[.cell t T] R .ret env O:=ga.of (fun I F ρ w h1 h2=>by
 obtain ⟨L,hL,hS⟩:=h2.2
 have h3:=h1 t
 rw[hv] at h3
 obtain ⟨b,c,e1,e⟩:=h3
 obtain ⟨b',c',vs,e2,h4,hm⟩:=hO.cells hL
 rw[e1] at e2;cases e2
 have hl:=k9 (P:=P) (w:=w) (b:=b) (off:=0) ha (cs:=vs) (by rw[h4.length,hn];exact hs) (fun j v hj=>by
  rw[Nat.zero_add]
  exact hS.at_ (.inr ⟨_,_,_,List.mem_append_left _ hm,by rw[List.getElem?_toArray];exact hj⟩))
 exact ⟨.agg vs.toArray,by simp[tn,e,asAddr,hl],⟨vs,rfl,h4⟩⟩) h
end
section
variable {E:World} {P:Program} {ops:Array Oper} {K:aT→OL→Prop} {env:aT} {O O':OL} {rest:List Oper}
variable {d ty:Nat} {pos:String} {af:Array Edge} {x y z:Operand} {t u e:TypeId}
theorem ay.boxF {v:AV} {cs:List AV} (hx:bc env x=v) (hv:v.sto=true) (hc:v.cs=cs) (k:ay P E ops K rest (bz env d (.pf cs)) O):ay P E ops K (Oper.mk (some d) (.box t x) ty pos af none::rest) env O:=fun I F ρ w h1 h2=>by
 obtain ⟨ht,L,hL,hS⟩:=h2
 refine bY.boxP hS rfl fun b w' J hl hb hS'=>?_
 have h3:=h1.ev x
 rw[hx] at h3
 have h4:=AV.cs_rep h3 hv
 rw[hc] at h4
 let I':G:=⟨J,I.h⟩
 have hle:I.le I':=⟨hl,fun _ _ h=>h⟩
 refine qa (fun _ _=>qb hle) _ _ _ (k I' F _ w' ((h1.mono hle).upd d ⟨b,0,_,rfl,RepL.mono hle _ _ h4,fun j u hj=>⟨_,_,_,hb,?_⟩⟩) ⟨ht,L,hL.mono hle,hS'⟩)
 rw[Nat.zero_add];simpa using hj
theorem En {I:G} {F:List (Nat × Obj)} {E w w':World} {L:List (Nat × Obj)} {b:Nat} {T:TypeId} {cs:List AV} {vs:List Value} (h2:iB I O F E w) (hL:cD I O L) (hr:RepL I cs vs) (h1c:∀u∈vs,u.oneCell'=true)
  (hS:SL I.k ((b,.cells vs.toArray T (0,0))::(L++F)) E w'):∃i J,I.le J∧J.h i=some (some b,0)∧iB J ((i,.cells T cs)::O) F E w':=by
 obtain ⟨i,hi⟩:=h2.name
 obtain ⟨J,e1,hle,e2,htop⟩:=hi (some b,0)
 exact ⟨i,J,hle,e2,htop,_,⟨_,L,rfl,⟨b,0,vs,e2,RepL.mono hle _ _ hr,h1c,rfl⟩,hL.mono hle⟩,by rw[e1];exact hS⟩
theorem RepL.cell1 {I:G} {cs:List AV} {vs:List Value} (h4:RepL I cs vs) (hc1:cs.all AV.cell=true):∀u∈vs,u.oneCell'=true:=by
 intro u hu
 obtain ⟨j,hj⟩:=List.mem_iff_getElem?.1 hu
 have hlen:=h4.length
 have hjl:=(List.getElem?_eq_some_iff.1 hj).1
 have hx:cs[j]?=some cs[j]:=List.getElem?_eq_getElem (by omega)
 obtain ⟨v',hv',hr'⟩:=h4.get hx
 rw[hj] at hv';cases hv'
 exact AV.cell_rep hr' (List.all_eq_true.1 hc1 _ (List.getElem_mem _))
theorem ay.boxO {v:AV} {cs:List AV} (hx:bc env x=v) (hv:v.sto=true) (hc:v.cs=cs) (hc1:cs.all AV.cell=true) (k:∀i,ay P E ops K rest (bz env d (.po i 0)) ((i,.cells t cs)::O)) :
  ay P E ops K (Oper.mk (some d) (.box t x) ty pos af none::rest) env O:=fun I F ρ w h1 h2=>by
 obtain ⟨L,hL,hS⟩:=h2.2
 refine bY.boxO hS rfl fun b w' hS'=>?_
 have h3:=h1.ev x
 rw[hx] at h3
 have h4:=AV.cs_rep h3 hv
 rw[hc] at h4
 obtain ⟨i,J,hle,e2,h5⟩:=En (O:=O) (w':=w') (b:=b) (T:=t) h2 hL h4 (h4.cell1 hc1) (by simpa using hS')
 exact qa (fun _ _=>qb hle) _ _ _ (k i J F _ w' ((h1.mono hle).upd d ⟨b,0,e2,rfl⟩) h5)
theorem ay.alloc {zv:Value} {cs:List AV} (hz:∀w,(zeroValue t).run P w=.ok zv w) (hc:zv.cells.toList.map lit=cs) (h1c:zv.cells.toList.all Value.oneCell'=true) (k:∀i,ay P E ops K rest (bz env d (.po i 0)) ((i,.cells t cs)::O)) :
  ay P E ops K (Oper.mk (some d) (.alloc t) ty pos af none::rest) env O:=fun I F ρ w h1 h2=>by
 obtain ⟨L,hL,hS⟩:=h2.2
 refine bY.alloc hz hS fun b w' hS'=>?_
 obtain ⟨i,J,hle,e2,h5⟩:=En (O:=O) (w':=w') (b:=b) (T:=t) h2 hL (hc▸eQ I zv.cells.toList) (List.all_eq_true.1 h1c) (by simpa using hS')
 exact qa (fun _ _=>qb hle) _ _ _ (k i J F _ w' ((h1.mono hle).upd d ⟨b,0,e2,rfl⟩) h5)
theorem pb {b off n:Nat} {vs:List Value} {T:TypeId} {v:Value} {old:List Value} {w:World} (hs:∀w,(sizeOf t).run P w=.ok n w) (hvc:v.cells=vs.toArray) (hn:vs.length=n) (h1c:∀u∈vs,u.oneCell'=true) (hb:off+n≤old.length)
  (hown:w.heap[b]?=some (.cells old.toArray T (0,0))):(Instr.storeAt t (.pointer (some ⟨b,off,none⟩)) v).run P w=.ok () (w.setRow b (old.take off++vs++old.drop (off+n)).toArray):=by
 have hst:(storeCells (⟨b,off,none⟩:Addr) vs 0).run P w=.ok () (w.setRow b (old.take off++vs++old.drop (off+n)).toArray):=by
  rw[run_storeCells_at (P:=P) b off T vs 0 old.toArray w hown (by simp;omega) h1c]
  simp[hn]
 have hvs:v.cells.size=n:=by rw[hvc];simpa using hn
 simp[Instr.storeAt,Instr.sureAddr,storeVar,hs,hvc,hn,hst]
theorem SL.turn1 {I:bK} {L:List (Nat × Obj)} {E w:World} {b:Nat} {old new:List Value} {T:TypeId} (h:SL I ((b,.cells old.toArray T (0,0))::L) E w):SL I ((b,.cells new.toArray T (0,0))::L) E (w.setRow b new.toArray):=by
 have hown:=h.own _ (.head _)
 simp only at hown
 refine h.turn rfl rfl rfl ?_ ?_
 ·simp[World.setRow,Array.getElem?_modify,hown]
 ·intro k hk
  simp only[World.setRow,Array.getElem?_modify]
  rw[if_neg (by omega)]
theorem ay.storeC {i off n:Nat} {T:TypeId} {v:AV} {cs l new:List AV} (hs:∀w,(sizeOf t).run P w=.ok n w) (hx:bc env x=.po i off) (hy:bc env y=v) (hv:v.sto=true) (hl:v.cs=l) (hl1:l.all AV.cell=true) (hn:l.length=n)
  (hO:fF O i (.cells T cs) (.cells T new) O') (hb:Nat.ble (off+n) cs.length=true) (hnew:cs.take off++l++cs.drop (off+n)=new) (k:ay P E ops K rest env O'):ay P E ops K (Oper.mk none (.store t x y) ty pos af none::rest) env O:=fun I F ρ w h1 h2=>by
 obtain ⟨htop,L,hL,hS⟩:=h2
 have h3:=h1.ev x
 rw[hx] at h3
 obtain ⟨b,c,e1,e⟩:=h3
 have h4:=h1.ev y
 rw[hy] at h4
 have h5:=AV.cs_rep h4 hv
 rw[hl] at h5
 obtain ⟨A,B,hp,⟨b',c',vs,e2,h6,h6c,rfl⟩,hback⟩:=hO.rep hL
 rw[e1] at e2;cases e2
 have hS2:SL I.k ((b,.cells vs.toArray T (0,0))::(B++F)) E w:=hS.perm ((hp.append_right F).symm)
 have hb:=Nat.le_of_ble_eq_true hb
 have hrun:=pb (P:=P) (t:=t) (b:=b) (off:=off) (v:=ev ρ y) (vs:=(ev ρ y).cells.toList) (old:=vs) (w:=w) hs (by simp) (by rw[h5.length,hn]) (h5.cell1 hl1) (by rw[h6.length];exact hb) (hS2.own _ (.head _))
 refine bY.step rfl ?_
 unfold lG
 have:(execOp (ev ρ) (Oper.mk none (.store t x y) ty pos af none)).run P w=.ok .skip (w.setRow b (vs.take off++(ev ρ y).cells.toList++vs.drop (off+n)).toArray):=by
  simp only[execOp,e]
  rw[Sem.run_bind,hrun];rfl
 rw[this]
 have hnr:RepL I new (vs.take off++(ev ρ y).cells.toList++vs.drop (off+n)):=hnew▸((h6.take off).append h5).append (h6.drop (off+n))
 obtain ⟨L',h7,h8⟩:=hback (qo I) (A':=[(b,.cells (vs.take off++(ev ρ y).cells.toList++vs.drop (off+n)).toArray T (0,0))]) ⟨b,c,_,e1,hnr,by
  intro u hu
  simp only[List.mem_append] at hu
  rcases hu with (hu|hu)|hu
  ·exact h6c u (List.mem_of_mem_take hu)
  ·exact h5.cell1 hl1 u hu
  ·exact h6c u (List.mem_of_mem_drop hu),rfl⟩
 exact k I F ρ _ h1 ⟨htop,L',h7,(hS2.turn1).perm (h8.append_right F)⟩
end
end
section
def ld (place:Nat→Option (Nat × Nat)):List AV→List (Nat × List AV)→Option (List AV)
 |cells,[]=>some cells
 |cells,(i,xs)::rest=>
  match place i with
  |none=>none
  |some (off,size)=>bif Nat.beq xs.length size&&Nat.ble (off+size) cells.length then ld place (cells.take off++(xs++cells.drop (off+size))) rest else none
theorem CE (off:Nat):∀(l:List Value) (k:Nat) (cs:Array Value),off+k+l.length≤cs.size→((l.zipIdx k).foldl (fun cs (x:Value × Nat)=>cs.setIfInBounds (off+x.2) x.1) cs).toList=cs.toList.take (off+k)++l++cs.toList.drop (off+k+l.length):=by
 intro l
 induction l with
 |nil=>intro k cs _;simp
 |cons c l ih=>
  intro k cs hk
  simp only[List.zipIdx_cons,List.foldl_cons]
  rw[ih (k+1) _ (by simp at hk ⊢;omega)]
  simp only[Array.toList_setIfInBounds,List.length_cons]
  have hk':off+k<cs.toList.length:=by simp at hk ⊢;omega
  rw[←Nat.add_assoc off k 1,List.take_succ_eq_append_getElem (by simpa using hk'),List.getElem_set_self,List.take_set_of_le (Nat.le_refl _)]
  rw[List.drop_set_of_lt (by omega:off+k<off+k+1+l.length)]
  simp only[List.append_assoc,List.singleton_append]
  have:off+k+1+l.length=off+k+(l.length+1):=by omega
  rw[this]
theorem nG {I:G} {place:Nat→Option (Nat × Nat)}:∀(l:List (Nat × Value)) (cps:List (Nat × List AV)) (cells:List AV) (vcells:Array Value) (rs:List AV),
  cps.map (·.1)=l.map (·.1)→(∀(j:Nat) p q,l[j]?=some p→cps[j]?=some q→RepL I q.2 p.2.cells.toList)→RepL I cells vcells.toList→ld place cells cps=some rs →
  ∃vc,Instr.fill place vcells l=some vc∧RepL I rs vc.toList
 |[],[],cells,vcells,rs,_,_,h,hf=>⟨vcells,rfl,by cases hf;exact h⟩
 |[],_::_,_,_,_,h,_,_,_=>by cases h
 |_::_,[],_,_,_,h,_,_,_=>by cases h
 |(i,v)::l,(i',xs)::cps,cells,vcells,rs,hk,hp,h,hf=>by
  simp only[List.map_cons,List.cons.injEq] at hk
  obtain ⟨rfl,hk⟩:=hk
  unfold ld at hf
  unfold Instr.fill
  cases hpl:place i' with
  |none=>rw[hpl] at hf;cases hf
  |some os=>
   obtain ⟨off,size⟩:=os
   rw[hpl] at hf
   simp only at hf ⊢
   have hx:=hp 0 _ _ rfl rfl
   simp only at hx
   have hxl:=hx.length
   have hcl:=h.length
   simp only[Array.length_toList] at hxl hcl
   cases hb:(Nat.beq xs.length size&&Nat.ble (off+size) cells.length) with
   |false=>rw[hb] at hf;cases hf
   |true=>
    rw[hb] at hf
    simp only[cond_true] at hf
    simp only[Bool.and_eq_true] at hb
    have e1:=Nat.eq_of_beq_eq_true hb.1
    have e2:=Nat.le_of_ble_eq_true hb.2
    rw[if_neg (show ¬((v.cells.size≠size||off+v.cells.size>vcells.size)=true) by simp;omega)]
    have hfold:=CE off v.cells.toList 0 vcells (by simp;omega)
    simp only[Nat.add_zero] at hfold
    have hfa:(v.cells.zipIdx.foldl (fun cs (x:Value × Nat)=>cs.setIfInBounds (off+x.2) x.1) vcells).toList=vcells.toList.take off++v.cells.toList++vcells.toList.drop (off+size):=by
     rw[←Array.foldl_toList]
     have:v.cells.zipIdx.toList=v.cells.toList.zipIdx 0:=by simp
     have hlen:v.cells.toList.length=size:=by rw[Array.length_toList];omega
     rw[this,hfold,hlen]
    refine nG l cps _ _ rs hk (fun j p q h1 h2=>hp (j+1) p q (by simpa using h1) (by simpa using h2)) ?_ hf
    rw[hfa,List.append_assoc]
    exact (h.take off).append (hx.append (h.drop _))
def em (P:Program) (t:TypeId) (places:Array (Nat × Nat)) (zs:List AV):Prop:=
 ∃fs zv,P.underlying t=some (.struct fs)∧(∀w,(zeroValue t).run P w=.ok zv w)∧(∀w,(fs.mapM (m:=Sem) fun f=>do pure (f.offset,←sizeOf f.type)).run P w=.ok places w)∧zv.cells.toList.map lit=zs
def kE (P:Program) (t:TypeId) (k:Nat) (zs:List AV):Prop:=
 ∃n e zv,P.underlying t=some (.array n e)∧(∀w,(zeroValue t).run P w=.ok zv w)∧(∀w,(sizeOf e).run P w=.ok k w)∧zv.cells.toList.map lit=zs
section
variable {E:World} {P:Program} {ops:Array Oper} {K:aT→OL→Prop} {env:aT} {O O':OL} {rest:List Oper}
variable {d ty:Nat} {pos:String} {af:Array Edge} {x y z:Operand} {t u e:TypeId}
theorem oy {I:G} {ρ:dX} (h1:eW I env ρ) (l:List (Nat × Operand)) (hs:l.all (fun p=>(bc env p.2).sto)=true) (j:Nat) (p:Nat × Value) (q:Nat × List AV)
  (hp:(l.map fun p=>(p.1,ev ρ p.2))[j]?=some p) (hq:(l.map fun p=>(p.1,(bc env p.2).cs))[j]?=some q):RepL I q.2 p.2.cells.toList:=by
 rw[List.getElem?_map] at hp hq
 cases hl:l[j]? with
 |none=>rw[hl] at hp;cases hp
 |some o=>
  rw[hl] at hp hq
  cases hp;cases hq
  exact AV.cs_rep (h1.ev o.2) (List.all_eq_true.1 hs _ (List.mem_of_getElem? hl))
theorem Gv.build {places:Array (Nat × Nat)} {zs rs:List AV} {l:List (Nat × Operand)} {cps:List (Nat × List AV)} (hpl:em P t places zs) (hs:l.all (fun p=>(bc env p.2).sto)=true) (hv:l.map (fun p=>(p.1,(bc env p.2).cs))=cps)
  (hf:ld (places[·]?) zs cps=some rs):Gv P env O (Oper.mk (some d) (.build t l.toArray) ty pos af none) (.agg rs):=Gv.ofEv fun I ρ h=>by
 obtain ⟨fs,zv,ht,hz,hp,hc⟩:=hpl
 obtain ⟨vc,h1,h2⟩:=nG (I:=I) (place:=(places[·]?)) (l.map fun p=>(p.1,ev ρ p.2)) cps zs zv.cells rs (by subst hv;simp) (fun j p q hj hq=>oy h l hs j p q hj (hv▸hq)) (hc▸eQ I _) hf
 refine ⟨.agg vc,⟨vc.toList,by simp,h2⟩,fun w=>?_⟩
 have hrun:(Instr.build t (l.map fun p=>(p.1,ev ρ p.2)).toArray).run P w=.ok (.agg vc) w:=by
  unfold Instr.build
  simp only[Sem.run_bind,hz,Result.andThen_ok,run_underlying ht]
  rw[hp]
  simp only[Result.andThen_ok,h1]
  rfl
 simp only[execOp,List.map_toArray]
 rw[Sem.run_bind,hrun];rfl
theorem Gv.buildA {k:Nat} {zs rs:List AV} {l:List (Nat × Operand)} {cps:List (Nat × List AV)} (hpl:kE P t k zs) (hs:l.all (fun p=>(bc env p.2).sto)=true) (hv:l.map (fun p=>(p.1,(bc env p.2).cs))=cps)
  (hf:ld (fun i=>some (i*k,k)) zs cps=some rs):Gv P env O (Oper.mk (some d) (.build t l.toArray) ty pos af none) (.agg rs):=Gv.ofEv fun I ρ h=>by
 obtain ⟨n,e,zv,ht,hz,hp,hc⟩:=hpl
 obtain ⟨vc,h1,h2⟩:=nG (I:=I) (place:=fun i=>some (i*k,k)) (l.map fun p=>(p.1,ev ρ p.2)) cps zs zv.cells rs (by subst hv;simp) (fun j p q hj hq=>oy h l hs j p q hj (hv▸hq)) (hc▸eQ I _) hf
 refine ⟨.agg vc,⟨vc.toList,by simp,h2⟩,fun w=>?_⟩
 have hrun:(Instr.build t (l.map fun p=>(p.1,ev ρ p.2)).toArray).run P w=.ok (.agg vc) w:=by
  unfold Instr.build
  simp only[Sem.run_bind,hz,Result.andThen_ok,run_underlying ht,hp,h1]
  rfl
 simp only[execOp,List.map_toArray]
 rw[Sem.run_bind,hrun];rfl
def dn (P:Program) (t e:TypeId) (n k:Nat) (zs:List AV):Prop:=
 ∃zv,P.underlying t=some (.slice e)∧(∀w,(sizeOf e).run P w=.ok k w)∧(∀w,(zeroValue e).run P w=.ok zv w)∧0<n*k∧n*k≤2 ^ 24∧((Array.range (n*k)).map (zv.cells[·% zv.cells.size]!)).toList.map lit=zs
theorem lf {n k:Nat} {zs rs:List AV} {l:List (Nat × Operand)} {cps:List (Nat × List AV)} (hpl:dn P t e n k zs) (hs:l.all (fun p=>(bc env p.2).sto)=true) (hv:l.map (fun p=>(p.1,(bc env p.2).cs))=cps)
  (hf:ld (fun i=>some (i*k,k)) zs cps=some rs) {I:G} {ρ:dX} (h:eW I env ρ):∃vc:List Value,RepL I rs vc∧∀w,(execOp (ev ρ) (Oper.mk (some d) (.buildSlice t n l.toArray) ty pos af none)).run P w=.ok (.value (.slice (some ⟨w.heap.size,0,none⟩) n n)) (w.alloc (.cells vc.toArray e)):=by
 obtain ⟨zv,ht,hsz,hz,h0,h24,hc⟩:=hpl
 obtain ⟨vc,h1,h2⟩:=nG (I:=I) (place:=fun i=>some (i*k,k)) (l.map fun p=>(p.1,ev ρ p.2)) cps zs ((Array.range (n*k)).map (zv.cells[·% zv.cells.size]!)) rs (by subst hv;simp) (fun j p q hj hq=>oy h l hs j p q hj (hv▸hq)) (hc▸eQ I _) hf
 refine ⟨vc.toList,h2,fun w=>?_⟩
 have hrun:(Instr.buildSlice t n (l.map fun p=>(p.1,ev ρ p.2)).toArray).run P w=.ok (.slice (some ⟨w.heap.size,0,none⟩) n n) (w.alloc (.cells vc e)):=by
  unfold Instr.buildSlice
  simp only[Sem.run_bind,Result.andThen_ok,run_underlying ht,hsz]
  rw[if_neg (by omega)]
  simp only[Sem.run_pure,Result.andThen_ok,if_neg (by omega:¬n*k=0),Sem.run_bind,hz,h1,newRow]
  simp
 simp only[execOp,List.map_toArray]
 rw[Sem.run_bind,hrun];simp
theorem RepR.of_flat {I:G} {k b:Nat} {c:Array Value} {T:TypeId} {f:Nat × Nat} (hb:I.k b=some (.cells c T f)):∀(rows:List (List AV)) (vs:List Value) (j:Nat),(∀r∈rows,r.length=k)→RepL I rows.flatten vs→(∀(i:Nat) u,vs[i]?=some u→c[j*k+i]?=some u)→RepR I k (some ⟨b,0,none⟩) j rows
 |[],_,_,_,_,_=>trivial
 |r::rows,vs,j,hk,h,hc=>by
  have hr:=hk r (by simp)
  have h1:=h.take r.length
  have h2:=h.drop r.length
  simp only[List.flatten_cons,List.take_left,List.drop_left] at h1 h2
  refine ⟨⟨b,0,vs.take r.length,rfl,?_,h1,fun i u hu=>⟨c,T,f,hb,?_⟩⟩,RepR.of_flat hb rows _ (j+1) (fun r hr=>hk r (by simp[hr])) h2 fun i u hu=>?_⟩
  ·rw[h1.length,hr]
  ·rw[List.getElem?_take] at hu
   split at hu
   ·rw[Nat.zero_add];exact hc i u hu
   ·cases hu
  ·rw[List.getElem?_drop,hr] at hu
   have:=hc _ u hu
   rw[Nat.add_mul,Nat.one_mul,Nat.add_assoc];exact this
theorem ay.buildSliceF {n k:Nat} {zs rs:List AV} {rows:List (List AV)} {l:List (Nat × Operand)} {cps:List (Nat × List AV)} (hpl:dn P t e n k zs) (hs:l.all (fun p=>(bc env p.2).sto)=true) (hv:l.map (fun p=>(p.1,(bc env p.2).cs))=cps)
  (hf:ld (fun i=>some (i*k,k)) zs cps=some rs) (hr:rows.flatten=rs) (hk:rows.all (fun r=>Nat.beq r.length k)=true) (hn:rows.length=n) (kk:ay P E ops K rest (bz env d (.fro k rows)) O) :
  ay P E ops K (Oper.mk (some d) (.buildSlice t n l.toArray) ty pos af none::rest) env O:=fun I F ρ w h1 h2=>by
 obtain ⟨htop,L,hL,hS⟩:=h2
 obtain ⟨vc,hrep,hrun⟩:=lf (d:=d) (ty:=ty) (pos:=pos) (af:=af) hpl hs hv hf h1
 refine bY.step rfl ?_
 unfold lG
 rw[hrun w]
 obtain ⟨hl,hS'⟩:=hS.alloc_pers (.cells vc.toArray e)
 let J:G:=⟨I.k.put w.heap.size (.cells vc.toArray e),I.h⟩
 have hle:I.le J:=⟨hl,fun _ _ h=>h⟩
 have hb:J.k w.heap.size=some (.cells vc.toArray e):=bK.put_same _ _ _
 refine qa (fun _ _=>qb hle) _ _ _ (kk J F _ _ ((h1.mono hle).upd d ⟨_,n,n,rfl,hn.symm,Nat.le_refl _,fun h=>by (cases h),?_⟩) ⟨htop,L,hL.mono hle,hS'⟩)
 exact RepR.of_flat hb rows vc 0 (fun r h=>Nat.eq_of_beq_eq_true (List.all_eq_true.1 hk r h)) (hr▸RepL.mono hle _ _ hrep) (fun i u hu=>by simpa using hu)
theorem ay.buildSliceO {n k:Nat} {zs rs:List AV} {l:List (Nat × Operand)} {cps:List (Nat × List AV)} (hpl:dn P t e n k zs) (hs:l.all (fun p=>(bc env p.2).sto)=true) (hv:l.map (fun p=>(p.1,(bc env p.2).cs))=cps)
  (hf:ld (fun i=>some (i*k,k)) zs cps=some rs) (hk:rs.length=n*k) (hc1:rs.all AV.cell=true) (kk:∀i,ay P E ops K rest (bz env d (.own i n)) ((i,.grow k e rs)::O)) :
  ay P E ops K (Oper.mk (some d) (.buildSlice t n l.toArray) ty pos af none::rest) env O:=fun I F ρ w h1 h2=>by
 obtain ⟨L,hL,hS⟩:=h2.2
 obtain ⟨vc,hrep,hrun⟩:=lf (d:=d) (ty:=ty) (pos:=pos) (af:=af) hpl hs hv hf h1
 refine bY.step rfl ?_
 unfold lG
 rw[hrun w]
 obtain ⟨i,hi⟩:=h2.name
 obtain ⟨J,e1,hle,e2,htop⟩:=hi (some w.heap.size,n)
 have hS':=hS.alloc (.cells vc.toArray e)
 refine qa (fun _ _=>qb hle) _ _ _ (kk i J F _ _ ((h1.mono hle).upd d ⟨_,n,e2,rfl⟩) ⟨htop,_,⟨[(w.heap.size,.cells vc.toArray e (0,0))],L,rfl,⟨_,n,n,vc,e2,RepL.mono hle _ _ hrep,hrep.cell1 hc1,fe.made (by rw[hrep.length,hk])⟩,hL.mono hle⟩,by rw[e1];exact hS'⟩)
theorem ay.buildSlice0 {i:TypeInfo} {k:Nat} (ht:P.underlying t=some (.slice e)) (hi:P.info? e=some i) (kk:∀j,ay P E ops K rest (bz env d (.own j 0)) ((j,.grow k e [])::O)) :
  ay P E ops K (Oper.mk (some d) (.buildSlice t 0 #[]) ty pos af none::rest) env O:=fun I F ρ w h1 h2=>by
 obtain ⟨L,hL,hS⟩:=h2.2
 obtain ⟨j,hj⟩:=h2.name
 refine bY.buildSlice0 ht hi hS fun b w' hS'=>?_
 obtain ⟨J,e1,hle,e2,htop⟩:=hj (some b,0)
 refine qa (fun _ _=>qb hle) _ _ _ (kk j J F _ _ ((h1.mono hle).upd d ⟨_,0,e2,rfl⟩) ⟨htop,_,⟨[(b,.cells [].toArray e (0,0))],L,rfl,⟨some b,0,0,[],e2,rfl,(by simp),fe.made (n:=0) (by simp)⟩,hL.mono hle⟩,by rw[e1];exact hS'⟩)
theorem ay.make1 {i:TypeInfo} {zv z1:Value} {m:Nat} {k1 k2:IntKind} {l l':Int} (ht:P.underlying t=some (.slice e)) (hi:P.info? e=some i) (hz:i.zero=some zv) (hzc:zv.cells=#[z1]) (hk:i.size=1) (hx:bc env x=.int k1 l) (hy:bc env y=.int k2 l')
  (hl:l=(m:Int)) (hl':l'=(m:Int)) (hb:(i.bytes:Int)*(m:Int)≤281474976710656) (hm:m≤281474976710656) (hz1:z1.oneCell'=true) (kk:∀j,ay P E ops K rest (bz env d (.own j m)) ((j,.grow 1 e (List.replicate m (lit z1)))::O)) :
  ay P E ops K (Oper.mk (some d) (.makeSlice t x y) ty pos af none::rest) env O:=fun I F ρ w h1 h2=>by
 obtain ⟨L,hL,hS⟩:=h2.2
 obtain ⟨j,hj⟩:=h2.name
 refine bY.make1 ht hi hz hzc hk (gr h1 hx) (gr h1 hy) hl hl' hb hm hS fun b w' hS'=>?_
 obtain ⟨J,e1,hle,e2,htop⟩:=hj (some b,m)
 have hrep:RepL J (List.replicate m (lit z1)) (List.replicate m z1):=by
  have:=eQ J (List.replicate m z1)
  rwa [List.map_replicate] at this
 refine qa (fun _ _=>qb hle) _ _ _ (kk j J F _ _ ((h1.mono hle).upd d ⟨_,m,e2,rfl⟩) ⟨htop,_,⟨[(b,.cells (List.replicate m z1).toArray e (0,0))],L,rfl,⟨some b,m,m,_,e2,hrep,(fun u hu=>by rw[List.eq_of_mem_replicate hu];exact hz1),fe.made (by simp)⟩,hL.mono hle⟩,by rw[e1];exact hS'⟩)
end
end
section
theorem RepR.flat {I:G} {k:Nat} {a:Option Addr}:∀{rows:List (List AV)} {j:Nat},RepR I k a j rows→rows≠[]→∃b off vs,a=some ⟨b,off,none⟩∧RepL I rows.flatten vs∧vs.length=rows.length*k∧∀(i:Nat) u,vs[i]?=some u→Ef I.k b (off+j*k+i) u
 |[],_,_,h=>absurd rfl h
 |[r],j,⟨⟨b,off,vs,e,h1,h2,h3⟩,_⟩,_=>⟨b,off,vs,e,by simpa using h2,by simpa using h1,h3⟩
 |r::r'::rows,j,⟨⟨b,off,vs,e,h1,h2,h3⟩,h4⟩,_=>by
  obtain ⟨b',off',us,e',h5,h6,h7⟩:=RepR.flat h4 (by simp)
  subst e
  cases e'
  refine ⟨b,off,vs++us,rfl,by simpa using h2.append h5,by simp only[List.length_append,h1,h6,List.length_cons,Nat.add_mul];omega,fun i u hu=>?_⟩
  by_cases hi:i<vs.length
  ·rw[List.getElem?_append_left hi] at hu;exact h3 i u hu
  ·rw[List.getElem?_append_right (by omega)] at hu
   have:=h7 _ u hu
   have e:off+(j+1)*k+(i - vs.length)=off+j*k+i:=by rw[Nat.add_mul,h1];omega
   rwa [e] at this
theorem Hc {I:G} {k:Nat} {rows:List (List AV)} {v:Value} (h:cC I (.fro k rows) v) (hc:rows.flatten.all AV.cell=true):∃a n c vs,v=.slice a n c∧n=rows.length∧RepL I rows.flatten vs∧(∀u∈vs,u.oneCell'=true)∧∀O,KR I.k O k a n vs:=by
 obtain ⟨a,n,c,e,hn,hnc,hnil,hr⟩:=h
 cases rows with
 |nil=>
  refine ⟨a,n,c,[],e,hn,rfl,by simp,fun O=>⟨by simp[hn],by simp,?_⟩⟩
  cases a with
  |none=>exact .inl ⟨rfl,hn⟩
  |some p=>exact .inr ⟨p,rfl,by simp⟩
 |cons r rows=>
  obtain ⟨b,off,vs,e',h1,h2,h3⟩:=hr.flat (by simp)
  refine ⟨a,n,c,vs,e,hn,h1,h1.cell1 hc,fun O=>⟨by rw[h2,hn],h1.cell1 hc,.inr ⟨_,e',fun j u hj=>⟨b,off,rfl,?_⟩⟩⟩⟩
  have:=h3 j u hj
  rw[Nat.zero_mul,Nat.add_zero] at this
  exact .inl this
section
variable {E:World} {P:Program} {ops:Array Oper} {K:aT→OL→Prop} {env:aT} {O O':OL} {rest:List Oper}
variable {d ty:Nat} {pos:String} {af:Array Edge} {x y z:Operand} {t u e:TypeId}
theorem iB.split {I:G} {O1 O2:OL} {F:List (Nat × Obj)} {E w:World} (hO:O.Perm (O1++O2)) (h:iB I O F E w):∃L2,cD I O2 L2∧iB I O1 (L2++F) E w:=by
 obtain ⟨ht,L,hL,hS⟩:=h
 obtain ⟨L',h1,h2⟩:=hL.perm hO
 obtain ⟨A,B,rfl,h3,h4⟩:=cD.append.1 h1
 exact ⟨B,h4,ht,A,h3,hS.perm (by rw[←List.append_assoc];exact (h2.append_right F).symm)⟩
theorem iB.join {I J:G} {O1 O2:OL} {L2 F:List (Nat × Obj)} {E w:World} (hle:I.le J) (h2:cD I O2 L2) (h:iB J O1 (L2++F) E w):iB J (O1++O2) F E w:=by
 obtain ⟨ht,L,hL,hS⟩:=h
 exact ⟨ht,L++L2,cD.append.2 ⟨L,L2,rfl,hL,h2.mono hle⟩,by rw[List.append_assoc];exact hS⟩
theorem iB.drops {I:G} {O1:OL} {L2 F:List (Nat × Obj)} {E w:World} (h:iB I O1 (L2++F) E w):SL I.k (L2++F) E w:=by
 obtain ⟨ht,L,hL,hS⟩:=h
 exact hS.dropAll
theorem ay.callA {f:FuncId} {args:List Operand} {tys:Array TypeId} {as0:List AV} {O1 O2:OL} {R:AV→OL→Prop} (ha:args.map (bc env)=as0) (hO:O.Perm (O1++O2)) (hc:bn P E f as0 O1 R)
  (k:∀r O1',R r O1'→ay P E ops K rest (bz env d r) (O1'++O2)):ay P E ops K (Oper.mk (some d) (.call { callee:=.value (.func f),args:=args.toArray,argTypes:=tys }) ty pos af none::rest) env O:=fun I F ρ w h1 h2=>by
 obtain ⟨L2,hL2,h3⟩:=h2.split hO
 refine bY.callF (hc I (L2++F) w (args.map (ev ρ)) (ha▸h1.evs args) h3) ?_
 rintro v w' ⟨J,r,O1',hle,hr,hS,hR⟩
 exact qa (fun _ _=>qb hle) _ _ _ (k r O1' hR J F _ _ ((h1.mono hle).upd d hr) (hS.join hle hL2))
theorem ay.callP {f:FuncId} {args:List Operand} {tys:Array TypeId} {as0:List AV} {r:AV} (hc:aP P E f as0 r) (ha:args.map (bc env)=as0)
  (k:ay P E ops K rest (bz env d r) O):ay P E ops K (Oper.mk (some d) (.call { callee:=.value (.func f),args:=args.toArray,argTypes:=tys }) ty pos af none::rest) env O:=fun I F ρ w h1 h2=>by
 obtain ⟨L2,hL2,h3⟩:=h2.split (O1:=[]) (O2:=O) (.refl _)
 refine bY.callF (hc I (L2++F) w (args.map (ev ρ)) (ha▸h1.evs args) h3) ?_
 rintro v w' ⟨J,r',O1',hle,hr,hS,rfl⟩
 exact qa (fun _ _=>qb hle) _ _ _ (k J F _ _ ((h1.mono hle).upd d hr) ⟨hS.1,L2,hL2.mono hle,hS.drops⟩)
theorem ay.callVP {f:FuncId} {args:List Operand} {tys:Array TypeId} {a c as0:List AV} {r:AV} (hx:bc env x=.fn f a c) (hc:aP P E f as0 r) (ha:a++args.map (bc env)++c=as0)
  (k:ay P E ops K rest (bz env d r) O):ay P E ops K (Oper.mk (some d) (.call { callee:=.value x,args:=args.toArray,argTypes:=tys }) ty pos af none::rest) env O:=fun I F ρ w h1 h2=>by
 obtain ⟨L2,hL2,h3⟩:=h2.split (O1:=[]) (O2:=O) (.refl _)
 have h4:=h1.ev x
 rw[hx] at h4
 obtain ⟨vs,us,e,h5,h6⟩:=h4
 refine bY.callV e (hc I (L2++F) w (vs++args.map (ev ρ)++us) (ha▸(h5.append (h1.evs args)).append h6) h3) ?_
 rintro v w' ⟨J,r',O1',hle,hr,hS,rfl⟩
 exact qa (fun _ _=>qb hle) _ _ _ (k J F _ _ ((h1.mono hle).upd d hr) ⟨hS.1,L2,hL2.mono hle,hS.drops⟩)
theorem Gv.func {f:FuncId} {l m:List Operand} {a c:List AV} (hl:l.map (bc env)=a) (hm:m.map (bc env)=c):Gv P env O (Oper.mk (some d) (.makeFunc (.func f) l.toArray m.toArray) ty pos af none) (.fn f a c):=Gv.ofEv fun I ρ h=>
 ⟨.func (.func f) (l.map (ev ρ)).toArray (m.map (ev ρ)).toArray,⟨_,_,rfl,hl▸h.evs l,hm▸h.evs m⟩,fun w=>by simp[execOp,Instr.makeFunc]⟩
def aR (E:World) (env:aT) (O:OL) (env':aT) (O':OL):Prop:=∀I F ρ w,eW I env ρ→iB I O F E w→∃J,I.le J∧eW J env' ρ∧iB J O' F E w
end
section
variable {E:World} {P:Program} {n:Nat} {os:Array Oper} {env env':aT} {O O':OL}
theorem aR.wp {c:Code} {Q:Exit→aT→OL→Prop} (g:aR E env O env' O') (h:dV P E n c Q env' O'):dV P E n c Q env O:=fun I F ρ w h1 h2=>by
 obtain ⟨J,hle,h3,h4⟩:=g I F ρ w h1 h2
 exact (h J F ρ w h3 h4).mono fun _ _ _=>mN.up hle
theorem aR.ops {K:aT→OL→Prop} {l:List Oper} (g:aR E env O env' O') (h:ay P E os K l env' O'):ay P E os K l env O:=fun I F ρ w h1 h2=>by
 obtain ⟨J,hle,h3,h4⟩:=g I F ρ w h1 h2
 exact qa (fun _ _=>qb hle) _ _ _ (h J F ρ w h3 h4)
theorem aR.fin {rs:Array ResultVar} {R:AV→OL→Prop} (g:aR E env O env' O') (h:ga P E rs R .ret env' O'):ga P E rs R .ret env O:=fun I F ρ w h1 h2=>by
 obtain ⟨J,hle,h3,h4⟩:=g I F ρ w h1 h2
 obtain ⟨v,h5,K,x,O'',h6,h7⟩:=h J F ρ w h3 h4
 exact ⟨v,h5,K,x,O'',hle.trans h6,h7⟩
theorem aR.perm (h:O.Perm O'):aR E env O env O':=fun I F ρ w h1 h2=>by
 obtain ⟨L2,hL2,h3⟩:=h2.split (O1:=O') (O2:=[]) (by simpa using h)
 have:L2=[]:=hL2
 subst this
 exact ⟨I,.refl _,h1,h3⟩
theorem aR.drop {i:Nat} {o:bC} (h:dH O i o O'):aR E env O env O':=fun I F ρ w h1 h2=>by
 obtain ⟨ht,L,hL,hS⟩:=h2
 obtain ⟨A,B,hp,_,hB⟩:=h.rep hL
 exact ⟨I,.refl _,h1,ht,B,hB,(hS.perm (by rw[←List.append_assoc];exact (hp.append_right F).symm):SL I.k (A++(B++F)) E w).dropAll⟩
theorem aR.slot {t:Nat} {x y:AV} (hv:env t=x) (hi:∀I v,cC I x v→cC I y v):aR E env O (bz env t y) O:=fun I F ρ w h1 h2=>by
 refine ⟨I,.refl _,fun s=>?_,h2⟩
 unfold bz
 cases hb:Nat.beq s t with
 |false=>exact h1 s
 |true=>
  have:s=t:=Nat.eq_of_beq_eq_true hb
  subst this
  exact hi I _ (hv▸h1 s)
end
section
variable {E:World} {P:Program} {n:Nat} {ops:Array Oper} {env:aT} {O O':OL}
theorem gc {c:Code} {Q:Exit→aT→OL→Prop} {t k:Nat} {T:TypeId} (hv:env t=.n) (h:∀i,dV P E n c Q (bz env t (.own i 0)) ((i,.grow k T [])::O)):dV P E n c Q env O:=fun I F ρ w h1 h2=>by
 obtain ⟨i,hi⟩:=h2.name
 obtain ⟨J,e1,hle,e2,htop⟩:=hi (none,0)
 obtain ⟨_,L,hL,hS⟩:=h2
 have h3:ρ t=.slice none 0 0:=by have:=h1 t;rw[hv] at this;exact this
 refine (h i J F ρ w (fun s=>?_) ⟨htop,_,⟨[],L,rfl,⟨none,0,0,[],e2,rfl,by simp,fe.nil k T⟩,hL.mono hle⟩,by rw[e1];exact hS⟩).mono fun _ _ _=>mN.up hle
 unfold bz
 cases hb:Nat.beq s t with
 |false=>exact cC.mono hle _ _ (h1 s)
 |true=>
  have:s=t:=Nat.eq_of_beq_eq_true hb
  subst this
  exact ⟨none,0,e2,h3⟩
theorem know {I:G} {F:List (Nat × Obj)} {E w:World} {i k m:Nat} {T:TypeId} {rows:List (List AV)} (hO:dH O i (.grow k T rows.flatten) O') (hk:∀r∈rows,r.length=k) (hk0:0<k) (hm:rows.length=m) (h:iB I O F E w) :
  ∃J,I.le J∧iB J O' F E w∧∀v,cC I (.own i m) v→cC J (.fro k rows) v:=by
 obtain ⟨ht,L,hL,hS⟩:=h
 obtain ⟨A,B,hp,⟨b,c,n,vs,e1,hvs,hvc,hown⟩,hB⟩:=hO.rep hL
 simp only at e1
 have hS2:SL I.k (A++(B++F)) E w:=hS.perm (by rw[←List.append_assoc];exact (hp.append_right F).symm)
 have hflat:rows.flatten.length=rows.length*k:=by
  clear hO hvs hm
  induction rows with
  |nil=>simp
  |cons r rows ih=>simp only[List.flatten_cons,List.length_append,List.length_cons,ih (fun r h=>hk r (by simp[h])),hk r (by simp),Nat.add_mul];omega
 have hnm:n=m:=by
  have h5:=hown.1
  have h6:=hvs.length
  have:n*k=m*k:=by rw[←hm];omega
  exact Nat.eq_of_mul_eq_mul_right hk0 this
 subst hnm
 obtain ⟨h5,h6,h7⟩:=hown
 rcases h7 with ⟨ea,rfl,rfl⟩|⟨b',junk,ea,rfl,hj⟩
 ·refine ⟨I,.refl _,⟨ht,B,hB,by simpa using hS2⟩,?_⟩
  rintro v ⟨b2,c2,e2,rfl⟩
  rw[e1] at e2
  simp only[Option.some.injEq,Prod.mk.injEq] at e2
  obtain ⟨rfl,rfl⟩:=e2
  have h0:rows=[]:=List.eq_nil_of_length_eq_zero (by omega)
  subst h0
  exact ⟨adr b,n,0,rfl,hm.symm,h6,fun _=>rfl,trivial⟩
 ·cases b with
  |none=>simp[adr] at ea
  |some b=>
   simp[adr] at ea
   subst ea
   obtain ⟨hl,hS3⟩:=SL.freeze (by simpa using hS2:SL I.k ((b,.cells (vs++junk).toArray T (0,0))::(B++F)) E w)
   let J:G:=⟨I.k.put b (.cells (vs++junk).toArray T (0,0)),I.h⟩
   have hle:I.le J:=⟨hl,fun _ _ h=>h⟩
   have hb:J.k b=some (.cells (vs++junk).toArray T (0,0)):=bK.put_same _ _ _
   refine ⟨J,hle,⟨ht,B,hB.mono hle,hS3⟩,?_⟩
   rintro v ⟨b2,c2,e2,rfl⟩
   rw[e1] at e2
   simp only[Option.some.injEq,Prod.mk.injEq] at e2
   obtain ⟨rfl,rfl⟩:=e2
   refine ⟨adr (some b),n,c,rfl,hm.symm,h6,fun h=>by simp[adr] at h,RepR.of_flat hb rows vs 0 hk (RepL.mono hle _ _ hvs) fun i u hu=>?_⟩
   rw[Nat.zero_mul,Nat.zero_add,List.getElem?_toArray,List.getElem?_append_left (List.getElem?_eq_some_iff.1 hu).1]
   exact hu
theorem aR.know {t i k m:Nat} {T:TypeId} {rows:List (List AV)} (hv:env t=.own i m) (hO:dH O i (.grow k T rows.flatten) O') (hk:∀r∈rows,r.length=k) (hk0:0<k) (hm:rows.length=m):aR E env O (bz env t (.fro k rows)) O':=fun I F ρ w h1 h2=>by
 obtain ⟨J,hle,h3,h4⟩:=Go.Proofs.YtbbonnfjealmpaaGreatDoor.know hO hk hk0 hm h2
 refine ⟨J,hle,fun s=>?_,h3⟩
 unfold bz
 cases hb:Nat.beq s t with
 |false=>exact cC.mono hle _ _ (h1 s)
 |true=>
  have:s=t:=Nat.eq_of_beq_eq_true hb
  subst this
  exact h4 _ (hv▸h1 s)
end
end
section
theorem cV.mono {P:Program} {ops:Array Oper} {S0 S0' S S':World→Prop} {W:Nat→Bool} {Q Q':dX→World→Prop} (hS0:∀w,S0 w→S0' w) (hS:∀w,S w→S' w) (hQ:∀ρ w,Q ρ w→Q' ρ w):∀(fuel:Nat) (listed:Array Bool) (ρ:dX) (w:World),
  cV P ops S0 S W Q fuel listed ρ w→cV P ops S0' S' W Q' fuel listed ρ w
 |0,_,_,_,h=>⟨h.1,hQ _ _ h.2⟩
 |fuel+1,_,_,_,h=>⟨fun h0=>hQ _ _ (h.1 h0),fun i hi o ho=>qa (fun _ _ ⟨a,b⟩=>⟨⟨hS0 _ a.1,a.2.imp id (hS _)⟩,cV.mono hS0 hS hQ fuel _ _ _ b⟩) _ _ _ (h.2 i hi o ho)⟩
def eD (J0:bK) (L:List (Nat × Obj)) (E:World) (w:World):Prop:=∃J L',J0.le J∧SL J L' E w∧∀y∈L,y∈L'
def bT (P:Program) (E:World) (l:List Oper) (W:Nat→Bool) (Q:aT→OL→Prop) (fuel:Nat) (listed:Array Bool) (env:aT) (Os Om:OL):Prop:=
 ∀I F ρ w Ls,eW I env ρ→cD I Os Ls→iB I Om (Ls++F) E w→cV P l.toArray (eD I.k [] E) (eD I.k Ls E) W (lc I F E Q) fuel listed ρ w
def pd (P:Program) (E:World) (l:List Oper) (W:Nat→Bool) (Q:aT→OL→Prop) (fuel:Nat) (listed:Array Bool) (env:aT) (O:OL):Prop:=
 ∀I F ρ w,eW I env ρ→iB I O F E w→∀S,cV P l.toArray (eD I.k [] E) S W (lc I F E Q) fuel listed ρ w
theorem iB.here {I:G} {Om:OL} {Ls F:List (Nat × Obj)} {E w:World} (h:iB I Om (Ls++F) E w):eD I.k Ls E w:=by
 obtain ⟨_,L,_,hS⟩:=h
 exact ⟨I.k,_,.refl _,hS,fun y hy=>by simp[hy]⟩
theorem iB.together {I:G} {Os Om:OL} {Ls F:List (Nat × Obj)} {E w:World} (hs:cD I Os Ls) (h:iB I Om (Ls++F) E w):iB I (Os++Om) F E w:=by
 obtain ⟨ht,L,hL,hS⟩:=h
 refine ⟨ht,Ls++L,cD.append.2 ⟨Ls,L,rfl,hs,hL⟩,hS.perm ?_⟩
 rw[←List.append_assoc]
 exact (List.perm_append_comm).append_right F
theorem eD.less {J0:bK} {L:List (Nat × Obj)} {E w:World} (h:eD J0 L E w):eD J0 [] E w:=let ⟨J,L',a,b,_⟩:=h;⟨J,L',a,b,fun _ h=>(by cases h)⟩
section
variable {E:World} {P:Program} {n:Nat} {l:List Oper} {W:Nat→Bool} {Q:aT→OL→Prop} {fuel:Nat} {listed:Array Bool} {env:aT} {O Os Om:OL}
variable {d ty:Nat} {op:Op} {pos:String} {af:Array Edge}
theorem dV.regionDraw (W:Nat→Bool) {Q:Exit→aT→OL→Prop} {id:Nat} (hm:P.follows .mixedOrders=true) (hd:ic n l=true) (hO:O.Perm (Om++Os)) (h:bT P E l W (Q .normal) l.length (Array.replicate l.length false) env Os Om):dV P E n (.region id l.toArray true) Q env O:=fun I F ρ w h1 h2=>by
 obtain ⟨Ls,hLs,h3⟩:=h2.split hO
 refine WP.regionDraw (eD I.k [] E) (eD I.k Ls E) W hm hd fun w' hw=>?_
 subst hw
 refine h I F ρ _ Ls h1 hLs ?_
 obtain ⟨ht,L,hL,hS⟩:=h3
 exact ⟨ht,L,hL,hS.drew⟩
theorem Eo {i:Nat} (hr:Region.ready .any l.toArray listed=[i]) (hW:(W i||!gz W listed)=true):fE W (listed.setIfInBounds i true):=by
 have h1:=(mem_ready.1 (show i∈Region.ready .any l.toArray listed by rw[hr];exact .head _)).1
 have hi:i<listed.size:=by
  rcases Nat.lt_or_ge i listed.size with h|h
  ·exact h
  ·rw[Array.getD_eq_getD_getElem?,Array.getElem?_eq_none h] at h1;cases h1
 rcases Bool.or_eq_true_iff.1 hW with h|h
 ·refine ⟨i,?_,h⟩
  rw[Array.getD_eq_getD_getElem?,Array.getElem?_setIfInBounds,if_pos rfl,if_pos hi];rfl
 ·refine mY ?_
  have h:gz W listed=false:=by simpa using h
  unfold gz at h
  obtain ⟨j,_,hj⟩:=List.all_eq_false.1 h
  simp only[Bool.not_eq_true,Bool.not_eq_false',Bool.and_eq_true] at hj
  exact ⟨j,by simpa using hj⟩
theorem bT.takeK {i:Nat} {x:AV} (hi:l[i]?=some (Oper.mk (some d) op ty pos af none)) (hs:Region.noSelect l.toArray=true) (hf:Region.free .any l.toArray listed i=true)
  (hr:(Region.ready .any l.toArray listed).contains i=true) (hWi:W i=false) (hg:Gv P env [] (Oper.mk (some d) op ty pos af none) x)
  (h:bT P E l W Q fuel (listed.setIfInBounds i true) (bz env d x) Os Om):bT P E l W Q (fuel+1) listed env Os Om:=fun I F ρ w Ls h1 hLs h2=>by
 obtain ⟨v,hv,hrun⟩:=hg I [] E ρ h1 rfl
 exact cV.takeK hi hs hf hr hWi h2.here.less (.inr h2.here) (fun w ⟨J,L',a,b,c⟩=>hrun w J L' a b c) (h I F _ w Ls (h1.upd d hv) hLs h2)
theorem bT.take {i:Nat} {x:AV} (hi:l[i]?=some (Oper.mk (some d) op ty pos af none)) (hs:Region.noSelect l.toArray=true) (hf:Region.free .any l.toArray listed i=true)
  (hr:(Region.ready .any l.toArray listed).contains i=true) (hW:iR l i W=true) (hWi:W i=false) (hcl:gz W listed=true) (hg:Gv P env Os (Oper.mk (some d) op ty pos af none) x)
  (h:bT P E l W Q fuel (listed.setIfInBounds i true) (bz env d x) Os Om):bT P E l W Q (fuel+1) listed env Os Om:=fun I F ρ w Ls h1 hLs h2=>by
 obtain ⟨v,hv,hrun⟩:=hg I Ls E ρ h1 hLs
 exact cV.take hi hs hf hr hW hWi hcl h2.here.less h2.here (fun w ⟨J,L',a,b,c⟩=>hrun w J L' a b c) (h I F _ w Ls (h1.upd d hv) hLs h2)
theorem bT.takeT {i j s:Nat} {b t:Bool} {x:AV} (hi:l[i]?=some (Oper.mk (some d) op ty pos af (some (j,b)))) (hg0:(l[j]?).bind (fun o:Oper=>o.dst)=some s) (hv0:env s=.bool t) (ht:t=b) (hs:Region.noSelect l.toArray=true) (hf:Region.free .any l.toArray listed i=true)
  (hr:(Region.ready .any l.toArray listed).contains i=true) (hW:iR l i W=true) (hWi:W i=false) (hcl:gz W listed=true) (hg:Gv P env Os (Oper.mk (some d) op ty pos af none) x)
  (h:bT P E l W Q fuel (listed.setIfInBounds i true) (bz env d x) Os Om):bT P E l W Q (fuel+1) listed env Os Om:=fun I F ρ w Ls h1 hLs h2=>by
 obtain ⟨v,hv,hrun⟩:=hg I Ls E ρ h1 hLs
 exact cV.takeT hi hg0 (by have:=h1 s;rw[hv0] at this;exact this) ht hs hf hr hW hWi hcl h2.here.less h2.here (fun w ⟨J,L',a,b,c⟩=>hrun w J L' a b c) (h I F _ w Ls (h1.upd d hv) hLs h2)
theorem bT.takeF {i j s:Nat} {b t:Bool} (hi:l[i]?=some (Oper.mk (some d) op ty pos af (some (j,b)))) (hg0:(l[j]?).bind (fun o:Oper=>o.dst)=some s) (hv0:env s=.bool t) (ht:t=!b) (hs:Region.noSelect l.toArray=true) (hf:Region.free .any l.toArray listed i=true)
  (hr:(Region.ready .any l.toArray listed).contains i=true) (hW:iR l i W=true) (hWi:W i=false) (hcl:gz W listed=true)
  (h:bT P E l W Q fuel (listed.setIfInBounds i true) (bz env d (.raw undef)) Os Om):bT P E l W Q (fuel+1) listed env Os Om:=fun I F ρ w Ls h1 hLs h2=>
 cV.takeF hi hg0 (by have:=h1 s;rw[hv0] at this;exact this) ht hs hf hr hW hWi hcl h2.here.less h2.here (h I F _ w Ls (h1.upd d rfl) hLs h2)
theorem bT.one {i:Nat} {o:Oper} (hi:l[i]?=some o) (hr:Region.ready .any l.toArray listed=[i])
  (h:ay P E l.toArray (fun env' Om'=>bT P E l W Q fuel (listed.setIfInBounds i true) env' Os Om') [o] env Om):bT P E l W Q (fuel+1) listed env Os Om:=fun I F ρ w Ls h1 hLs h2=>
 cV.one hi hr (qa (fun ρ' w' ⟨J,env',Om',a,b,c,d⟩=>by
  have hst:eD I.k Ls E w':=by
   obtain ⟨J',L',h3,h4,h5⟩:=c.here
   exact ⟨J',L',a.k.trans h3,h4,h5⟩
  refine ⟨⟨hst.less,.inr hst⟩,cV.mono ?_ ?_ (fun _ _=>qb a) _ _ _ _ (d J F ρ' w' Ls b (hLs.mono a) c)⟩
  ·rintro w ⟨J',L',h3,h4⟩;exact ⟨J',L',a.k.trans h3,h4⟩
  ·rintro w ⟨J',L',h3,h4⟩;exact ⟨J',L',a.k.trans h3,h4⟩) _ _ _ (h I (Ls++F) ρ w h1 h2))
theorem bT.done (hr:Region.ready .any l.toArray listed=[]) (h:Q env (Os++Om)):bT P E l W Q fuel listed env Os Om:=fun I F ρ w Ls h1 hLs h2=>
 cV.done hr ⟨I,env,Os++Om,.refl _,h1,iB.together hLs h2,h⟩
theorem bT.case {t:Bool} {s:Nat} (_:env s=.bool t) (h1:t=true→bT P E l W Q fuel listed env Os Om) (h2:t=false→bT P E l W Q fuel listed env Os Om):bT P E l W Q fuel listed env Os Om:=by
 cases t
 ·exact h2 rfl
 ·exact h1 rfl
theorem bT.writes (h:pd P E l W Q fuel listed env (Os++Om)):bT P E l W Q fuel listed env Os Om:=fun I F ρ w Ls h1 hLs h2=>h I F ρ w h1 (iB.together hLs h2) _
theorem pd.one {i:Nat} {o:Oper} (hi:l[i]?=some o) (hr:Region.ready .any l.toArray listed=[i]) (hW:(W i||!gz W listed)=true)
  (h:ay P E l.toArray (fun env' O'=>pd P E l W Q fuel (listed.setIfInBounds i true) env' O') [o] env O):pd P E l W Q (fuel+1) listed env O:=fun I F ρ w h1 h2 S=>
 cV.one hi hr (qa (fun ρ' w' ⟨J,env',O',a,b,c,d⟩=>⟨⟨(by
  obtain ⟨_,L',_,h4⟩:=c
  exact ⟨J.k,_,a.k,h4,fun _ h=>(by cases h)⟩),.inl (Eo hr hW)⟩,cV.mono (fun _ ⟨J',L',h3,h4⟩=>⟨J',L',a.k.trans h3,h4⟩) (fun _ h=>h) (fun _ _=>qb a) _ _ _ _ (d J F ρ' w' b c S)⟩) _ _ _ (h I F ρ w h1 h2))
theorem pd.done (hr:Region.ready .any l.toArray listed=[]) (h:Q env O):pd P E l W Q fuel listed env O:=fun I F ρ w h1 h2 S=>
 cV.done hr ⟨I,env,O,.refl _,h1,h2,h⟩
end
theorem RepL.same {I J:G} (hle:I.le J):∀{cs:List AV} {vs:List Value},RepL I cs vs→∀{off:Nat} {x y:AV},cs[off]?=some x→(∀v,cC I x v→cC J y v)→RepL J (cs.set off y) vs
 |[],_,_,_,_,_,h,_=>by simp at h
 |c::cs,_,⟨v,us,e,h1,h2⟩,off,x,y,h,hxy=>by
  subst e
  cases off with
  |zero=>simp at h;subst h;exact ⟨v,us,rfl,hxy v h1,RepL.mono hle _ _ h2⟩
  |succ off=>exact ⟨v,us,rfl,cC.mono hle _ _ h1,RepL.same hle h2 (by simpa using h) hxy⟩
section
variable {E:World} {P:Program} {n:Nat} {env:aT} {O O' O'':OL}
theorem fF.same {I J:G} {F:List (Nat × Obj)} {E w:World} {j off:Nat} {T:TypeId} {cs:List AV} {x y:AV} (hle:I.le J) (hk:J.k=I.k∨True) (hp:fF O j (.cells T cs) (.cells T (cs.set off y)) O') (hc:cs[off]?=some x) (hxy:∀v,cC I x v→cC J y v)
  {L:List (Nat × Obj)} (hL:cD I O L):∃L',cD J O' L'∧L.Perm L':=by
 obtain ⟨A,B,hp1,⟨b,c,vs,e1,hvs,hvc,rfl⟩,hback⟩:=hp.rep hL
 obtain ⟨L',h1,h2⟩:=hback hle (A':=[(b,.cells vs.toArray T (0,0))]) ⟨b,c,vs,hle.h _ _ e1,hvs.same hle hc hxy,hvc,rfl⟩
 exact ⟨L',h1,hp1.trans h2.symm⟩
theorem aR.knowC {j off i k m:Nat} {T T':TypeId} {cs:List AV} {rows:List (List AV)} (hO:dH O i (.grow k T rows.flatten) O') (hP:fF O' j (.cells T' cs) (.cells T' (cs.set off (.fro k rows))) O'') (hc:cs[off]?=some (.own i m))
  (hk:∀r∈rows,r.length=k) (hk0:0<k) (hm:rows.length=m):aR E env O env O'':=fun I F ρ w h1 h2=>by
 obtain ⟨J,hle,h3,h4⟩:=Go.Proofs.YtbbonnfjealmpaaGreatDoor.know hO hk hk0 hm h2
 obtain ⟨ht,L,hL,hS⟩:=h3
 obtain ⟨_,L0,hL0,hS0⟩:=h2
 obtain ⟨A,B,hp,⟨b,c,vs,e1,hvs,hvc,rfl⟩,hback⟩:=hP.rep hL
 obtain ⟨A0,B0,hp0,_,hB0⟩:=hO.rep hL0
 obtain ⟨A1,B1,hp1,⟨b1,c1,vs1,e2,hvs1,hvc1,rfl⟩,_⟩:=hP.rep hB0
 have e3:=hle.h _ _ e2
 simp only at e1 e3
 rw[e1] at e3
 simp only[Option.some.injEq,Prod.mk.injEq] at e3
 obtain ⟨rfl,rfl⟩:=e3
 have hS1:SL I.k (A0++(B0++F)) E w:=hS0.perm (by rw[←List.append_assoc];exact (hp0.append_right F).symm)
 have hv1:=hS1.own (b,.cells vs1.toArray T' (0,0)) (by simp;right;left;exact hp1.mem_iff.2 (by simp))
 have hv:=hS.own (b,.cells vs.toArray T' (0,0)) (by simp;left;exact hp.mem_iff.2 (by simp))
 simp only at hv hv1
 rw[hv] at hv1
 simp only[Option.some.injEq,Obj.cells.injEq] at hv1
 have hvv:vs=vs1:=by have:=congrArg Array.toList hv1.1;simpa using this
 subst hvv
 obtain ⟨L',h5,h6⟩:=hback (qo J) (A':=[(b,.cells vs.toArray T' (0,0))]) ⟨b,c,vs,e1,hvs1.same hle hc h4,hvc,rfl⟩
 exact ⟨J,hle,h1.mono hle,ht,L',h5,hS.perm (((h6.trans hp.symm).append_right F))⟩
theorem fW {j off k:Nat} {T T':TypeId} {cs:List AV} {c:Code} {Q:Exit→aT→OL→Prop} {f:Nat→OL} (hP:∀i,fF O j (.cells T' cs) (.cells T' (cs.set off (.own i 0))) (f i)) (hc:cs[off]?=some .n)
  (h:∀i,dV P E n c Q env ((i,.grow k T [])::f i)):dV P E n c Q env O:=fun I F ρ w h1 h2=>by
 obtain ⟨i,hi⟩:=h2.name
 obtain ⟨J,e1,hle,e2,htop⟩:=hi (none,0)
 obtain ⟨_,L,hL,hS⟩:=h2
 obtain ⟨L',h3,h4⟩:=fF.same (F:=F) (E:=E) (w:=w) hle (.inr trivial) (hP i) hc (fun v hv=>⟨none,0,e2,hv⟩) hL
 exact (h i J F ρ w (h1.mono hle) ⟨htop,_,⟨[],L',rfl,⟨none,0,0,[],e2,rfl,by simp,fe.nil k T⟩,h3⟩,by rw[e1];exact hS.perm (h4.symm.append_right F)⟩).mono fun _ _ _=>mN.up hle
end
def AV.plain:AV→Bool
 |.bool _ | .int _ _ | .str _=>true
 |_=>false
theorem AV.plain_rep {I J:G} {x:AV} {v:Value} (hp:x.plain=true) (h:cC I x v):cC J x v:=by
 cases x<;>first|exact h|cases hp
theorem wx {k:Nat} {rows:List (List AV)} (hk:∀r∈rows,r.length=k):rows.flatten.length=rows.length*k:=by
 induction rows with
 |nil=>simp
 |cons r rows ih=>simp only[List.flatten_cons,List.length_append,List.length_cons,ih (fun r h=>hk r (by simp[h])),hk r (by simp),Nat.add_mul];omega
end
section
inductive wy:OL→OL→OL→Prop
 |rest (O):wy O O []
 |l {x O A B}:wy O A B→wy (x::O) (x::A) B
 |r {x O A B}:wy O A B→wy (x::O) A (x::B)
theorem wy.perm {O A B:OL} (h:wy O A B):O.Perm (A++B):=by
 induction h with
 |rest=>simp
 |l _ ih=>exact ih.cons _
 |r _ ih=>exact (ih.cons _).trans List.perm_middle.symm
section
variable {E:World} {P:Program} {n:Nat} {ops:Array Oper} {K:aT→OL→Prop} {env:aT} {O O':OL} {rest:List Oper}
variable {d ty:Nat} {pos:String} {af:Array Edge} {x y z:Operand} {t u e:TypeId}
theorem ay.storeW {i m:Nat} {T:TypeId} {v:AV} {cs l:List AV} (hs:∀w,(sizeOf t).run P w=.ok m w) (hx:bc env x=.po i 0) (hy:bc env y=v) (hv:v.sto=true) (hl:v.cs=l) (hl1:l.all AV.cell=true) (hn:l.length=m)
  (hO:fF O i (.cells T cs) (.cells T l) O') (hb:cs.length=m) (k:ay P E ops K rest env O'):ay P E ops K (Oper.mk none (.store t x y) ty pos af none::rest) env O:=
 ay.storeC (off:=0) hs hx hy hv hl hl1 hn hO (by rw[hb];simp) (by rw[Nat.zero_add,List.drop_eq_nil_of_le (by omega)];simp) k
theorem ay.storeG {i off m k:Nat} {T:TypeId} {v:AV} {cs l new:List AV} (hs:∀w,(sizeOf t).run P w=.ok m w) (hx:bc env x=.po i off) (hy:bc env y=v) (hv:v.sto=true) (hl:v.cs=l) (hl1:l.all AV.cell=true) (hn:l.length=m)
  (hO:fF O i (.grow k T cs) (.grow k T new) O') (hb:off+m≤cs.length) (hm:0<m) (hnew:cs.take off++l++cs.drop (off+m)=new) (kk:ay P E ops K rest env O'):ay P E ops K (Oper.mk none (.store t x y) ty pos af none::rest) env O:=fun I F ρ w h1 h2=>by
 obtain ⟨htop,L,hL,hS⟩:=h2
 have h3:=h1.ev x
 rw[hx] at h3
 obtain ⟨b,c,e1,e⟩:=h3
 have h4:=h1.ev y
 rw[hy] at h4
 have h5:=AV.cs_rep h4 hv
 rw[hl] at h5
 obtain ⟨A,B,hp,⟨b',c',n',vs,e2,h6,h6c,hown⟩,hback⟩:=hO.rep hL
 simp only at e2
 rw[e1] at e2
 simp only[Option.some.injEq,Prod.mk.injEq] at e2
 obtain ⟨rfl,rfl⟩:=e2
 obtain ⟨g1,g2,g3⟩:=hown
 rcases g3 with ⟨g3,_,_⟩|⟨b'',junk,g3,rfl,g4⟩
 ·simp[adr] at g3
 simp[adr] at g3
 subst g3
 have hS2:SL I.k ((b,.cells (vs++junk).toArray T (0,0))::(B++F)) E w:=hS.perm ((hp.append_right F).symm)
 have hlen:=h6.length
 have hrun:=pb (P:=P) (t:=t) (b:=b) (off:=off) (v:=ev ρ y) (vs:=(ev ρ y).cells.toList) (old:=vs++junk) (w:=w) hs (by simp) (by rw[h5.length,hn]) (h5.cell1 hl1) (by rw[List.length_append];omega) (hS2.own _ (.head _))
 have hre:(vs++junk).take off++(ev ρ y).cells.toList++(vs++junk).drop (off+m)=(vs.take off++(ev ρ y).cells.toList++vs.drop (off+m))++junk:=by
  rw[List.take_append_of_le_length (by omega),List.drop_append_of_le_length (by omega)];simp
 rw[hre] at hrun
 refine bY.step rfl ?_
 unfold lG
 have:(execOp (ev ρ) (Oper.mk none (.store t x y) ty pos af none)).run P w=.ok .skip (w.setRow b ((vs.take off++(ev ρ y).cells.toList++vs.drop (off+m))++junk).toArray):=by
  simp only[execOp,e]
  rw[Sem.run_bind,hrun];rfl
 rw[this]
 have hnr:RepL I new (vs.take off++(ev ρ y).cells.toList++vs.drop (off+m)):=hnew▸((h6.take off).append h5).append (h6.drop (off+m))
 have hnl:(vs.take off++(ev ρ y).cells.toList++vs.drop (off+m)).length=vs.length:=by
  have:=h5.length
  simp only[List.length_append,List.length_take,List.length_drop];omega
 obtain ⟨L',h7,h8⟩:=hback (qo I) (A':=[(b,.cells ((vs.take off++(ev ρ y).cells.toList++vs.drop (off+m))++junk).toArray T (0,0))]) ⟨some b,_,n',_,e1,hnr,by
  intro u hu
  simp only[List.mem_append] at hu
  rcases hu with (hu|hu)|hu
  ·exact h6c u (List.mem_of_mem_take hu)
  ·exact h5.cell1 hl1 u hu
  ·exact h6c u (List.mem_of_mem_drop hu),by rw[hnl];exact g1,g2,.inr ⟨b,junk,rfl,rfl,by
   simp only[List.length_append] at g4 ⊢
   simp only[List.length_append] at hnl
   omega⟩⟩
 exact kk I F ρ _ h1 ⟨htop,L',h7,(hS2.turn1).perm (h8.append_right F)⟩
theorem ay.storeG1 {i off k:Nat} {T:TypeId} {v:AV} {cs:List AV} (hs:∀w,(sizeOf t).run P w=.ok 1 w) (hx:bc env x=.po i off) (hy:bc env y=v) (hv:v.sto=true) (hl:v.cs=[v]) (hl1:v.cell=true)
  (hO:fF O i (.grow k T cs) (.grow k T (cs.set off v)) O') (hb:off<cs.length) (kk:ay P E ops K rest env O'):ay P E ops K (Oper.mk none (.store t x y) ty pos af none::rest) env O:=
 ay.storeG hs hx hy hv hl (by simp[hl1]) rfl hO (by omega) (by omega) (by rw[List.set_eq_take_append_cons_drop,if_pos hb];simp) kk
theorem Gv.field1 {fs:Array Field} {f:Field} {i:Nat} {cs:List AV} {v:AV} (ht:P.underlying t=some (.struct fs)) (hf:fs[i]?=some f) (ha:∀w,(isAgg f.type).run P w=.ok false w) (hx:bc env x=.agg cs) (hv:cs[f.offset]?=some v) :
  Gv P env O (Oper.mk (some d) (.field t x i) ty pos af none) v:=Gv.ofEv fun I ρ h=>by
 have h2:=h.ev x
 rw[hx] at h2
 obtain ⟨vs,e,hr⟩:=h2
 obtain ⟨u,hu,hru⟩:=hr.get hv
 exact ⟨u,hru,fun w=>by simp[execOp,e,Instr.field,run_underlying ht,hf,part,ha,hu,asAgg,Result.andThen]⟩
theorem Gv.fieldA {fs:Array Field} {f:Field} {i sz:Nat} {cs l:List AV} (ht:P.underlying t=some (.struct fs)) (hf:fs[i]?=some f) (ha:∀w,(isAgg f.type).run P w=.ok true w) (hs:∀w,(sizeOf f.type).run P w=.ok sz w) (hx:bc env x=.agg cs) (hl:(cs.drop f.offset).take sz=l) :
  Gv P env O (Oper.mk (some d) (.field t x i) ty pos af none) (.agg l):=Gv.ofEv fun I ρ h=>by
 have h2:=h.ev x
 rw[hx] at h2
 obtain ⟨vs,e,hr⟩:=h2
 refine ⟨.agg ((vs.drop f.offset).take sz).toArray,⟨_,rfl,hl▸(hr.drop _).take _⟩,fun w=>?_⟩
 simp[execOp,e,Instr.field,run_underlying ht,hf,part,ha,hs,asAgg,Result.andThen]
theorem Gv.idxAF {n k j:Nat} {i:Int} {cs cs':List AV} (ht:P.underlying t=some (.array n e)) (hs:∀w,(sizeOf e).run P w=.ok k w) (hx:bc env x=.pf cs) (hy:bc env y=.int .i64 i) (hi:i=(j:Int)) (hj:j<n) (hl:cs.drop (j*k)=cs') :
  Gv P env O (Oper.mk (some d) (.indexAddr t x y) ty pos af none) (.pf cs'):=fun I L E ρ h1 _=>by
 have h2:=h1.ev x
 rw[hx] at h2
 obtain ⟨b,off,vs,ex,h3,h5⟩:=h2
 refine ⟨.pointer (some ⟨b,off+j*k,none⟩),⟨b,_,vs.drop (j*k),rfl,hl▸h3.drop _,fun m u hu=>?_⟩,fun w J L' _ _ _=>?_⟩
 ·rw[List.getElem?_drop] at hu
  have:=h5 _ _ hu
  rwa [←Nat.add_assoc] at this
 ·subst hi
  simp[execOp,ex,gr h1 hy,Instr.indexAt,asIntOf,run_underlying ht,hs,hj,dP,Instr.sureAddr]
theorem Gv.idxAO {n k j id off:Nat} {i:Int} (ht:P.underlying t=some (.array n e)) (hs:∀w,(sizeOf e).run P w=.ok k w) (hx:bc env x=.po id off) (hy:bc env y=.int .i64 i) (hi:i=(j:Int)) (hj:j<n) {r:Nat} (hr:off+j*k=r) :
  Gv P env O (Oper.mk (some d) (.indexAddr t x y) ty pos af none) (.po id r):=fun I L E ρ h1 _=>by
 have h2:=h1.ev x
 rw[hx] at h2
 obtain ⟨b,c,e1,ex⟩:=h2
 refine ⟨.pointer (some ⟨b,r,none⟩),⟨b,c,e1,rfl⟩,fun w J L' _ _ _=>?_⟩
 subst hi hr
 simp[execOp,ex,gr h1 hy,Instr.indexAt,asIntOf,run_underlying ht,hs,hj,dP,Instr.sureAddr]
theorem Gv.index1 {n j:Nat} {i:Int} {cs:List AV} {v:AV} (ht:P.underlying t=some (.array n e)) (ha:∀w,(isAgg e).run P w=.ok false w) (hs:∀w,(sizeOf e).run P w=.ok 1 w) (hx:bc env x=.agg cs) (hy:bc env y=.int .i64 i) (hi:i=(j:Int)) (hj:j<n) (hv:cs[j]?=some v) :
  Gv P env O (Oper.mk (some d) (.index t x y) ty pos af none) v:=Gv.ofEv fun I ρ h=>by
 have h2:=h.ev x
 rw[hx] at h2
 obtain ⟨vs,ex,hr⟩:=h2
 obtain ⟨u,hu,hru⟩:=hr.get hv
 refine ⟨u,hru,fun w=>?_⟩
 subst hi
 simp[execOp,ex,gr h hy,Instr.index,asIntOf,run_underlying ht,hj,hs,part,ha,hu,Result.andThen]
theorem Gv.indexA {n j k:Nat} {i:Int} {cs l:List AV} (ht:P.underlying t=some (.array n e)) (ha:∀w,(isAgg e).run P w=.ok true w) (hs:∀w,(sizeOf e).run P w=.ok k w) (hx:bc env x=.agg cs) (hy:bc env y=.int .i64 i) (hi:i=(j:Int)) (hj:j<n) (hl:(cs.drop (j*k)).take k=l) :
  Gv P env O (Oper.mk (some d) (.index t x y) ty pos af none) (.agg l):=Gv.ofEv fun I ρ h=>by
 have h2:=h.ev x
 rw[hx] at h2
 obtain ⟨vs,ex,hr⟩:=h2
 refine ⟨.agg ((vs.drop (j*k)).take k).toArray,⟨_,rfl,hl▸(hr.drop _).take _⟩,fun w=>?_⟩
 subst hi
 simp[execOp,ex,gr h hy,Instr.index,asIntOf,run_underlying ht,hj,hs,part,ha,Result.andThen]
theorem Gv.indexT {j:Nat} {i:Int} {s:ByteArray} {c:UInt8} (ht:P.underlying t=some .string) (hx:bc env x=.str s) (hy:bc env y=.int .i64 i) (hi:i=(j:Int)) (hv:s.data[j]?=some c) :
  Gv P env O (Oper.mk (some d) (.index t x y) ty pos af none) (.int .u8 c.toNat):=Gv.ofEv fun I ρ h=>by
 refine ⟨_,rfl,fun w=>?_⟩
 subst hi
 have hj:s[j]?=some c:=by
  have h1:=(Array.getElem?_eq_some_iff.1 hv)
  obtain ⟨h1,h2⟩:=h1
  show (if h:j<s.size then some s[j] else none)=some c
  rw[dif_pos (show j<s.size from h1)];exact congrArg some h2
 simp[execOp,El h hx,gr h hy,Instr.index,asIntOf,run_underlying ht,hj]
theorem ay.rangeT {s:ByteArray} (ht:P.underlying t=some .string) (hx:bc env x=.str s) (k:∀i,ay P E ops K rest (bz env d (.po i 0)) ((i,.iter s 0)::O)):ay P E ops K (Oper.mk (some d) (.range t x) ty pos af none::rest) env O:=fun I F ρ w h1 h2=>by
 obtain ⟨L,hL,hS⟩:=h2.2
 obtain ⟨i,hi⟩:=h2.name
 refine bY.rangeT ht hS (El h1 hx) fun b w' hS'=>?_
 obtain ⟨J,e1,hle,e2,htop⟩:=hi (some b,0)
 exact qa (fun _ _=>qb hle) _ _ _ (k i J F _ _ ((h1.mono hle).upd d ⟨b,0,e2,rfl⟩) ⟨htop,_,⟨_,L,rfl,⟨b,0,e2,rfl⟩,hL.mono hle⟩,by rw[e1];exact hS'⟩)
theorem ay.nextT {i p:Nat} {s:ByteArray} (hx:bc env x=.po i 0) (hO:fF O i (.iter s p) (.iter s (p+(Utf8.decode s p).2)) O') (hp:p<s.size)
  (k:ay P E ops K rest (bz env d (.tup [.bool true,.int .i64 p,.int .i32 (Utf8.decode s p).1])) O'):ay P E ops K (Oper.mk (some d) (.next x true) ty pos af none::rest) env O:=fun I F ρ w h1 h2=>by
 obtain ⟨ht,L,hL,hS⟩:=h2
 have h3:=h1.ev x
 rw[hx] at h3
 obtain ⟨b,c,e1,e⟩:=h3
 obtain ⟨A,B,hp1,⟨b',c',e2,rfl⟩,hback⟩:=hO.rep hL
 simp only at e2
 rw[e1] at e2
 simp only[Option.some.injEq,Prod.mk.injEq] at e2
 obtain ⟨rfl,rfl⟩:=e2
 have hS2:SL I.k ((b,.stringIter s p)::(B++F)) E w:=hS.perm ((hp1.append_right F).symm)
 refine bY.nextT hS2 e hp fun w' hS'=>?_
 obtain ⟨L',h7,h8⟩:=hback (qo I) (A':=[(b,.stringIter s (p+(Utf8.decode s p).2))]) ⟨b,c,e1,rfl⟩
 exact k I F _ _ (h1.upd d ⟨[.bool true,.int .i64 p,.int .i32 (Utf8.decode s p).1],rfl,⟨_,_,rfl,rfl,⟨_,_,rfl,rfl,⟨_,_,rfl,rfl,rfl⟩⟩⟩⟩) ⟨ht,L',h7,hS'.perm (h8.append_right F)⟩
theorem ay.nextTover {i p:Nat} {s:ByteArray} (hx:bc env x=.po i 0) (hO:dH O i (.iter s p) O') (hp:¬p<s.size)
  (k:ay P E ops K rest (bz env d (.tup [.bool false])) O):ay P E ops K (Oper.mk (some d) (.next x true) ty pos af none::rest) env O:=fun I F ρ w h1 h2=>by
 obtain ⟨ht,L,hL,hS⟩:=id h2
 have h3:=h1.ev x
 rw[hx] at h3
 obtain ⟨b,c,e1,e⟩:=h3
 obtain ⟨A,B,hp1,⟨b',c',e2,rfl⟩,_⟩:=hO.rep hL
 simp only at e2
 rw[e1] at e2
 simp only[Option.some.injEq,Prod.mk.injEq] at e2
 obtain ⟨rfl,rfl⟩:=e2
 have hS2:SL I.k ((b,.stringIter s p)::(B++F)) E w:=hS.perm (by have:=(hp1.append_right F).symm;simpa using this)
 exact bY.nextTover hS2 e hp (k I F _ _ (h1.upd d ⟨[.bool false],rfl,⟨_,_,rfl,rfl,rfl⟩⟩) h2)
theorem ay.nextA {i p:Nat} {s:ByteArray} {c:UInt8} (hx:bc env x=.po i 0) (hc:s.data[p]?=some c) (hc2:c<128) (hO:fF O i (.iter s p) (.iter s (p+1)) O')
  (k:ay P E ops K rest (bz env d (.tup [.bool true,.int .i64 p,.int .i32 (c.toNat:Int)])) O'):ay P E ops K (Oper.mk (some d) (.next x true) ty pos af none::rest) env O:=by
 have hp:p<s.size:=by
  by_cases hp:p<s.data.size
  ·exact hp
  ·rw[Array.getElem?_eq_none (by omega)] at hc;cases hc
 have hd:=uV hc hc2
 exact ay.nextT hx (by rw[hd];exact hO) hp (by rw[hd];exact k)
end
end
section
theorem oz {k:Nat}:∀(xs:List (List AV)) (i:Nat) (pre zs:List AV),(∀x∈xs,x.length=k)→zs.length=xs.length*k→pre.length=i*k →
  ld (fun i=>some (i*k,k)) (pre++zs) ((xs.zipIdx i).map fun p=>(p.2,p.1))=some (pre++xs.flatten)
 |[],i,pre,zs,_,h,_=>by simp at h;subst h;simp[ld]
 |x::xs,i,pre,zs,hk,h,hp=>by
  have hx:=hk x (by simp)
  have e1:Nat.beq x.length k=true:=by rw[hx];exact Nat.beq_refl k
  have e2:Nat.ble (i*k+k) (pre++zs).length=true:=by
   rw[Nat.ble_eq,List.length_append,hp,h,List.length_cons,Nat.add_mul];omega
  simp only[List.zipIdx_cons,List.map_cons,ld,e1,e2,Bool.and_self,cond_true]
  have h1:(pre++zs).take (i*k)=pre:=by rw[←hp];simp
  have h2:(pre++zs).drop (i*k+k)=zs.drop k:=by rw[←hp,List.drop_append];simp
  rw[h1,h2,←List.append_assoc]
  rw[oz xs (i+1) (pre++x) (zs.drop k) (fun y hy=>hk y (by simp[hy])) (by rw[List.length_drop,h,List.length_cons,Nat.add_mul];omega) (by rw[List.length_append,hp,hx,Nat.add_mul];omega)]
  simp
theorem BH {α:Type} {enc:α→List AV} {k:Nat} (hk:∀x,(enc x).length=k):∀(l:List α) (j:Nat) {x:α},l[j]?=some x→((l.flatMap enc).drop (j*k)).take k=enc x
 |[],j,x,h=>by simp at h
 |y::l,0,x,h=>by simp at h;subst h;simp[List.take_append_of_le_length,hk]
 |y::l,j+1,x,h=>by
  simp only[List.getElem?_cons_succ] at h
  rw[←BH hk l j h,List.flatMap_cons,Nat.add_mul,Nat.one_mul,Nat.add_comm,←List.drop_drop]
  congr 2
  rw[←hk y];simp
section
variable {E:World} {P:Program} {env:aT} {O:OL} {d ty:Nat} {pos:String} {af:Array Edge} {t:TypeId}
theorem Gv.buildAF {k:Nat} {zs:List AV} {xs:List (List AV)} {l:List (Nat × Operand)} (hpl:kE P t k zs) (hs:l.all (fun p=>(bc env p.2).sto)=true) (hv:l.map (fun p=>(p.1,(bc env p.2).cs))=(xs.zipIdx 0).map fun p=>(p.2,p.1))
  (hk:xs.all (fun x=>Nat.beq x.length k)=true) (hz:zs.length=xs.length*k):Gv P env O (Oper.mk (some d) (.build t l.toArray) ty pos af none) (.agg xs.flatten):=
 Gv.buildA hpl hs hv (by
  have:=oz xs 0 [] zs (fun x hx=>Nat.eq_of_beq_eq_true (List.all_eq_true.1 hk x hx)) hz (by simp)
  simpa using this)
end
inductive p5:OL→Nat→bC→Nat→bC→OL→Prop
 |head {i o j o' O}:p5 ((i,o)::O) i o j o' ((j,o')::O)
 |tail {x O i o j o' O'}:p5 O i o j o' O'→p5 (x::O) i o j o' (x::O')
theorem p5.rep {I:G} {O O':OL} {i j:Nat} {o o':bC} (h:p5 O i o j o' O'):∀{L},cD I O L→∃A B,L.Perm (A++B)∧qM I (i,o) A ∧
  ∀{J:G} {A'},I.le J→qM J (j,o') A'→∃L',cD J O' L'∧L'.Perm (A'++B):=by
 induction h with
 |head=>rintro L ⟨A,B,e,h1,h2⟩;exact ⟨A,B,e▸.refl _,h1,fun {J A'} hl h=>⟨A'++B,⟨A',B,rfl,h,h2.mono hl⟩,.refl _⟩⟩
 |tail h ih=>
  rintro L ⟨A,B,e,h1,h2⟩
  obtain ⟨C,D,hp,h3,h4⟩:=ih h2
  refine ⟨C,A++D,?_,h3,fun {J A'} hl h=>?_⟩
  ·subst e
   refine (hp.append_left A).trans ?_
   rw[←List.append_assoc,←List.append_assoc]
   exact List.perm_append_comm.append_right D
  ·obtain ⟨L',h5,h6⟩:=h4 hl h
   refine ⟨A++L',⟨A,L',rfl,h1.mono hl,h5⟩,?_⟩
   refine (h6.append_left A).trans ?_
   rw[←List.append_assoc,←List.append_assoc]
   exact List.perm_append_comm.append_right D
section
variable {E:World} {P:Program} {ops:Array Oper} {K:aT→OL→Prop} {env:aT} {O O':OL} {rest:List Oper}
variable {d ty:Nat} {pos:String} {af:Array Edge} {x y z:Operand} {t u e:TypeId}
theorem ay.appendS {ti:TypeInfo} {zv:Value} {k n i:Nat} {cs:List AV} {rows:List (List AV)} {f:Nat→OL} (ht:P.underlying t=some (.slice e)) (hi:P.info? e=some ti) (hz:ti.zero=some zv) (hk:ti.size=k) (hzc:zv.cells.size=k)
  (hx:bc env x=.own i n) (hy:bc env y=.fro k rows) (hO:∀j,p5 O i (.grow k e cs) j (.grow k e (cs++rows.flatten)) (f j)) (hn:cs.length=n*k) (hk0:0<k) (hc1:rows.flatten.all AV.cell=true) (hb:(n+rows.length)*ti.bytes≤140737488355328) (hb2:n+rows.length≤140737488355328)
  (kk:∀j,ay P E ops K rest (bz env d (.own j (n+rows.length))) (f j)) :
  ay P E ops K (Oper.mk (some d) (.call { callee:=.builtin .append,args:=#[x,y],argTypes:=#[t,t] }) ty pos af none::rest) env O:=fun I F ρ w h1 h2=>by
 obtain ⟨htop,L,hL,hS⟩:=id h2
 have h3:=h1.ev x
 rw[hx] at h3
 obtain ⟨b,cap,e1,ex⟩:=h3
 have h4:=h1.ev y
 rw[hy] at h4
 obtain ⟨sa,m,sc,vs,ey,hm,hvs,hvc,hsrc⟩:=Hc h4 hc1
 obtain ⟨j,hj⟩:=h2.name
 obtain ⟨A,B,hp,⟨b',cap',n',us,e2,hus,huc,hown⟩,hback⟩:=(hO j).rep hL
 simp only at e2
 rw[e1] at e2
 simp only[Option.some.injEq,Prod.mk.injEq] at e2
 obtain ⟨rfl,rfl⟩:=e2
 have hnn:n'=n:=by
  have h5:=hown.1
  have h6:=hus.length
  have:n'*k=n*k:=by omega
  exact Nat.eq_of_mul_eq_mul_right hk0 this
 subst hnn
 subst hm
 have hS2:SL I.k (A++(B++F)) E w:=hS.perm (by rw[←List.append_assoc];exact (hp.append_right F).symm)
 refine bY.append ht hi hz hk hzc ex ey hS2 hown (hsrc _) hb hb2 fun a' c' A' w' h5 h6 h7=>?_
 have hb':∃b'',a'=adr b'':=by
  rcases h5.2.2 with ⟨e,_⟩|⟨b'',junk,e,_⟩
  ·exact ⟨none,e⟩
  ·exact ⟨some b'',e⟩
 obtain ⟨b'',rfl⟩:=hb'
 obtain ⟨J,ek,hle,e3,htop'⟩:=hj (b'',c')
 obtain ⟨L',h8,h9⟩:=hback hle (A':=A') ⟨b'',c',_,us++vs,e3,RepL.mono hle _ _ (hus.append hvs),(by
  intro u hu
  rcases List.mem_append.1 hu with hu|hu
  ·exact huc u hu
  ·exact hvc u hu),h5⟩
 exact qa (fun _ _=>qb hle) _ _ _ (kk j J F _ _ ((h1.mono hle).upd d ⟨b'',c',e3,rfl⟩) ⟨htop',L',h8,by rw[ek];exact h6.perm (by rw[←List.append_assoc];exact h9.append_right F)⟩)
end
theorem eS {α:Type} {enc:α→List AV} {xs ys:List α} {x:α} (h:ys=xs++[x]):(xs.map enc).flatten++[enc x].flatten=(ys.map enc).flatten:=by subst h;simp
theorem d6 {α:Type} {enc:α→List AV} {k:Nat} (hk:∀x,(enc x).length=k) (xs:List α):(xs.map enc).flatten.length=xs.length*k:=by
 rw[wx (k:=k) (by simp[hk]),List.length_map]
end
section
theorem Jj {I:G} {x v:Value} (h:cC I (lit x) v):v=x:=by cases x<;>exact h
theorem mn {I:G}:∀{xs vs:List Value},RepL I (xs.map lit) vs→vs=xs
 |[],_,h=>h
 |x::xs,_,⟨v,us,e,h1,h2⟩=>by rw[e,Jj h1,mn h2]
section
variable {E:World} {P:Program} {env:aT} {O:OL} {d ty:Nat} {pos:String} {af:Array Edge} {x y:Operand} {t u:TypeId}
theorem Gv.eqlP {xs ys:List Value} {r:Bool} (hg:P.eqGuardType P.depth t=false) (hx:bc env x=.agg (xs.map lit)) (hy:bc env y=.agg (ys.map lit)) (hr:∀w,(Op.equalIn 10000 t (.agg xs.toArray) (.agg ys.toArray)).run P w=.ok r w) :
  Gv P env O (Oper.mk (some d) (.binOp .eql t x y u) ty pos af none) (.bool r):=Gv.ofEv fun I ρ h=>by
 have h1:=h.ev x
 have h2:=h.ev y
 rw[hx] at h1
 rw[hy] at h2
 obtain ⟨vs,e1,hv⟩:=h1
 obtain ⟨us,e2,hu⟩:=h2
 rw[mn hv] at e1
 rw[mn hu] at e2
 exact ⟨_,rfl,fun w=>by simp only[execOp,e1,e2];simp[run_eqGuard_agg w .eql t x y xs.toArray ys.toArray hg,run_eql_struct,hr]⟩
end
theorem KT {α:Type} {xs ys:List α} {k:Nat} (h1:k<xs.length) (h2:k<ys.length) (h:¬xs[k]=ys[k]):¬xs=ys:=fun e=>by subst e;exact h rfl
theorem CF {α:Type} {xs ys:List α} {k:Nat} (h1:k<xs.length) (h2:k<ys.length) (he:xs.take k=ys.take k) (h:xs[k]=ys[k]):xs.take (k+1)=ys.take (k+1):=by
 rw[List.take_succ_eq_append_getElem h1,List.take_succ_eq_append_getElem h2,he,h]
theorem CG {α:Type} {xs ys:List α} {k:Nat} (hl:xs.length=ys.length) (hk:xs.length≤k) (he:xs.take k=ys.take k):xs=ys:=by
 rwa [List.take_of_length_le hk,List.take_of_length_le (by omega)] at he
end
section
section
variable {E:World} {P:Program} {ops:Array Oper} {K:aT→OL→Prop} {env:aT} {O O':OL} {rest:List Oper}
variable {d ty:Nat} {pos:String} {af:Array Edge} {x y:Operand} {t u e:TypeId}
theorem ay.isNil {k:Nat} {rows:List (List AV)} (ht:P.underlying t=some (.slice e)) (hx:bc env x=.fro k rows) (hy:bc env y=.n) (kt:rows=[]→ay P E ops K rest (bz env d (.bool true)) O) (kf:ay P E ops K rest (bz env d (.bool false)) O) :
  ay P E ops K (Oper.mk (some d) (.binOp .eql t x y u) ty pos af none::rest) env O:=fun I F ρ w h1 h2=>by
 have h3:=h1.ev x
 rw[hx] at h3
 obtain ⟨a,n,c,e1,hn,hnc,hnil,_⟩:=h3
 refine bY.eqNilS ht e1 (ik h1 hy) ?_
 cases a with
 |none=>
  have:rows=[]:=List.eq_nil_of_length_eq_zero (by have:=hnil rfl;omega)
  exact kt this I F _ w (h1.upd d rfl) h2
 |some p=>exact kf I F _ w (h1.upd d rfl) h2
theorem CH {rs:Array ResultVar} {R:AV→OL→Prop} {s k:Nat} {T:TypeId} (hv:env s=.n) (h:∀i,ga P E rs R .ret (bz env s (.own i 0)) ((i,.grow k T [])::O)):ga P E rs R .ret env O:=fun I F ρ w h1 h2=>by
 obtain ⟨i,hi⟩:=h2.name
 obtain ⟨J,e1,hle,e2,htop⟩:=hi (none,0)
 obtain ⟨_,L,hL,hS⟩:=h2
 have h3:ρ s=.slice none 0 0:=by have:=h1 s;rw[hv] at this;exact this
 obtain ⟨v,g1,K,x,O',g2,g3⟩:=h i J F ρ w (fun q=>by
  unfold bz
  cases hb:Nat.beq q s with
  |false=>exact cC.mono hle _ _ (h1 q)
  |true=>
   have:q=s:=Nat.eq_of_beq_eq_true hb
   subst this
   exact ⟨none,0,e2,h3⟩) ⟨htop,_,⟨[],L,rfl,⟨none,0,0,[],e2,rfl,by simp,fe.nil k T⟩,hL.mono hle⟩,by rw[e1];exact hS⟩
 exact ⟨v,g1,K,x,O',hle.trans g2,g3⟩
end
end
section
section
variable {E:World} {P:Program} {ops:Array Oper} {K:aT→OL→Prop} {env:aT} {O O':OL} {rest:List Oper}
variable {d ty:Nat} {pos:String} {af:Array Edge} {x y:Operand} {t u e:TypeId}
theorem CI {k:Nat} {zs:List AV} {xs:List (List AV)} (hk:xs.all (fun x=>Nat.beq x.length k)=true) (hz:zs.length=xs.length*k):ld (fun i=>some (i*k,k)) zs ((xs.zipIdx 0).map fun p=>(p.2,p.1))=some xs.flatten:=by
 have:=oz xs 0 [] zs (fun x hx=>Nat.eq_of_beq_eq_true (List.all_eq_true.1 hk x hx)) hz (by simp)
 simpa using this
theorem ay.buildSliceFF {n k:Nat} {zs:List AV} {rows:List (List AV)} {l:List (Nat × Operand)} (hpl:dn P t e n k zs) (hs:l.all (fun p=>(bc env p.2).sto)=true) (hv:l.map (fun p=>(p.1,(bc env p.2).cs))=(rows.zipIdx 0).map fun p=>(p.2,p.1))
  (hk:rows.all (fun r=>Nat.beq r.length k)=true) (hn:rows.length=n) (hz:zs.length=n*k) (kk:ay P E ops K rest (bz env d (.fro k rows)) O) :
  ay P E ops K (Oper.mk (some d) (.buildSlice t n l.toArray) ty pos af none::rest) env O:=
 ay.buildSliceF hpl hs hv (CI hk (by rw[hz,hn])) rfl hk hn kk
end
theorem SL.belowE {I:bK} {O:List (Nat × Obj)} {E w:World} (hS:SL I O E w):Go.RowKit.Below E.heap.size E w:=by
 have key:∀k,k<E.heap.size→w.heap[k]?=E.heap[k]?:=fun k hk=>by
  have h1:E.heap[k]?=some E.heap[k]:=Array.getElem?_eq_getElem hk
  rw[h1]
  exact hS.pers _ _ (hS.base k _ h1)
 refine ⟨hS.os,hS.tape,hS.output,?_,key⟩
 rcases Nat.lt_or_ge w.heap.size E.heap.size with h|h
 ·have:=key w.heap.size h
  rw[Array.getElem?_eq_none (Nat.le_refl _),Array.getElem?_eq_getElem h] at this
  cases this
 ·exact h
theorem aP.ofBelow {E:World} {P:Program} {f:FuncId} {fn:Func} {c:Code} {as0:List AV} {vs:List Value} {r:Value} (hf:P.funcs[f]?=some fn) (hb:fn.body=some c) (hn:fn.name≠"runtime.NumGoroutine") (has:as0=vs.map lit)
  (h:∀w,Go.RowKit.Below E.heap.size E w→Calls P f vs.toArray w fun e w'=>e=.returned r∧Go.RowKit.Below w.heap.size w w'):aP P E f as0 (lit r):=fun I F w us h1 h2=>by
 subst has
 rw[mn h1]
 obtain ⟨ht,L,hL,hS⟩:=h2
 have hL:L=[]:=hL
 subst hL
 refine Fn.ofCalls hf hb hn ?_
 exact (h w hS.belowE).mono fun e w' ⟨he,hw⟩=>⟨_,he,I,lit r,[],.refl _,BG I r,⟨ht,[],rfl,hS.below hw⟩,rfl⟩
section
variable {P:Program} {E:World} {l:List Oper} {W:Nat→Bool} {fuel:Nat} {listed:Array Bool} {d ty:Nat} {op:Op} {pos:String} {af:Array Edge} {Q:aT→OL→Prop} {env:aT} {Os Om:OL}
def uX (l:List Oper) (W:Nat→Bool) (listed:Array Bool) (i:Nat):Bool:=Region.noSelect l.toArray&&(Region.free .any l.toArray listed i&&((Region.ready .any l.toArray listed).contains i&&(iR l i W&&(!W i&&gz W listed))))
theorem uX.of {i:Nat} (h:uX l W listed i=true):Region.noSelect l.toArray=true∧Region.free .any l.toArray listed i=true∧(Region.ready .any l.toArray listed).contains i=true∧iR l i W=true∧W i=false∧gz W listed=true:=by
 simpa only[uX,Bool.and_eq_true,Bool.not_eq_true'] using h
theorem ai (i:Nat) {x:AV} (hi:l[i]?=some (Oper.mk (some d) op ty pos af none)) (hg:Gv P env Os (Oper.mk (some d) op ty pos af none) x)
  (h:bT P E l W Q fuel (listed.setIfInBounds i true) (bz env d x) Os Om) (hb:uX l W listed i=true:=by kernel_rfl):bT P E l W Q (fuel+1) listed env Os Om:=
 have ⟨a,b,c,e,g,k⟩:=uX.of hb
 bT.take hi a b c e g k hg h
theorem ie (i:Nat) {j s:Nat} {b t:Bool} {x:AV} (hi:l[i]?=some (Oper.mk (some d) op ty pos af (some (j,b)))) (hg0:(l[j]?).bind (fun o:Oper=>o.dst)=some s) (hv0:env s=.bool t) (ht:t=b) (hg:Gv P env Os (Oper.mk (some d) op ty pos af none) x)
  (h:bT P E l W Q fuel (listed.setIfInBounds i true) (bz env d x) Os Om) (hb:uX l W listed i=true:=by kernel_rfl):bT P E l W Q (fuel+1) listed env Os Om:=
 have ⟨a,b,c,e,g,k⟩:=uX.of hb
 bT.takeT hi hg0 hv0 ht a b c e g k hg h
theorem fv (i:Nat) {j s:Nat} {b t:Bool} (hi:l[i]?=some (Oper.mk (some d) op ty pos af (some (j,b)))) (hg0:(l[j]?).bind (fun o:Oper=>o.dst)=some s) (hv0:env s=.bool t) (ht:t=!b)
  (h:bT P E l W Q fuel (listed.setIfInBounds i true) (bz env d (.raw undef)) Os Om) (hb:uX l W listed i=true:=by kernel_rfl):bT P E l W Q (fuel+1) listed env Os Om:=
 have ⟨a,b,c,e,g,k⟩:=uX.of hb
 bT.takeF hi hg0 hv0 ht a b c e g k h
theorem aN (i:Nat) {o:Oper} (hi:l[i]?=some o) (h:ay P E l.toArray (fun env' Om'=>bT P E l W Q fuel (listed.setIfInBounds i true) env' Os Om') [o] env Om) (hr:Region.ready .any l.toArray listed=[i]:=by kernel_rfl):bT P E l W Q (fuel+1) listed env Os Om:=bT.one hi hr h
theorem bI (h:Q env (Os++Om)) (hr:Region.ready .any l.toArray listed=[]:=by kernel_rfl):bT P E l W Q fuel listed env Os Om:=bT.done hr h
variable {x y z:Operand} {t:TypeId} {O:OL}
theorem dx {k:IntKind} {a:Int} (hx:bc env x=.int k a):Gv P env O (Oper.mk (some d) (.move x) ty pos af none) (.int k a):=Gv.move hx
theorem zX {a:Bool} (hx:bc env x=.bool a):Gv P env O (Oper.mk (some d) (.move x) ty pos af none) (.bool a):=Gv.move hx
theorem vZ {k:Nat} {a:List (List AV)} (hx:bc env x=.fro k a):Gv P env O (Oper.mk (some d) (.move x) ty pos af none) (.fro k a):=Gv.move hx
theorem BI {k:IntKind} {a:Int} (hx:bc env x=.int k a):Gv P env O (Oper.mk (some d) (.assign x) ty pos af none) (.int k a):=Gv.assign hx
theorem qO {a:Bool} (hx:bc env x=.bool a):Gv P env O (Oper.mk (some d) (.assign x) ty pos af none) (.bool a):=Gv.assign hx
theorem oA {k:Nat} {a:List (List AV)} (hx:bc env x=.fro k a):Gv P env O (Oper.mk (some d) (.assign x) ty pos af none) (.fro k a):=Gv.assign hx
theorem dQ {k:IntKind} {a:Int} {cs:List AV} (ha:∀w,(isAgg t).run P w=.ok false w) (hx:bc env x=.pf (.int k a::cs)):Gv P env O (Oper.mk (some d) (.load t x) ty pos af none) (.int k a):=Gv.load1F ha hx
theorem gd {k:Nat} {a:List (List AV)} {cs:List AV} (ha:∀w,(isAgg t).run P w=.ok false w) (hx:bc env x=.pf (.fro k a::cs)):Gv P env O (Oper.mk (some d) (.load t x) ty pos af none) (.fro k a):=Gv.load1F ha hx
theorem Ep {b v:Bool} (hc:bc env x=.bool b) (hb:b=true) (hy:bc env y=.bool v):Gv P env O (Oper.mk (some d) (.pick x y z) ty pos af none) (.bool v):=Gv.pickT hc hb hy
theorem Eg {b v:Bool} (hc:bc env x=.bool b) (hb:b=false) (hy:bc env z=.bool v):Gv P env O (Oper.mk (some d) (.pick x y z) ty pos af none) (.bool v):=Gv.pickF hc hb hy
theorem Hd {i m:Nat} (hx:bc env x=.own i m):Gv P env O (Oper.mk (some d) (.move x) ty pos af none) (.own i m):=Gv.move hx
theorem dR {i m:Nat} (hx:bc env x=.po i m):Gv P env O (Oper.mk (some d) (.move x) ty pos af none) (.po i m):=Gv.move hx
theorem tv {cs:List AV} (hx:bc env x=.pf cs):Gv P env O (Oper.mk (some d) (.move x) ty pos af none) (.pf cs):=Gv.move hx
theorem uY {cs:List AV} (hx:bc env x=.tup cs):Gv P env O (Oper.mk (some d) (.move x) ty pos af none) (.tup cs):=Gv.move hx
theorem ei {i m:Nat} (hx:bc env x=.own i m):Gv P env O (Oper.mk (some d) (.assign x) ty pos af none) (.own i m):=Gv.assign hx
theorem gu {i m:Nat} (hx:bc env x=.po i m):Gv P env O (Oper.mk (some d) (.assign x) ty pos af none) (.po i m):=Gv.assign hx
theorem MD {a:Value} (hx:bc env x=.raw a):Gv P env O (Oper.mk (some d) (.assign x) ty pos af none) (.raw a):=Gv.assign hx
theorem nC {vs:List AV} {i:Nat} {k:IntKind} {a:Int} (hx:bc env x=.tup vs) (hv:vs[i]?=some (.int k a)):Gv P env O (Oper.mk (some d) (.extract x i) ty pos af none) (.int k a):=Gv.extract hx hv
theorem wz {vs:List AV} {i:Nat} {a:Bool} (hx:bc env x=.tup vs) (hv:vs[i]?=some (.bool a)):Gv P env O (Oper.mk (some d) (.extract x i) ty pos af none) (.bool a):=Gv.extract hx hv
theorem db {fs:Array Field} {f:Field} {i sz:Nat} {cs cs':List AV} (ht:P.underlying t=some (.struct fs)) (hf:fs[i]?=some f) (hs:∀w,(sizeOf f.type).run P w=.ok sz w)
  (hx:bc env x=.pf cs) (hr:cs.drop f.offset=cs') (hz:sz≠0:=by decide):Gv P env O (Oper.mk (some d) (.fieldAddr t x i) ty pos af none) (.pf cs'):=Gv.fieldF ht hf hs hz hx hr
theorem G8 {u:TypeId} {a b:Int} (hx:bc env x=.int .i64 a) (hy:bc env y=.int .i64 b) (hr:lz (a+b):=by unfold lz;omega):Gv P env O (Oper.mk (some d) (.binOp .add t x y u) ty pos af none) (.int .i64 (a+b)):=Gv.add hx hy hr
theorem ae {n id:Nat} {y:Code} {R:Exit→aT→OL→Prop} (h:ay P E l.toArray (qN (dV P E n y R) R .normal) l env O) (hd:ic n l=true:=by exact rfl):dV P E n (.seq (.region id l.toArray false) y) R env O:=zb (dV.region hd h)
theorem aW {n id:Nat} {R:Exit→aT→OL→Prop} (h:ay P E l.toArray (R .normal) l env O) (hd:ic n l=true:=by exact rfl):dV P E n (.region id l.toArray false) R env O:=dV.region hd h
theorem bB {α:Type} {enc:α→List AV} {xs:List α} {k:Nat} {e:TypeId} (j:Nat) {i:Int} {v:α} (ht:P.underlying t=some (.slice e)) (hs:∀w,(sizeOf e).run P w=.ok k w) (hx:bc env x=.fro k (xs.map enc)) (hy:bc env y=.int .i64 i) (hi:i=(j:Int)) (hj:xs[j]?=some v) :
  Gv P env O (Oper.mk (some d) (.indexAddr t x y) ty pos af none) (.pf (enc v)):=Gv.idxM ht hs hx hy hi hj
theorem aE {O:OL}:Left O O:=⟨_,.refl _,rfl⟩
theorem dH.t1 {x0:Nat × bC} {O:OL} {i:Nat} {o:bC}:dH (x0::(i,o)::O) i o (x0::O):=.tail .head
theorem fF.t1 {x0:Nat × bC} {O:OL} {i:Nat} {o o':bC}:fF (x0::(i,o)::O) i o o' (x0::(i,o')::O):=.tail .head
theorem p5.t1 {x0:Nat × bC} {O:OL} {i j:Nat} {o o':bC}:p5 (x0::(i,o)::O) i o j o' (x0::(j,o')::O):=.tail .head
theorem dH.t2 {x0 x1:Nat × bC} {O:OL} {i:Nat} {o:bC}:dH (x0::x1::(i,o)::O) i o (x0::x1::O):=.tail .t1
theorem fF.t2 {x0 x1:Nat × bC} {O:OL} {i:Nat} {o o':bC}:fF (x0::x1::(i,o)::O) i o o' (x0::x1::(i,o')::O):=.tail .t1
theorem p5.t2 {x0 x1:Nat × bC} {O:OL} {i j:Nat} {o o':bC}:p5 (x0::x1::(i,o)::O) i o j o' (x0::x1::(j,o')::O):=.tail .t1
theorem dH.t3 {x0 x1 x2:Nat × bC} {O:OL} {i:Nat} {o:bC}:dH (x0::x1::x2::(i,o)::O) i o (x0::x1::x2::O):=.tail .t2
theorem fF.t3 {x0 x1 x2:Nat × bC} {O:OL} {i:Nat} {o o':bC}:fF (x0::x1::x2::(i,o)::O) i o o' (x0::x1::x2::(i,o')::O):=.tail .t2
theorem p5.t3 {x0 x1 x2:Nat × bC} {O:OL} {i j:Nat} {o o':bC}:p5 (x0::x1::x2::(i,o)::O) i o j o' (x0::x1::x2::(j,o')::O):=.tail .t2
theorem dH.t4 {x0 x1 x2 x3:Nat × bC} {O:OL} {i:Nat} {o:bC}:dH (x0::x1::x2::x3::(i,o)::O) i o (x0::x1::x2::x3::O):=.tail .t3
theorem fF.t4 {x0 x1 x2 x3:Nat × bC} {O:OL} {i:Nat} {o o':bC}:fF (x0::x1::x2::x3::(i,o)::O) i o o' (x0::x1::x2::x3::(i,o')::O):=.tail .t3
theorem p5.t4 {x0 x1 x2 x3:Nat × bC} {O:OL} {i j:Nat} {o o':bC}:p5 (x0::x1::x2::x3::(i,o)::O) i o j o' (x0::x1::x2::x3::(j,o')::O):=.tail .t3
theorem dH.t5 {x0 x1 x2 x3 x4:Nat × bC} {O:OL} {i:Nat} {o:bC}:dH (x0::x1::x2::x3::x4::(i,o)::O) i o (x0::x1::x2::x3::x4::O):=.tail .t4
theorem fF.t5 {x0 x1 x2 x3 x4:Nat × bC} {O:OL} {i:Nat} {o o':bC}:fF (x0::x1::x2::x3::x4::(i,o)::O) i o o' (x0::x1::x2::x3::x4::(i,o')::O):=.tail .t4
theorem p5.t5 {x0 x1 x2 x3 x4:Nat × bC} {O:OL} {i j:Nat} {o o':bC}:p5 (x0::x1::x2::x3::x4::(i,o)::O) i o j o' (x0::x1::x2::x3::x4::(j,o')::O):=.tail .t4
theorem dH.t6 {x0 x1 x2 x3 x4 x5:Nat × bC} {O:OL} {i:Nat} {o:bC}:dH (x0::x1::x2::x3::x4::x5::(i,o)::O) i o (x0::x1::x2::x3::x4::x5::O):=.tail .t5
theorem fF.t6 {x0 x1 x2 x3 x4 x5:Nat × bC} {O:OL} {i:Nat} {o o':bC}:fF (x0::x1::x2::x3::x4::x5::(i,o)::O) i o o' (x0::x1::x2::x3::x4::x5::(i,o')::O):=.tail .t5
theorem p5.t6 {x0 x1 x2 x3 x4 x5:Nat × bC} {O:OL} {i j:Nat} {o o':bC}:p5 (x0::x1::x2::x3::x4::x5::(i,o)::O) i o j o' (x0::x1::x2::x3::x4::x5::(j,o')::O):=.tail .t5
theorem dH.t7 {x0 x1 x2 x3 x4 x5 x6:Nat × bC} {O:OL} {i:Nat} {o:bC}:dH (x0::x1::x2::x3::x4::x5::x6::(i,o)::O) i o (x0::x1::x2::x3::x4::x5::x6::O):=.tail .t6
theorem fF.t7 {x0 x1 x2 x3 x4 x5 x6:Nat × bC} {O:OL} {i:Nat} {o o':bC}:fF (x0::x1::x2::x3::x4::x5::x6::(i,o)::O) i o o' (x0::x1::x2::x3::x4::x5::x6::(i,o')::O):=.tail .t6
theorem p5.t7 {x0 x1 x2 x3 x4 x5 x6:Nat × bC} {O:OL} {i j:Nat} {o o':bC}:p5 (x0::x1::x2::x3::x4::x5::x6::(i,o)::O) i o j o' (x0::x1::x2::x3::x4::x5::x6::(j,o')::O):=.tail .t6
theorem dH.t8 {x0 x1 x2 x3 x4 x5 x6 x7:Nat × bC} {O:OL} {i:Nat} {o:bC}:dH (x0::x1::x2::x3::x4::x5::x6::x7::(i,o)::O) i o (x0::x1::x2::x3::x4::x5::x6::x7::O):=.tail .t7
theorem fF.t8 {x0 x1 x2 x3 x4 x5 x6 x7:Nat × bC} {O:OL} {i:Nat} {o o':bC}:fF (x0::x1::x2::x3::x4::x5::x6::x7::(i,o)::O) i o o' (x0::x1::x2::x3::x4::x5::x6::x7::(i,o')::O):=.tail .t7
theorem p5.t8 {x0 x1 x2 x3 x4 x5 x6 x7:Nat × bC} {O:OL} {i j:Nat} {o o':bC}:p5 (x0::x1::x2::x3::x4::x5::x6::x7::(i,o)::O) i o j o' (x0::x1::x2::x3::x4::x5::x6::x7::(j,o')::O):=.tail .t7
theorem aL {α0:Sort _} {a0:α0}:a0=a0∧True:=⟨rfl,trivial⟩
theorem b7 {α0:Sort _} {a0:α0} {α1:Sort _} {a1:α1}:a0=a0∧a1=a1∧True:=⟨rfl,rfl,trivial⟩
theorem bW {α0:Sort _} {a0:α0} {α1:Sort _} {a1:α1} {α2:Sort _} {a2:α2}:a0=a0∧a1=a1∧a2=a2∧True:=⟨rfl,rfl,rfl,trivial⟩
theorem fC {α0:Sort _} {a0:α0} {α1:Sort _} {a1:α1} {α2:Sort _} {a2:α2} {α3:Sort _} {a3:α3}:a0=a0∧a1=a1∧a2=a2∧a3=a3∧True:=⟨rfl,rfl,rfl,rfl,trivial⟩
theorem mI {α0:Sort _} {a0:α0} {α1:Sort _} {a1:α1} {α2:Sort _} {a2:α2} {α3:Sort _} {a3:α3} {α4:Sort _} {a4:α4}:a0=a0∧a1=a1∧a2=a2∧a3=a3∧a4=a4∧True:=⟨rfl,rfl,rfl,rfl,rfl,trivial⟩
theorem oB {α0:Sort _} {a0:α0} {α1:Sort _} {a1:α1} {α2:Sort _} {a2:α2} {α3:Sort _} {a3:α3} {α4:Sort _} {a4:α4} {α5:Sort _} {a5:α5}:a0=a0∧a1=a1∧a2=a2∧a3=a3∧a4=a4∧a5=a5∧True:=⟨rfl,rfl,rfl,rfl,rfl,rfl,trivial⟩
theorem lg {α0:Sort _} {a0:α0} {α1:Sort _} {a1:α1} {α2:Sort _} {a2:α2} {α3:Sort _} {a3:α3} {α4:Sort _} {a4:α4} {α5:Sort _} {a5:α5} {α6:Sort _} {a6:α6}:a0=a0∧a1=a1∧a2=a2∧a3=a3∧a4=a4∧a5=a5∧a6=a6∧True:=⟨rfl,rfl,rfl,rfl,rfl,rfl,rfl,trivial⟩
theorem tk {α0:Sort _} {a0:α0} {α1:Sort _} {a1:α1} {α2:Sort _} {a2:α2} {α3:Sort _} {a3:α3} {α4:Sort _} {a4:α4} {α5:Sort _} {a5:α5} {α6:Sort _} {a6:α6} {α7:Sort _} {a7:α7}:a0=a0∧a1=a1∧a2=a2∧a3=a3∧a4=a4∧a5=a5∧a6=a6∧a7=a7∧True:=⟨rfl,rfl,rfl,rfl,rfl,rfl,rfl,rfl,trivial⟩
theorem pI {α0:Sort _} {a0:α0} {α1:Sort _} {a1:α1} {α2:Sort _} {a2:α2} {α3:Sort _} {a3:α3} {α4:Sort _} {a4:α4} {α5:Sort _} {a5:α5} {α6:Sort _} {a6:α6} {α7:Sort _} {a7:α7} {α8:Sort _} {a8:α8}:a0=a0∧a1=a1∧a2=a2∧a3=a3∧a4=a4∧a5=a5∧a6=a6∧a7=a7∧a8=a8∧True:=⟨rfl,rfl,rfl,rfl,rfl,rfl,rfl,rfl,rfl,trivial⟩
theorem iS {α0:Sort _} {a0:α0} {α1:Sort _} {a1:α1} {α2:Sort _} {a2:α2} {α3:Sort _} {a3:α3} {α4:Sort _} {a4:α4} {α5:Sort _} {a5:α5} {α6:Sort _} {a6:α6} {α7:Sort _} {a7:α7} {α8:Sort _} {a8:α8} {α9:Sort _} {a9:α9}:a0=a0∧a1=a1∧a2=a2∧a3=a3∧a4=a4∧a5=a5∧a6=a6∧a7=a7∧a8=a8∧a9=a9∧True:=⟨rfl,rfl,rfl,rfl,rfl,rfl,rfl,rfl,rfl,rfl,trivial⟩
theorem qP {α0:Sort _} {a0:α0} {α1:Sort _} {a1:α1} {α2:Sort _} {a2:α2} {α3:Sort _} {a3:α3} {α4:Sort _} {a4:α4} {α5:Sort _} {a5:α5} {α6:Sort _} {a6:α6} {α7:Sort _} {a7:α7} {α8:Sort _} {a8:α8} {α9:Sort _} {a9:α9} {α10:Sort _} {a10:α10}:a0=a0∧a1=a1∧a2=a2∧a3=a3∧a4=a4∧a5=a5∧a6=a6∧a7=a7∧a8=a8∧a9=a9∧a10=a10∧True:=⟨rfl,rfl,rfl,rfl,rfl,rfl,rfl,rfl,rfl,rfl,rfl,trivial⟩
theorem kF {α0:Sort _} {a0:α0} {α1:Sort _} {a1:α1} {α2:Sort _} {a2:α2} {α3:Sort _} {a3:α3} {α4:Sort _} {a4:α4} {α5:Sort _} {a5:α5} {α6:Sort _} {a6:α6} {α7:Sort _} {a7:α7} {α8:Sort _} {a8:α8} {α9:Sort _} {a9:α9} {α10:Sort _} {a10:α10} {α11:Sort _} {a11:α11}:a0=a0∧a1=a1∧a2=a2∧a3=a3∧a4=a4∧a5=a5∧a6=a6∧a7=a7∧a8=a8∧a9=a9∧a10=a10∧a11=a11∧True:=⟨rfl,rfl,rfl,rfl,rfl,rfl,rfl,rfl,rfl,rfl,rfl,rfl,trivial⟩
variable {ops:Array Oper} {K:aT→OL→Prop} {rest:List Oper} {u e:TypeId}
theorem aa {k:IntKind} {a:Int} (hx:bc env x=.int k a) (kk:ay P E ops K rest (bz env d (.int k a)) O):ay P E ops K (Oper.mk (some d) (.move x) ty pos af none::rest) env O:=z8 (dx hx) kk
theorem ad {a:Bool} (hx:bc env x=.bool a) (kk:ay P E ops K rest (bz env d (.bool a)) O):ay P E ops K (Oper.mk (some d) (.assign x) ty pos af none::rest) env O:=z8 (qO hx) kk
theorem ak {fs:Array Field} {f:Field} {i sz:Nat} {cs cs':List AV} (ht:P.underlying t=some (.struct fs)) (hf:fs[i]?=some f) (hs:∀w,(sizeOf f.type).run P w=.ok sz w) (hx:bc env x=.pf cs) (hr:cs.drop f.offset=cs') (kk:ay P E ops K rest (bz env d (.pf cs')) O) (hz:sz≠0:=by decide):ay P E ops K (Oper.mk (some d) (.fieldAddr t x i) ty pos af none::rest) env O:=z8 (db ht hf hs hx hr hz) kk
theorem am {k:IntKind} {a:Int} (hx:bc env x=.int k a) (kk:ay P E ops K rest (bz env d (.int k a)) O):ay P E ops K (Oper.mk (some d) (.assign x) ty pos af none::rest) env O:=z8 (BI hx) kk
theorem aq {a:Bool} (hx:bc env x=.bool a) (kk:ay P E ops K rest (bz env d (.bool a)) O):ay P E ops K (Oper.mk (some d) (.move x) ty pos af none::rest) env O:=z8 (zX hx) kk
theorem au {b v:Bool} (hc:bc env x=.bool b) (hb:b=true) (hy:bc env y=.bool v) (kk:ay P E ops K rest (bz env d (.bool v)) O):ay P E ops K (Oper.mk (some d) (.pick x y z) ty pos af none::rest) env O:=z8 (Ep hc hb hy) kk
theorem aw {b v:Bool} (hc:bc env x=.bool b) (hb:b=false) (hy:bc env z=.bool v) (kk:ay P E ops K rest (bz env d (.bool v)) O):ay P E ops K (Oper.mk (some d) (.pick x y z) ty pos af none::rest) env O:=z8 (Eg hc hb hy) kk
theorem ac {n:Nat} {cs:List AV} (ha:∀w,(isAgg t).run P w=.ok true w) (hs:∀w,(sizeOf t).run P w=.ok n w) (hx:bc env x=.pf cs) (hn:cs.length=n) (kk:ay P E ops K rest (bz env d (.agg cs)) O):ay P E ops K (Oper.mk (some d) (.load t x) ty pos af none::rest) env O:=z8 (Gv.loadWF ha hs hx hn) kk
theorem aA {k:IntKind} {a:Int} {cs:List AV} (ha:∀w,(isAgg t).run P w=.ok false w) (hx:bc env x=.pf (.int k a::cs)) (kk:ay P E ops K rest (bz env d (.int k a)) O):ay P E ops K (Oper.mk (some d) (.load t x) ty pos af none::rest) env O:=z8 (dQ ha hx) kk
theorem aC {u:TypeId} {a b:Int} (hx:bc env x=.int .i64 a) (hy:bc env y=.int .i64 b) (kk:ay P E ops K rest (bz env d (.int .i64 (a+b))) O) (hr:lz (a+b):=by unfold lz;omega):ay P E ops K (Oper.mk (some d) (.binOp .add t x y u) ty pos af none::rest) env O:=z8 (G8 hx hy hr) kk
theorem ap {k:IntKind} {a b:Int} (hx:bc env x=.int k a) (hy:bc env y=.int k b) (kk:ay P E ops K rest (bz env d (.bool (decide (a<b)))) O):ay P E ops K (Oper.mk (some d) (.binOp .lss t x y u) ty pos af none::rest) env O:=z8 (Gv.lss hx hy) kk
theorem aj {α:Type} {enc:α→List AV} {xs:List α} {k:Nat} (ht:P.underlying t=some (.slice e)) (hx:bc env x=.fro k (xs.map enc)) (kk:ay P E ops K rest (bz env d (.int .i64 xs.length)) O):ay P E ops K (Oper.mk (some d) (.call { callee:=.builtin .len,args:=#[x],argTypes:=#[t] }) ty pos af none::rest) env O:=z8 (Gv.lenM ht hx) kk
theorem ao {k:IntKind} {a b:Int} (hx:bc env x=.int k a) (hy:bc env y=.int k b) (kk:ay P E ops K rest (bz env d (.bool (decide (a=b)))) O):ay P E ops K (Oper.mk (some d) (.binOp .eql t x y u) ty pos af none::rest) env O:=z8 (Gv.eqlI hx hy) kk
theorem aI {k:Nat} {a:List (List AV)} {cs:List AV} (ha:∀w,(isAgg t).run P w=.ok false w) (hx:bc env x=.pf (.fro k a::cs)) (kk:ay P E ops K rest (bz env d (.fro k a)) O):ay P E ops K (Oper.mk (some d) (.load t x) ty pos af none::rest) env O:=z8 (gd ha hx) kk
theorem aJ {b:Bool} (hx:bc env x=.bool b) (kk:ay P E ops K rest (bz env d (.bool (!b))) O):ay P E ops K (Oper.mk (some d) (.unOp .not t x) ty pos af none::rest) env O:=z8 (Gv.not hx) kk
theorem bb {i m:Nat} (hx:bc env x=.po i m) (kk:ay P E ops K rest (bz env d (.po i m)) O):ay P E ops K (Oper.mk (some d) (.move x) ty pos af none::rest) env O:=z8 (dR hx) kk
theorem bd {k:Nat} {a:List (List AV)} (hx:bc env x=.fro k a) (kk:ay P E ops K rest (bz env d (.fro k a)) O):ay P E ops K (Oper.mk (some d) (.move x) ty pos af none::rest) env O:=z8 (vZ hx) kk
theorem ax {i off:Nat} (hx:bc env x=.po i off) (kk:ay P E ops K rest (bz env d (.po i off)) O):ay P E ops K (Oper.mk (some d) (.nilCheck x) ty pos af none::rest) env O:=z8 (Gv.nilCheckO hx) kk
theorem aO {k:IntKind} {a b:Int} (hx:bc env x=.int k a) (hy:bc env y=.int k b) (kk:ay P E ops K rest (bz env d (.bool (!decide (a=b)))) O):ay P E ops K (Oper.mk (some d) (.binOp .neq t x y u) ty pos af none::rest) env O:=z8 (Gv.neqI hx hy) kk
theorem bL {i m:Nat} (hx:bc env x=.own i m) (kk:ay P E ops K rest (bz env d (.own i m)) O):ay P E ops K (Oper.mk (some d) (.move x) ty pos af none::rest) env O:=z8 (Hd hx) kk
theorem be {k:IntKind} {a b:Int} (hx:bc env x=.int k a) (hy:bc env y=.int k b) (kk:ay P E ops K rest (bz env d (.bool (decide (b<a)))) O):ay P E ops K (Oper.mk (some d) (.binOp .gtr t x y u) ty pos af none::rest) env O:=z8 (Gv.gtr hx hy) kk
theorem cE {a:Value} (hx:bc env x=.raw a) (kk:ay P E ops K rest (bz env d (.raw a)) O):ay P E ops K (Oper.mk (some d) (.assign x) ty pos af none::rest) env O:=z8 (MD hx) kk
end
set_option linter.defProp false
def j7:=@Tryz.underlying23
def j8:=@Tryz.sizeOf63
def j9:=@Tryz.sizeOf3
def jd:=@Tryz.underlying51
def je:=@Tryz.underlying26
def jf:=@Tryz.underlying99
def jg:=@Tryz.isAgg3
def jh:=@Tryz.sizeOf23
def ji:=@Tryz.sizeOf26
def jj:=@Tryz.underlying56
def jk:=@Tryz.isAgg63
def jr:=@Tryz.underlying59
def ju:=@Tryz.underlying24
def jw:=@Tryz.underlying92
def jx:=@Tryz.isAgg23
def jy:=@Tryz.underlying74
def jz:=@Tryz.underlying63
def Z0:=@Tryz.isAgg26
def Z1:=@Tryz.sizeOf2
def Z2:=@Tryz.sizeOf59
def Z3:=@Tryz.zeroValue63
def Z4:=@Tryz.underlying83
def Z5:=@Tryz.underlying66
def Z6:=@Tryz.underlying52
def Z7:=@Tryz.underlying22
def Z8:=@Tryz.underlying57
def Z9:=@Tryz.underlying54
def Za:=@Tryz.sizeOf51
def Zb:=@Tryz.sizeOf4
def Zc:=@Tryz.isAgg2
def Zd:=@Tryz.sizeOf24
def Ze:=@Tryz.sizeOf83
def Zf:=@Tryz.isAgg24
def Zg:=@Tryz.sizeOf54
def Zh:=@Tryz.zeroValue59
def Zi:=@Tryz.underlying193
def Zj:=@Tryz.underlying73
def Zk:=@Tryz.underlying97
def Zl:=@Tryz.underlying109
def Zm:=@Tryz.underlying28
def Zn:=@Tryz.sizeOf22
def Zo:=@Tryz.type23
def Zp:=@Tryz.sizeOf56
def Zq:=@Tryz.underlying208
def Zr:=@Tryz.zeroValue51
def Zs:=@Tryz.sizeOf49
def Zt:=@Tryz.underlying48
def Zu:=@Tryz.underlying2
def Zv:=@Tryz.sizeOf57
def Zw:=@Tryz.sizeOf52
def Zx:=@Tryz.sizeOf66
def Zy:=@Tryz.underlying9
def Zz:=@Tryz.isAgg22
def Y0:=@Tryz.underlying227
def Y1:=@Tryz.zeroValue83
def Y2:=@Tryz.isAgg49
def Y3:=@Tryz.isAgg52
def Y4:=@Tryz.sizeOf53
def Y5:=@Tryz.type3
def Y6:=@Tryz.sizeOf9
def Y7:=@Tryz.underlying169
def Y8:=@Tryz.underlying114
def Y9:=@Tryz.sizeOf114
def Ya:=@Tryz.underlying95
def Yb:=@Tryz.sizeOf97
def Yc:=@Tryz.isAgg59
def Yd:=@Tryz.isAgg57
def Ye:=@Tryz.isAgg66
def Yf:=@Tryz.sizeOf48
def Yg:=@Tryz.sizeOf92
def Yh:=@Tryz.sizeOf28
def Yi:=@Tryz.isAgg53
def Yj:=@Tryz.isAgg51
def Yk:=@Tryz.isAgg9
def Yl:=@Tryz.underlying195
def Ym:=@Tryz.underlying111
def Yn:=@Tryz.isAgg4
def Yo:=@Tryz.underlying4
def Yp:=@Tryz.underlying30
def Yq:=@Tryz.type4
def Yr:=@Tryz.sizeOf109
def Ys:=@Tryz.isAgg83
def Yt:=@Tryz.underlying40
def Yu:=@Tryz.isAgg92
def Yv:=@Tryz.underlying80
def Yw:=@Tryz.underlying246
def Yx:=@Tryz.underlying243
def Yy:=@Tryz.underlying212
def Yz:=@Tryz.sizeOf169
def X0:=@Tryz.underlying3
def X1:=@Tryz.underlying69
def X2:=@Tryz.underlying259
def X3:=@Tryz.isAgg28
def X4:=@Tryz.sizeOf95
def X5:=@Tryz.underlying258
def X6:=@Tryz.underlying229
def X7:=@Tryz.underlying162
def X8:=@Tryz.type2
def X9:=@Tryz.sizeOf46
def Xa:=@Tryz.isAgg109
def Xb:=@Tryz.underlying27
def Xc:=@Tryz.underlying170
def Xd:=@Tryz.sizeOf80
def Xe:=@Tryz.zeroValue3
def Xf:=@Tryz.zeroValue56
def Xg:=@Tryz.zeroValue169
def Xh:=@Tryz.underlying49
def Xi:=@Tryz.underlying68
def Xj:=@Tryz.isAgg46
def Xk:=@Tryz.isAgg56
set_option linter.defProp false
def za:=@aR.perm
def zd:=@aR.ops
def ze:=@ay.callP
def zh:=@Gv.fieldO
def zj:=@ay.storeW
def zm:=@ga.t1
def zo:=@wy.perm
def zp:=@bn.intro
def zq:=@Gv.load1C
def zr:=@dV.regionDraw
def zu:=@ay.alloc
def zx:=@ay.buildSliceFF
def zy:=@Gv.nilCheckO
def zz:=@Gv.build
def y3:=@ay.callA
def y6:=@ay.boxF
def y7:=@aR.wp
def yc:=@bT.writes
def yf:=@pd.done
def yg:=@ay.appendS
def yi:=@ay.buildSlice0
def yk:=@pd.one
def yl:=@ay.boxO
def ym:=@ga.c1
def yn:=@ay.storeC
def yo:=@Gv.loadAC
def yp:=@Gv.loadWF
def yt:=@Gv.move
def yv:=@bT.takeK
def yx:=@Gv.idxAF
def yy:=@ga.t0
def yz:=@aR.fin
def q7:=@Gv.eqlT
def q8:=@Gv.assign
def q9:=@Gv.geq
def qd:=@Gv.idxAO
def qe:=@Gv.load1F
def qf:=@aR.drop
def qg:=@Gv.nilCheckF
def qh:=@Gv.idxM
def qn:=@ga.t2
def qp:=@Gv.lenO
def qu:=@Gv.loadWC
def qv:=@Gv.load1G
def qx:=@List.getElem?_eq_getElem
def qy:=@List.take_succ_eq_append_getElem
def qz:=@List.append_assoc
def w2:=@Nat.zero_le
def w3:=@List.getElem_mem
def w4:=@List.take_length
def w5:=@List.length_append
def w6:=@List.length_map
def w7:=@List.getElem?_map
def w8:=@Bool.eq_iff_iff
def w9:=@List.mem_of_getElem?
def wa:=@List.eq_nil_of_length_eq_zero
def wb:=@List.map_append
def wc:=@List.append_nil
def wd:=@List.length_take
def we:=@decide_eq_true
def wg:=@decide_eq_false
def wh:=@Bool.and_eq_true
def wi:=@List.all_eq_true
def wj:=@Int.toNat_of_nonneg
def wk:=@of_decide_eq_true
def wl:=@of_decide_eq_false
def wm:=@decide_eq_true_eq
theorem U {α:Sort _} {a:α}:a=a:=rfl
end
end Go.Proofs.YtbbonnfjealmpaaGreatDoor
