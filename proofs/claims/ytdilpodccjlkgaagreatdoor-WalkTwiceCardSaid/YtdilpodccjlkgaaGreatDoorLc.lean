/- Facts on a stack, read: has, further, Least, Follows. Of facts of nodes that there are, not great. -/
import Derived.Test.YtdilpodccjlkgaaGreatDoorLb
import Derived.MapKept
import Derived.WideMake
import Derived.Laws.Cover4
import Derived.WideLaws
import Derived.Lib.AppendZeros
import Derived.Lib.Builder
import Derived.Lib.AppendStr
import Derived.Lib.UnsafeStr
import Derived.Laws.Externs
import Derived.Sort.Grow
import Derived.Laws.CopyRow
import Derived.LaidEqlPtr
import Derived.Test.YtdilpodccjlkgaaGreatDoorLa
import Derived.Test.YtdilpodccjlkgaaGreatDoorChecked
set_option linter.unusedVariables false
set_option linter.unusedSimpArgs false
set_option linter.unusedSectionVars false
namespace Go.Proofs.YtdilpodccjlkgaaGreatDoor
open Go.Proofs.Tryz
def iT (s:ByteArray):List (ByteArray × Int)→Option Int
 |[]=>none
 |(k,v)::es=>if s=k then some v else iT s es
def mJ (s:ByteArray) (v:Int):List (ByteArray × Int)→List (ByteArray × Int)
 |[]=>[(s,v)]
 |(k,u)::es=>if s=k then (k,v)::es else (k,u)::mJ s v es
def mj (p:ByteArray × Int):Value × Value:=(.string p.1,.int .i64 p.2)
def EJ (b:Nat) (es:List (ByteArray × Int)) (L:List (Nat × Obj)):Prop:=∃(arr:Array MapEntry) (clock:Nat),L=[(b,.map arr clock)]∧arr.toList.map (fun e=>(e.key,e.val))=es.map mj
def wj (b:Nat) (es:List (ByteArray × Int)):bu:=.heap (EJ b es)
def cT (b:Nat):AV:=.raw (.map (some b))
theorem ik {s:ByteArray}:∀{l:List MapEntry} {es:List (ByteArray × Int)} {i:Nat},l.map (fun e=>(e.key,e.val))=es.map mj→iT s es=none→Instr.findNow .string (.string s) l i=some none
 |[],[],_,_,_=>rfl
 |[],_::_,_,h,_=>by cases h
 |_::_,[],_,h,_=>by cases h
 |e::l,(k,v)::es,i,h,hg=>by
  simp only[List.map_cons,List.cons.injEq,mj,Prod.mk.injEq] at h
  obtain ⟨⟨h1,_⟩,h2⟩:=h
  simp only[iT] at hg
  split at hg
  ·cases hg
  ·rename_i hne
   unfold Instr.findNow
   rw[h1]
   have:(s == k)=false:=Bool.eq_false_iff.2 fun h=>hne ((MapKept.bytes_beq s k).1 h)
   simp only[Instr.sameNow,this]
   exact ik h2 hg
theorem im {s:ByteArray} {u:Int}:∀{l:List MapEntry} {es:List (ByteArray × Int)} {i:Nat},l.map (fun e=>(e.key,e.val))=es.map mj→iT s es=some u →
  ∃j,Instr.findNow .string (.string s) l i=some (some (i+j,.int .i64 u))∧(∃e,l[j]?=some e∧e.key=.string s)∧∀v,es.set j (s,v)=mJ s v es
 |[],[],_,_,hg=>by cases hg
 |[],_::_,_,h,_=>by cases h
 |_::_,[],_,h,_=>by cases h
 |e::l,(k,v)::es,i,h,hg=>by
  simp only[List.map_cons,List.cons.injEq,mj,Prod.mk.injEq] at h
  obtain ⟨⟨h1,h3⟩,h2⟩:=h
  simp only[iT] at hg
  unfold Instr.findNow
  rw[h1]
  split at hg
  ·rename_i heq
   subst heq
   cases hg
   refine ⟨0,?_,⟨e,Z,h1⟩,fun v=>?_⟩
   ·have hss:(s == s)=true:=(MapKept.bytes_beq s s).2 rfl
    simp only[Instr.sameNow,hss]
    rw[h3];rfl
   ·simp[mJ]
  ·rename_i hne
   have hb:(s == k)=false:=Bool.eq_false_iff.2 fun h=>hne ((MapKept.bytes_beq s k).1 h)
   obtain ⟨j,g1,g2,g3⟩:=im (i:=i+1) h2 hg
   refine ⟨j+1,?_,by simpa using g2,fun v=>?_⟩
   ·simp only[Instr.sameNow,hb,g1]
    congr 3;omega
   ·simp[mJ,hne,g3]
section
variable {E:World} {P:Program} {n:Nat} {ops:Array Oper} {K:aM→OL→Prop} {env:aM} {O O':OL} {rest:List Oper}
variable {d ty:Nat} {pos:String} {af:Array Edge} {t e kt:TypeId} {x y z:Operand} {b i:Nat} {es:List (ByteArray × Int)}
theorem ax.makeMap (k:∀b,ax P E ops K rest (bi env d (cT b)) ((0,wj b [])::O)):ax P E ops K (Oper.mk (some d) (.makeMap t none) ty pos af none::rest) env O:=fun I F ρ w h1 ⟨ht,L,hL,hS⟩=>by
 refine qd Z ?_
 unfold ig
 have:(execOp (Go.Proofs.YtdilpodccjlkgaaGreatDoor.ev ρ) (Oper.mk (some d) (.makeMap t none) ty pos af none)).run P w=.ok (.value (.map (some w.heap.size))) (w.alloc (.map #[] 0)):=by
  simp only[execOp,Option.map_none]
  rw[Sem.run_bind,run_makeMap_plain];rfl
 rw[this]
 exact k w.heap.size I F _ _ (h1.upd d rfl) ⟨ht,(w.heap.size,.map #[] 0)::L,⟨[_],L,rfl,⟨#[],0,rfl,rfl⟩,hL⟩,hS.alloc _⟩
theorem CK {I:G} {L:List (Nat × Obj)} (hO:m3 O i (wj b es)) (hL:br I O L):∃(arr:Array MapEntry) (clock:Nat),(b,Obj.map arr clock)∈L∧arr.toList.map (fun e=>(e.key,e.val))=es.map mj:=by
 obtain ⟨O',hO⟩:=hO
 obtain ⟨A,B,hp,⟨arr,clock,rfl,h2⟩,_⟩:=hO.rep hL
 exact ⟨arr,clock,hp.mem_iff.2 (by simp),h2⟩
theorem ax.mapSet {s:ByteArray} {v:Int} (ht:P.underlying t=some (.map kt e)) (hk:P.underlying kt=some .string) (hx:aP env x=cT b) (hy:aP env y=.str s) (hz:aP env z=.int .i64 v) (hO:fm O i (wj b es) (wj b (mJ s v es)) O')
  (k:ax P E ops K rest env O'):ax P E ops K (Oper.mk none (.mapUpdate t x y z) ty pos af none::rest) env O:=fun I F ρ w h1 ⟨htop,L,hL,hS⟩=>by
 have hx:=eQ h1 hx
 have hy:=A4 h1 hy
 have hz:=fo h1 hz
 obtain ⟨A,B,hp,⟨arr,clock,rfl,he⟩,hback⟩:=hO.rep hL
 have hS2:SL I.k ((b,.map arr clock)::(B++F)) E w:=hS.perm ((hp.append_right F).symm)
 have hb:=hS2.own _ (.head _)
 simp only at hb
 have hc:(Instr.checkKey false 10000 kt (.string s)).run P w=.ok () w:=MapKept.run_checkKey (k:=.string s) hk (by simp[MapKept.IsKey]) false 9999
 have fin:∀(arr':Array MapEntry) (clock':Nat),arr'.toList.map (fun e=>(e.key,e.val))=(mJ s v es).map mj →
   (execOp (Go.Proofs.YtdilpodccjlkgaaGreatDoor.ev ρ) (Oper.mk none (.mapUpdate t x y z) ty pos af none)).run P w=.ok .skip { w with heap:=w.heap.setIfInBounds b (.map arr' clock') }→bJ P ops (gS I F E K) (Oper.mk none (.mapUpdate t x y z) ty pos af none::rest) ρ w:=fun arr' clock' he' hrun=>by
  refine qd Z ?_
  unfold ig
  rw[hrun]
  obtain ⟨L',h7,h8⟩:=hback (qb I) (A':=[(b,.map arr' clock')]) ⟨arr',clock',rfl,he'⟩
  have hh:=MapKept.heap_set (o':=.map arr' clock') hb
  have hS3:SL I.k ((b,.map arr' clock')::(B++F)) E { w with heap:=w.heap.setIfInBounds b (.map arr' clock') }:=hS2.turn rfl rfl rfl hh.1 hh.2
  exact k I F ρ _ h1 ⟨htop,L',h7,hS3.perm (h8.append_right F)⟩
 cases hg:iT s es with
 |none=>
  have hf:=ik (i:=0) he hg
  refine fin (arr.push { key:=.string s,val:=.int .i64 v,born:=clock }) (clock+1) ?_ ?_
  ·have hset:∀es:List (ByteArray × Int),iT s es=none→mJ s v es=es++[(s,v)]:=fun es=>by
    induction es with
    |nil=>intro _;rfl
    |cons x es ih=>
     obtain ⟨k,u⟩:=x
     intro hg
     simp only[iT] at hg
     split at hg
     ·cases hg
     ·rename_i hne;simp[mJ,hne,ih hg]
   rw[hset es hg]
   simp[he,mj]
  ·simp[execOp,hx,hy,hz,Instr.mapUpdate,run_underlying ht,MapKept.run_getObj_map hb,hc,MapKept.run_findKey hk hf,MapKept.run_setObj_map _ hb,Result.andThen]
 |some u=>
  obtain ⟨j,hf,⟨e0,hj,hkey⟩,hset⟩:=im (i:=0) he hg
  rw[Nat.zero_add] at hf
  have hj':arr[j]?=some e0:=by rw[←Array.getElem?_toList];exact hj
  refine fin (arr.modify j fun e=>{ e with key:=.string s,val:=.int .i64 v }) clock ?_ ?_
  ·rw[←hset v,List.map_set]
   have hjl:j<arr.toList.length:=(List.getElem?_eq_some_iff.1 hj).1
   have:(arr.modify j fun e=>{ e with key:=.string s,val:=.int .i64 v }).toList=arr.toList.set j { e0 with key:=.string s,val:=.int .i64 v }:=by
    apply List.ext_getElem?
    intro q
    rw[Array.getElem?_toList,Array.getElem?_modify]
    by_cases hq:j=q
    ·subst hq
     rw[if_pos rfl,hj',List.getElem?_set_self hjl];rfl
    ·rw[if_neg hq,List.getElem?_set_ne hq,Array.getElem?_toList]
   rw[this,List.map_set,he];rfl
  ·have hkeep:(Instr.keyThatStays (.string s) (.string s)).run P w=.ok (.string s) w:=by
    have hss:(s == s)=true:=(MapKept.bytes_beq s s).2 rfl
    simp[Instr.keyThatStays,Instr.sameBits,hss]
   simp[execOp,hx,hy,hz,Instr.mapUpdate,run_underlying ht,MapKept.run_getObj_map hb,hc,MapKept.run_findKey hk hf,MapKept.run_setObj_map _ hb,Result.andThen,hj',hkey,hkeep]
end
end Go.Proofs.YtdilpodccjlkgaaGreatDoor
namespace Go.Proofs.YtdilpodccjlkgaaGreatDoor
open Go.Proofs.Tryz
section
variable {E:World} {P:Program} {n:Nat} {ops:Array Oper} {K:aM→OL→Prop} {env:aM} {O O':OL} {rest:List Oper} {R:AV→OL→Prop}
variable {d ty:Nat} {pos:String} {af:Array Edge} {t e:TypeId} {x y:Operand}
theorem dx.c1t {t u T i:Nat} {T':TypeId} {cs:List AV} {n:Nat} {y:AV} (hv:env t=.po i 0) (hu:env u=y) (hO:m3 O i (.cells T' cs)) (ha:∀w,(isAgg T).run P w=.ok true w) (hs:∀w,(sizeOf T).run P w=.ok n w) (hn:cs.length=n) (h:R (.tup [.agg cs,y]) O) :
  dx P E #[.cell t T,.tmp u] R .ret env O:=dx.of (x:=.tup [.agg cs,y]) (fun I F ρ w h1 h2=>by
 obtain ⟨L,hL,hS⟩:=h2.2
 have h3:=h1 t
 rw[hv] at h3
 obtain ⟨b,c,e1,e⟩:=h3
 obtain ⟨b',c',vs,e2,h4,hm⟩:=hO.cells hL
 rw[e1] at e2;cases e2
 have hl:=iG (P:=P) (w:=w) (b:=b) (off:=0) ha (cs:=vs) (by rw[h4.length,hn];exact hs) (fun j v hj=>by
  rw[Nat.zero_add]
  exact hS.at_ (.inr ⟨_,_,_,List.mem_append_left _ hm,by rw[List.getElem?_toArray];exact hj⟩))
 exact ⟨.tuple #[.agg vs.toArray,ρ u],by simp[oT,e,asAddr,hl],⟨[_,_],rfl,_,_,rfl,⟨vs,rfl,h4⟩,_,_,rfl,hu▸h1 u,rfl⟩⟩) h
end
end Go.Proofs.YtdilpodccjlkgaaGreatDoor
namespace Go.Proofs.YtdilpodccjlkgaaGreatDoor
open Go.Proofs.Tryz
section
variable {E:World} {P:Program} {env:aM} {O:OL} {d ty:Nat} {pos:String} {af:Array Edge} {x:Operand} {t u:TypeId}
end
end Go.Proofs.YtdilpodccjlkgaaGreatDoor
namespace Go.Proofs.YtdilpodccjlkgaaGreatDoor
open Go.Proofs.Tryz
section
variable {E:World} {P:Program} {ops:Array Oper} {K:aM→OL→Prop} {env:aM} {O O' O'':OL} {rest:List Oper} {n:Nat}
variable {d ty:Nat} {pos:String} {af:Array Edge} {x y z:Operand} {t u e:TypeId}
theorem wk {A row:List AV} {j:Nat} {c:AV} (h:row[j]?=some c):(A++row).drop (A.length+j)=c::row.drop (j+1):=by
 obtain ⟨hj,rfl⟩:=List.getElem?_eq_some_iff.1 h
 rw[List.drop_append,List.drop_eq_nil_of_le (by omega),Nat.add_sub_cancel_left,List.nil_append]
 exact List.drop_eq_getElem_cons hj
theorem Gv.loadL {i off j k:Nat} {T:TypeId} {c:AV} {A row:List AV} (ha:∀w,(isAgg t).run P w=.ok false w) (hx:aP env x=.po i off) (hoff:off=A.length+j) (hO:m3 O i (.grow k T (A++row))) (hv:row[j]?=some c) :
  Gv P env O (Oper.mk (some d) (.load t x) ty pos af none) c:=Gv.load1G ha hx hO (by subst hoff;exact wk hv)
theorem ax.storeL {i off j m k:Nat} {T:TypeId} {v:AV} {A row l new:List AV} (hs:∀w,(sizeOf t).run P w=.ok m w) (hx:aP env x=.po i off) (hoff:off=A.length+j) (hy:aP env y=v) (hv:v.sto=true) (hl:v.cs=l) (hl1:l.all AV.cell=true) (hn:l.length=m)
  (hO:fm O i (.grow k T (A++row)) (.grow k T (A++new)) O') (hb:Nat.ble (j+m) row.length=true) (hm:Nat.ble 1 m=true) (hnew:row.take j++l++row.drop (j+m)=new) (kk:ax P E ops K rest env O'):ax P E ops K (Oper.mk none (.store t x y) ty pos af none::rest) env O:=
 ax.storeG hs hx hy hv hl hl1 hn hO (by have:=Nat.le_of_ble_eq_true hb;rw[qo];omega) (Nat.le_of_ble_eq_true hm) (by
  have:=Nat.le_of_ble_eq_true hb
  subst hoff hnew
  rw[List.take_append,List.take_of_length_le (by omega:A.length≤A.length+j),Nat.add_sub_cancel_left,List.drop_append,List.drop_eq_nil_of_le (by omega:A.length≤A.length+j+m),Nat.add_assoc,Nat.add_sub_cancel_left]
  simp) kk
theorem Gv.idxOL {i n k j r:Nat} {a:Int} {T:TypeId} {cs:List AV} (ht:P.underlying t=some (.slice e)) (hs:∀w,(sizeOf e).run P w=.ok k w) (hx:aP env x=.own i n) (hy:aP env y=.int .i64 a) (hi:a=(j:Int)) (hO:m3 O i (.grow k T cs)) (hne:cs≠[]) (hj:j<n) (hr:j*k=r) :
  Gv P env O (Oper.mk (some d) (.indexAddr t x y) ty pos af none) (.po i r):=hr▸Gv.idxO ht hs hx hy hi hO hne hj
theorem aX.eq (h:O=O'):aX E env O env O':=fun I F ρ w h1 h2=>⟨I,.refl _,h1,h▸h2⟩
end
section
variable {P:Program} {E:World} {l:List Oper} {W:Nat→Bool} {fuel:Nat} {listed:Array Bool} {d ty:Nat} {op:Op} {pos:String} {af:Array Edge}
end
theorem aX.knowP {E:World} {env:aM} {O O':OL} {t i:Nat} {T:TypeId} {cs:List AV} (hv:env t=.po i 0) (hO:cY O i (.cells T cs) O'):aX E env O (bi env t (.pf cs)) O':=fun I F ρ w h1 ⟨ht,L,hL,hS⟩=>by
 obtain ⟨A,B,hp,⟨b,c,vs,e1,hvs,hvc,rfl⟩,hB⟩:=hO.rep hL
 simp only at e1
 have hS2:SL I.k ((b,.cells vs.toArray T (0,0))::(B++F)) E w:=hS.perm ((hp.append_right F).symm)
 obtain ⟨hl,hS3⟩:=SL.freeze hS2
 let J:G:=⟨I.k.put b (.cells vs.toArray T (0,0)),I.h⟩
 have hle:I.le J:=⟨hl,fun _ _ h=>h⟩
 refine ⟨J,hle,fun s=>?_,ht,B,hB.mono hle,hS3⟩
 unfold bi
 cases hb:Nat.beq s t with
 |false=>exact bg.mono hle _ _ (h1 s)
 |true=>
  have:s=t:=Nat.eq_of_beq_eq_true hb
  subst this
  have h2:=h1 s
  rw[hv] at h2
  obtain ⟨b2,c2,e2,e3⟩:=h2
  rw[e1] at e2
  simp only[Option.some.injEq,Prod.mk.injEq] at e2
  obtain ⟨rfl,rfl⟩:=e2
  exact ⟨b,0,vs,e3,qh hle _ _ hvs,fun j u hj=>⟨_,_,_,bp.put_same _ _ _,by rw[Nat.zero_add,List.getElem?_toArray];exact hj⟩⟩
end Go.Proofs.YtdilpodccjlkgaaGreatDoor
namespace Go.Proofs.YtdilpodccjlkgaaGreatDoor
open Go.Proofs.Tryz
section
variable {E:World} {P:Program} {ops:Array Oper} {K:aM→OL→Prop} {env:aM} {O O':OL} {rest:List Oper}
variable {d ty:Nat} {pos:String} {af:Array Edge} {x y z:Operand} {t u e:TypeId}
end
end Go.Proofs.YtdilpodccjlkgaaGreatDoor
namespace Go.Proofs.YtdilpodccjlkgaaGreatDoor
open Go.Proofs.Tryz
section
variable {P:Program} {env:aM} {O:OL}
variable {d ty:Nat} {pos:String} {af:Array Edge} {x y:Operand}
theorem Gv.maxI {ts:Array TypeId} {k:IntKind} {a b:Int} (hx:aP env x=.int k a) (hy:aP env y=.int k b):Gv P env O (Oper.mk (some d) (.call { callee:=.builtin .max,args:=#[x,y],argTypes:=ts }) ty pos af none) (.int k (if b>a then b else a)):=Gv.ofEv fun I ρ h=>⟨_,rfl,fun w=>by
 simp[execOp,resolve,fo h hx,fo h hy,invoke,builtin,Builtin.max_,Builtin.max2,Result.andThen]⟩
theorem Gv.minI {ts:Array TypeId} {k:IntKind} {a b:Int} (hx:aP env x=.int k a) (hy:aP env y=.int k b):Gv P env O (Oper.mk (some d) (.call { callee:=.builtin .min,args:=#[x,y],argTypes:=ts }) ty pos af none) (.int k (if b<a then b else a)):=Gv.ofEv fun I ρ h=>⟨_,rfl,fun w=>by
 simp[execOp,resolve,fo h hx,fo h hy,invoke,builtin,Builtin.min_,Builtin.min2,Result.andThen]⟩
end
end Go.Proofs.YtdilpodccjlkgaaGreatDoor
namespace Go.Proofs.YtdilpodccjlkgaaGreatDoor
open Go.Proofs.Tryz
open Go.Lib
section
variable {P:Program} {ops:Array Oper} {K:db→World→Prop} {ρ:db} {w:World} {rest:List Oper}
variable {d ty:Nat} {pos:String} {af:Array Edge} {x y z:Operand} {t u e:TypeId}
variable {I:bp} {O A:List (Nat × Obj)} {E:World}
end
section
variable {E:World} {P:Program} {ops:Array Oper} {K:aM→OL→Prop} {env:aM} {O O':OL} {rest:List Oper}
variable {d ty:Nat} {pos:String} {af:Array Edge} {x y z:Operand} {t u e:TypeId}
end
section
variable {E:World} {P:Program} {env:aM} {O:OL} {d ty:Nat} {pos:String} {af:Array Edge} {t e kt:TypeId} {x y:Operand} {b i:Nat} {es:List (ByteArray × Int)}
theorem Gv.lookup1S {s:ByteArray} (ht:P.underlying t=some (.map kt e)) (hk:P.underlying kt=some .string) (hz:∀w,(zeroValue e).run P w=.ok (.int .i64 0) w) (hx:aP env x=cT b) (hy:aP env y=.str s) (hO:m3 O i (wj b es)) :
  Gv P env O (Oper.mk (some d) (.lookup t x y false) ty pos af none) (.int .i64 ((iT s es).getD 0)):=fun I L E ρ h1 hL=>by
 obtain ⟨arr,clock,hm,he⟩:=CK hO hL
 have hx:=eQ h1 hx
 have hy:=A4 h1 hy
 refine ⟨.int .i64 ((iT s es).getD 0),Z,fun w J L' hl hS hin=>?_⟩
 have hb:=hS.own _ (hin _ hm)
 simp only at hb
 have hc:(Instr.checkKey arr.isEmpty 10000 kt (.string s)).run P w=.ok () w:=MapKept.run_checkKey (k:=.string s) hk (by simp[MapKept.IsKey]) _ 9999
 cases hg:iT s es with
 |none=>
  have hf:=ik (i:=0) he hg
  simp[execOp,Instr.lookup,run_underlying ht,hx,hy,MapKept.run_getObj_map hb,hc,MapKept.run_findKey hk hf,hz,Result.andThen]
 |some u=>
  obtain ⟨j,hf,_⟩:=im (i:=0) he hg
  simp[execOp,Instr.lookup,run_underlying ht,hx,hy,MapKept.run_getObj_map hb,hc,MapKept.run_findKey hk hf,Result.andThen]
end
theorem rS (s v:ByteArray) (n:Int):∀es:List (ByteArray × Int),iT s (mJ v n es)=if s=v then some n else iT s es
 |[]=>by simp only[mJ,iT]
 |(k,u)::es=>by
  simp only[mJ]
  split
  ·rename_i h;subst h;simp only[iT];split<;>rfl
  ·rename_i h
   simp only[iT,rS s v n es]
   split
   ·rename_i h2;subst h2;rw[if_neg (fun e=>h e.symm)]
   ·rfl
end Go.Proofs.YtdilpodccjlkgaaGreatDoor
namespace Go.Proofs.YtdilpodccjlkgaaGreatDoor
open Go.Proofs.Tryz
def cI (l:List Int):List AV:=l.map (AV.int .i64)
def cB (l:List Bool):List AV:=l.map AV.bool
theorem aQ (l:List Int):(cI l).length=l.length:=by simp[cI]
theorem aS (l:List Bool):(cB l).length=l.length:=by simp[cB]
theorem qF (l:List Int):(l.map fun x=>[AV.int .i64 x]).flatten=cI l:=by
 induction l with
 |nil=>rfl
 |cons x l ih=>simp only[List.map_cons,List.flatten_cons,ih];rfl
theorem A7 (l:List Bool):(l.map fun x=>[AV.bool x]).flatten=cB l:=by
 induction l with
 |nil=>rfl
 |cons x l ih=>simp only[List.map_cons,List.flatten_cons,ih];rfl
theorem tR (l m:List Int):cI l++cI m=cI (l++m):=by simp[cI]
theorem CL (l:List Int) (j:Nat) (v:Int):(cI l).set j (.int .i64 v)=cI (l.set j v):=by unfold cI;rw[List.map_set]
theorem CM (l:List Bool) (j:Nat) (v:Bool):(cB l).set j (.bool v)=cB (l.set j v):=by unfold cB;rw[List.map_set]
theorem A8 {l:List Int} {j:Nat} {v:Int} (h:l[j]?=some v):(cI l).drop j=.int .i64 v::(cI l).drop (j+1):=by
 obtain ⟨hj,e⟩:=List.getElem?_eq_some_iff.1 h
 rw[List.drop_eq_getElem_cons (by rw[aQ];exact hj)]
 unfold cI
 rw[List.getElem_map,e]
theorem A9 {l:List Bool} {j:Nat} {v:Bool} (h:l[j]?=some v):(cB l).drop j=.bool v::(cB l).drop (j+1):=by
 obtain ⟨hj,e⟩:=List.getElem?_eq_some_iff.1 h
 rw[List.drop_eq_getElem_cons (by rw[aS];exact hj)]
 unfold cB
 rw[List.getElem_map,e]
theorem CN (n:Nat) (v:Int):List.replicate n (AV.int .i64 v)=cI (List.replicate n v):=by simp[cI]
theorem CO (n:Nat) (v:Bool):List.replicate n (AV.bool v)=cB (List.replicate n v):=by simp[cB]
theorem wl (I:G) (l:List Int):RepL I (cI l) (l.map (Value.int .i64)):=by
 unfold cI
 induction l with
 |nil=>rfl
 |cons x l ih=>exact ⟨_,_,rfl,rfl,ih⟩
theorem Cp {I:G}:∀{l:List Int} {vs:List Value},RepL I (cI l) vs→vs=l.map (Value.int .i64)
 |[],_,h=>h
 |x::l,_,⟨v,us,e,h1,h2⟩=>by
  have h1:v=.int .i64 x:=h1
  rw[e,h1,Cp h2];rfl
section
variable {E:World} {P:Program} {ops:Array Oper} {K:aM→OL→Prop} {env:aM} {O O' O'':OL} {rest:List Oper} {n:Nat}
variable {d ty:Nat} {pos:String} {af:Array Edge} {x y z:Operand} {t u e:TypeId}
theorem Gv.idxI {i n j:Nat} {a:Int} {T:TypeId} {cs:List AV} (ht:P.underlying t=some (.slice e)) (hs:∀w,(sizeOf e).run P w=.ok 1 w) (hx:aP env x=.own i n) (hy:aP env y=.int .i64 a) (hi:a=(j:Int)) (hO:m3 O i (.grow 1 T cs)) (hn:cs.length=n) (hj:j<n) :
  Gv P env O (Oper.mk (some d) (.indexAddr t x y) ty pos af none) (.po i j):=
 Gv.idxOL ht hs hx hy hi hO (fun e=>by rw[e] at hn;simp at hn;omega) hj (Nat.mul_one j)
theorem Gv.loadI {i j:Nat} {T:TypeId} {l:List Int} {v:Int} (ha:∀w,(isAgg t).run P w=.ok false w) (hx:aP env x=.po i j) (hO:m3 O i (.grow 1 T (cI l))) (hv:l[j]?=some v) :
  Gv P env O (Oper.mk (some d) (.load t x) ty pos af none) (.int .i64 v):=Gv.load1G ha hx hO (A8 hv)
theorem Gv.loadB {i j:Nat} {T:TypeId} {l:List Bool} {v:Bool} (ha:∀w,(isAgg t).run P w=.ok false w) (hx:aP env x=.po i j) (hO:m3 O i (.grow 1 T (cB l))) (hv:l[j]?=some v) :
  Gv P env O (Oper.mk (some d) (.load t x) ty pos af none) (.bool v):=Gv.load1G ha hx hO (A9 hv)
theorem fm.cast {i k:Nat} {T:TypeId} {o:bu} {cs ds:List AV} (h:fm O i o (.grow k T cs) O') (e:cs=ds):fm O i o (.grow k T ds) O':=e▸h
theorem ax.storeI {i j:Nat} {T:TypeId} {l:List Int} {v:Int} (hs:∀w,(sizeOf t).run P w=.ok 1 w) (hx:aP env x=.po i j) (hy:aP env y=.int .i64 v) (hO:fm O i (.grow 1 T (cI l)) (.grow 1 T (cI (l.set j v))) O') (hb:j<l.length)
  (kk:ax P E ops K rest env O'):ax P E ops K (Oper.mk none (.store t x y) ty pos af none::rest) env O:=
 ax.storeG1 (cs:=cI l) hs hx hy rfl rfl rfl (hO.cast (CL l j v).symm) (by rw[aQ];exact hb) kk
theorem ax.storeB {i j:Nat} {T:TypeId} {l:List Bool} {v:Bool} (hs:∀w,(sizeOf t).run P w=.ok 1 w) (hx:aP env x=.po i j) (hy:aP env y=.bool v) (hO:fm O i (.grow 1 T (cB l)) (.grow 1 T (cB (l.set j v))) O') (hb:j<l.length)
  (kk:ax P E ops K rest env O'):ax P E ops K (Oper.mk none (.store t x y) ty pos af none::rest) env O:=
 ax.storeG1 (cs:=cB l) hs hx hy rfl rfl rfl (hO.cast (CM l j v).symm) (by rw[aS];exact hb) kk
theorem ax.makeI {i:TypeInfo} {zv:Value} {m:Nat} {k1 k2:IntKind} {l l':Int} (ht:P.underlying t=some (.slice e)) (hi:P.info? e=some i) (hz:i.zero=some zv) (hzc:zv.cells=#[.int .i64 0]) (hk:i.size=1) (hx:aP env x=.int k1 l) (hy:aP env y=.int k2 l')
  (hl:l=(m:Int)) (hl':l'=(m:Int)) (hb:(i.bytes:Int)*(m:Int)≤281474976710656) (hm:m≤281474976710656) (kk:∀j,ax P E ops K rest (bi env d (.own j m)) ((j,.grow 1 e (cI (List.replicate m 0)))::O)) :
  ax P E ops K (Oper.mk (some d) (.makeSlice t x y) ty pos af none::rest) env O:=
 ax.make1 ht hi hz hzc hk hx hy hl hl' hb hm rfl fun j=>by rw[show lit (.int .i64 0)=AV.int .i64 0 from rfl,CN];exact kk j
theorem ax.makeB {i:TypeInfo} {zv:Value} {m:Nat} {k1 k2:IntKind} {l l':Int} (ht:P.underlying t=some (.slice e)) (hi:P.info? e=some i) (hz:i.zero=some zv) (hzc:zv.cells=#[.bool false]) (hk:i.size=1) (hx:aP env x=.int k1 l) (hy:aP env y=.int k2 l')
  (hl:l=(m:Int)) (hl':l'=(m:Int)) (hb:(i.bytes:Int)*(m:Int)≤281474976710656) (hm:m≤281474976710656) (kk:∀j,ax P E ops K rest (bi env d (.own j m)) ((j,.grow 1 e (cB (List.replicate m false)))::O)) :
  ax P E ops K (Oper.mk (some d) (.makeSlice t x y) ty pos af none::rest) env O:=
 ax.make1 ht hi hz hzc hk hx hy hl hl' hb hm rfl fun j=>by rw[show lit (.bool false)=AV.bool false from rfl,CO];exact kk j
theorem aX.knowI {t i m:Nat} {T:TypeId} {l:List Int} (hv:env t=.own i m) (hO:cY O i (.grow 1 T (cI l)) O') (hm:l.length=m):aX E env O (bi env t (.fro 1 (l.map fun x=>[.int .i64 x]))) O':=
 aX.know hv (by rw[qF];exact hO) (fun r hr=>by obtain ⟨_,_,rfl⟩:=List.mem_map.1 hr;rfl) (by decide) (by rw[qp];exact hm)
theorem aX.knowB {t i m:Nat} {T:TypeId} {l:List Bool} (hv:env t=.own i m) (hO:cY O i (.grow 1 T (cB l)) O') (hm:l.length=m):aX E env O (bi env t (.fro 1 (l.map fun x=>[.bool x]))) O':=
 aX.know hv (by rw[A7];exact hO) (fun r hr=>by obtain ⟨_,_,rfl⟩:=List.mem_map.1 hr;rfl) (by decide) (by rw[qp];exact hm)
end
structure fp (α:Type) where
 k:Nat
 val:α→List Value
 pos:0<k
 len:∀x,(val x).length=k
 one:∀x,∀u∈val x,u.oneCell'=true
variable {α:Type}
def fp.vs (c:fp α) (l:List α):List Value:=l.flatMap c.val
def fp.row (c:fp α) (x:α):List AV:=(c.val x).map lit
def fp.av (c:fp α) (l:List α):List AV:=l.flatMap c.row
theorem fp.vs_len (c:fp α) (l:List α):(c.vs l).length=l.length*c.k:=by
 unfold fp.vs
 induction l with
 |nil=>simp
 |cons x l ih=>rw[List.flatMap_cons,qo,ih,c.len,List.length_cons,Nat.add_mul];omega
theorem fp.av_eq (c:fp α) (l:List α):c.av l=(c.vs l).map lit:=by
 unfold fp.av fp.vs
 induction l with
 |nil=>rfl
 |cons x l ih=>rw[List.flatMap_cons,List.flatMap_cons,qt,ih];rfl
theorem fp.av_len (c:fp α) (l:List α):(c.av l).length=l.length*c.k:=by rw[c.av_eq,qp,c.vs_len]
theorem fp.av_app (c:fp α) (l m:List α):c.av l++c.av m=c.av (l++m):=by unfold fp.av;rw[List.flatMap_append]
theorem fp.av_push (c:fp α) (l:List α) (x:α):c.av l++c.row x=c.av (l++[x]):=by rw[←c.av_app];unfold fp.av;simp
theorem fp.vs_one (c:fp α) (l:List α):∀u∈c.vs l,u.oneCell'=true:=by
 intro u hu
 unfold fp.vs at hu
 obtain ⟨x,_,hx⟩:=List.mem_flatMap.1 hu
 exact c.one x u hx
theorem fp.av_un (c:fp α) {I:G} {l:List α} {vs:List Value} (h:RepL I (c.av l) vs):vs=c.vs l:=by rw[c.av_eq] at h;exact jX h
def eI:fp Int:=⟨1,fun x=>[.int .i64 x],by decide,fun _=>rfl,fun x u hu=>by simp at hu;subst hu;rfl⟩
def eP:fp (Int × Int):=⟨2,fun p=>[.int .i64 p.1,.int .i64 p.2],by decide,fun _=>rfl,fun x u hu=>by simp at hu;rcases hu with rfl|rfl<;>rfl⟩
theorem xR (l:List Int):eI.av l=cI l:=by
 unfold fp.av cI
 induction l with
 |nil=>rfl
 |cons x l ih=>rw[List.flatMap_cons,ih];rfl
inductive eA (c:fp α) (e:TypeId):List (List α)→List Value→List (Nat × Obj)→Prop
 |nil:eA c e [] [] []
 |cons {r rs a n cap hs A B}:fh c.k e a n cap (c.vs r) A→eA c e rs hs B→eA c e (r::rs) (.slice a n cap::hs) (A++B)
theorem eA.len {c:fp α} {e:TypeId} {rows:List (List α)} {hs:List Value} {L:List (Nat × Obj)} (h:eA c e rows hs L):hs.length=rows.length:=by
 induction h with
 |nil=>rfl
 |cons _ _ ih=>simp[ih]
def Cq (c:fp α) (e:TypeId) (rows:List (List α)) (j:Nat) (hs:List Value) (B:List (Nat × Obj)):Prop:=
 ∀r' a' n' c' A',fh c.k e a' n' c' (c.vs r') A'→∃L',eA c e (rows.set j r') (hs.set j (.slice a' n' c')) L'∧L'.Perm (A'++B)
theorem eA.get {c:fp α} {e:TypeId} {rows:List (List α)} {hs:List Value} {L:List (Nat × Obj)} (h:eA c e rows hs L):∀{j:Nat} {r:List α},rows[j]?=some r →
  ∃a n cap A B,hs[j]?=some (.slice a n cap)∧fh c.k e a n cap (c.vs r) A∧L.Perm (A++B)∧Cq c e rows j hs B:=by
 induction h with
 |nil=>intro j r hj;simp at hj
 |@cons r0 rs a n cap hs A B h1 h2 ih=>
  intro j r hj
  cases j with
  |zero=>
   simp at hj;subst hj
   exact ⟨a,n,cap,A,B,rfl,h1,.refl _,fun r' a' n' c' A' h=>⟨A'++B,.cons h h2,.refl _⟩⟩
  |succ j=>
   obtain ⟨a1,n1,c1,A1,B1,g1,g2,g3,g4⟩:=ih (j:=j) (r:=r) (by simpa using hj)
   refine ⟨a1,n1,c1,A1,A++B1,by simpa using g1,g2,?_,fun r' a' n' c' A' h=>?_⟩
   ·refine (g3.append_left A).trans ?_
    rw[←qk,←qk]
    exact List.perm_append_comm.append_right B1
   ·obtain ⟨L',k1,k2⟩:=g4 r' a' n' c' A' h
    refine ⟨A++L',by simpa using eA.cons h1 k1,?_⟩
    refine (k2.append_left A).trans ?_
    rw[←qk,←qk]
    exact List.perm_append_comm.append_right B1
theorem eA.rep (c:fp α) (e:TypeId):∀m:Nat,eA c e (List.replicate m []) (List.replicate m (.slice none 0 0)) []
 |0=>.nil
 |m+1=>by
  have:=eA.cons (c:=c) (r:=[]) (fh.nil c.k e) (eA.rep c e m)
  simpa [List.replicate_succ] using this
def cP (c:fp α) (T e:TypeId) (b:Nat) (rows:List (List α)):bu:=.heap fun L=>∃hs B,L=(b,.cells hs.toArray T (0,0))::B∧eA c e rows hs B
def vj (c:fp α) (T e:TypeId) (b:Nat) (rows:List (List α)) (j n i:Nat):bu:=.heapG (fun I L=>∃hs B hd,L=(b,.cells hs.toArray T (0,0))::B∧I.h i=some hd∧hs[j]?=some (.slice (adr hd.1) n hd.2)∧hs.length=rows.length∧Cq c e rows j hs B)
 (fun I J L h hp=>by obtain ⟨hs,B,hd,h1,h2,h3⟩:=hp;exact ⟨hs,B,hd,h1,h.h _ _ h2,h3⟩)
def dM (b n:Nat):AV:=.raw (.slice (some ⟨b,0,none⟩) n n)
def Ba (b j:Nat):AV:=.raw (.pointer (some ⟨b,j,none⟩))
theorem fh.adr {k:Nat} {e:TypeId} {a:Option Addr} {n c:Nat} {cs:List Value} {A:List (Nat × Obj)} (h:fh k e a n c cs A):∃b,a=Go.Proofs.YtdilpodccjlkgaaGreatDoor.adr b:=by
 rcases h.2.2 with ⟨e,_⟩|⟨b,junk,e,_⟩
 ·exact ⟨none,e⟩
 ·exact ⟨some b,e⟩
section
variable {E:World} {P:Program} {ops:Array Oper} {K:aM→OL→Prop} {env:aM} {O O' O'':OL} {rest:List Oper} {n:Nat}
variable {d ty:Nat} {pos:String} {af:Array Edge} {x y z:Operand} {t u e T:TypeId}
theorem ax.makeNest {i:TypeInfo} {zv:Value} {m:Nat} {k1 k2:IntKind} {l l':Int} (ht:P.underlying t=some (.slice T)) (hi:P.info? T=some i) (hz:i.zero=some zv) (hzc:zv.cells=#[.slice none 0 0]) (hk:i.size=1) (hx:aP env x=.int k1 l) (hy:aP env y=.int k2 l')
  (hl:l=(m:Int)) (hl':l'=(m:Int)) (hb:(i.bytes:Int)*(m:Int)≤281474976710656) (hm:m≤281474976710656) (c:fp α) (e:TypeId) (kk:∀b,ax P E ops K rest (bi env d (dM b m)) ((0,cP c T e b (List.replicate m []))::O)) :
  ax P E ops K (Oper.mk (some d) (.makeSlice t x y) ty pos af none::rest) env O:=fun I F ρ w h1 h2=>by
 obtain ⟨htop,L,hL,hS⟩:=h2
 refine bJ.make1 ht hi hz hzc hk (fo h1 hx) (fo h1 hy) hl hl' hb hm hS fun b w' hS'=>?_
 exact kk b I F _ _ (h1.upd d rfl) ⟨htop,_,⟨[(b,.cells (List.replicate m (.slice none 0 0)).toArray T (0,0))],L,rfl,⟨List.replicate m (.slice none 0 0),[],rfl,eA.rep c e m⟩,hL⟩,by simpa using hS'⟩
theorem Gv.idxN {b m j:Nat} {a:Int} (ht:P.underlying t=some (.slice T)) (hs:∀w,(sizeOf T).run P w=.ok 1 w) (hx:aP env x=dM b m) (hy:aP env y=.int .i64 a) (hi:a=(j:Int)) (hj:j<m) :
  Gv P env O (Oper.mk (some d) (.indexAddr t x y) ty pos af none) (Ba b j):=Gv.ofEv fun I ρ h=>by
 have h1:=eQ h hx
 have h2:=fo h hy
 subst hi
 have hlt:((j:Int)<(m:Int)):=by omega
 refine ⟨_,Z,fun w=>?_⟩
 simp[execOp,h1,h2,Instr.indexAt,Sem.run_bind,run_underlying ht,hs,hlt,cV,asIntOf]
 intro h;omega
theorem Gv.lenN {b m:Nat} (ht:P.underlying t=some (.slice T)) (hx:aP env x=dM b m):Gv P env O (Oper.mk (some d) (.call { callee:=.builtin .len,args:=#[x],argTypes:=#[t] }) ty pos af none) (.int .i64 m):=Gv.ofEv fun I ρ h=>by
 have h1:=eQ h hx
 exact ⟨_,rfl,fun w=>by simp[execOp,resolve,h1,invoke,builtin,Builtin.len_,run_underlying ht,goInt]⟩
theorem ax.nestTake {c:fp α} {b j m:Nat} {rows:List (List α)} {r:List α} {f:Nat→OL} (ha:∀w,(isAgg t).run P w=.ok false w) (hx:aP env x=Ba b j) (hr:rows[j]?=some r)
  (hO:∀i,fm O m (cP c T e b rows) (vj c T e b rows j r.length i) (f i)) (kk:∀i,ax P E ops K rest (bi env d (.own i r.length)) ((i,.grow c.k e (c.av r))::f i)) :
  ax P E ops K (Oper.mk (some d) (.load t x) ty pos af none::rest) env O:=fun I F ρ w h1 h2=>by
 obtain ⟨i,hi⟩:=h2.name
 obtain ⟨htop,L,hL,hS⟩:=h2
 have hx:=eQ h1 hx
 obtain ⟨A,B,hp,⟨hs,B0,rfl,hN⟩,hback⟩:=(hO i).rep hL
 obtain ⟨a,n,cap,A1,B1,g1,g2,g3,g4⟩:=hN.get hr
 obtain ⟨b1,rfl⟩:=g2.adr
 have hn:n=r.length:=by have:=g2.1;rw[c.vs_len] at this;exact (Nat.eq_of_mul_eq_mul_right c.pos this).symm
 subst hn
 obtain ⟨J,e1,hle,e2,htop'⟩:=hi (b1,cap)
 have hS2:SL I.k ((b,.cells hs.toArray T (0,0))::(B0++(B++F))) E w:=hS.perm (by
  have:=hp.append_right F
  simpa using this.symm)
 obtain ⟨L',h5,h6⟩:=hback hle (A':=(b,.cells hs.toArray T (0,0))::B1) ⟨hs,B1,(b1,cap),rfl,e2,g1,hN.len,g4⟩
 refine bJ.load1 (I:=I.k) (O:=(b,.cells hs.toArray T (0,0))::(B0++(B++F))) ha hS2 hx (.inr ⟨_,_,_,.head _,by rw[List.getElem?_toArray];exact g1⟩) ?_
 refine yy (fun _ _=>q2 hle) _ _ _ (kk i J F _ _ ((h1.mono hle).upd d ⟨b1,cap,e2,Z⟩) ⟨htop',A1++L',⟨A1,L',Z,⟨b1,cap,_,c.vs r,e2,by rw[c.av_eq];exact d5 J _,c.vs_one r,g2⟩,h5⟩,?_⟩)
 rw[e1]
 refine hS2.perm<|List.Perm.trans ?_ (List.Perm.cons _ ((g3.append_right (B++F)).symm))
 have h7:(A1++L'++F).Perm (A1++((b,Obj.cells hs.toArray T (0,0))::(B1++B))++F):=(h6.append_left A1).append_right F
 refine h7.trans ?_
 simp only[qk,List.cons_append]
 exact List.perm_middle
theorem ax.nestPut {c:fp α} {b j m i i0 n0 n1 k:Nat} {rows:List (List α)} {r:List α} {cs:List AV} (hs1:∀w,(sizeOf t).run P w=.ok 1 w) (hx:aP env x=Ba b j) (hy:aP env y=.own i n1) (hj:j<rows.length)
  (hP0:cY O i (.grow k e cs) O') (hO:fm O' m (vj c T e b rows j n0 i0) (cP c T e b (rows.set j r)) O'') (hk:k=c.k) (hcs:cs=c.av r) (hn1:r.length=n1) (kk:ax P E ops K rest env O'') :
  ax P E ops K (Oper.mk none (.store t x y) ty pos af none::rest) env O:=fun I F ρ w h1 h2=>by
 obtain ⟨htop,L,hL,hS⟩:=h2
 have hP:cY O i (.grow c.k e (c.av r)) O':=by subst hk hcs;exact hP0
 have hx:=eQ h1 hx
 have h3:=h1.ev y
 rw[hy] at h3
 obtain ⟨b1,c1,e1,ey⟩:=h3
 obtain ⟨A,B,hp,⟨b1',c1',n',vs,e2,hvs,hvc,hown⟩,hB⟩:=hP.rep hL
 simp only at e2
 rw[e1] at e2
 simp only[Option.some.injEq,Prod.mk.injEq] at e2
 obtain ⟨rfl,rfl⟩:=e2
 have hv:=c.av_un hvs
 subst hv
 have hnn:n'=n1:=by have:=hown.1;rw[c.vs_len,hn1] at this;exact (Nat.eq_of_mul_eq_mul_right c.pos this).symm
 subst hnn
 obtain ⟨A2,B2,hp2,⟨hs,B0,hd,rfl,_,hsj,hsl,hole⟩,hback⟩:=hO.rep hB
 obtain ⟨L',k1,k2⟩:=hole r _ _ _ A hown
 have hS2:SL I.k ([(b,.cells hs.toArray T (0,0))]++(A++(B0++(B2++F)))) E w:=hS.perm (by
  refine List.Perm.trans ?_ ((hp.append_right F).symm)
  refine List.Perm.trans ?_ (((hp2.append_left A).append_right F).symm)
  simp only[qk,List.cons_append,List.nil_append]
  exact (List.perm_middle).symm)
 refine bJ.store1 (cs:=hs) (off:=j) hs1 hx ey Z (by rw[hsl];exact hj) hS2 fun w' hS'=>?_
 obtain ⟨L2,h7,h8⟩:=hback (qb I) (A':=(b,.cells (hs.set j (.slice (adr b1) n' c1)).toArray T (0,0))::L') ⟨_,L',rfl,k1⟩
 refine kk I F _ _ h1 ⟨htop,L2,h7,hS'.perm ?_⟩
 refine (h8.append_right F).trans ?_
 simp only[List.cons_append,List.nil_append,qk]
 refine List.Perm.cons _ ?_
 have:=k2.append_right (B2++F)
 simpa [qk] using this
theorem aX.nestBack {c:fp α} {b j m i:Nat} {rows:List (List α)} {r:List α} (hP:cY O i (.grow c.k e (c.av r)) O') (hO:fm O' m (vj c T e b rows j r.length i) (cP c T e b (rows.set j r)) O''):aX E env O env O'':=fun I F ρ w h1 h2=>by
 obtain ⟨htop,L,hL,hS⟩:=h2
 obtain ⟨A,B,hp,⟨b1,c1,n',vs,e2,hvs,hvc,hown⟩,hB⟩:=hP.rep hL
 have hv:=c.av_un hvs
 subst hv
 have hnn:n'=r.length:=by have:=hown.1;rw[c.vs_len] at this;exact (Nat.eq_of_mul_eq_mul_right c.pos this).symm
 subst hnn
 obtain ⟨A2,B2,hp2,⟨hs,B0,hd,rfl,e3,hsj,hsl,hole⟩,hback⟩:=hO.rep hB
 simp only at e2
 rw[e2] at e3
 simp only[Option.some.injEq] at e3
 subst e3
 obtain ⟨L',k1,k2⟩:=hole r _ _ _ A hown
 have hsame:hs.set j (.slice (adr b1) r.length c1)=hs:=by
  obtain ⟨h9,h10⟩:=List.getElem?_eq_some_iff.1 hsj
  refine List.ext_getElem? fun k=>?_
  by_cases ek:k=j
  ·subst ek;rw[List.getElem?_set_self h9,hsj]
  ·rw[List.getElem?_set_ne (fun e=>ek e.symm)]
 rw[hsame] at k1
 obtain ⟨L2,h7,h8⟩:=hback (qb I) (A':=(b,.cells hs.toArray T (0,0))::L') ⟨_,L',rfl,k1⟩
 refine ⟨I,.refl _,h1,htop,L2,h7,hS.perm ?_⟩
 refine (h8.append_right F).trans<|List.Perm.trans ?_ ((hp.append_right F).symm)
 refine List.Perm.trans ?_ (((hp2.append_left A).append_right F).symm)
 simp only[qk,List.cons_append,List.nil_append]
 refine List.Perm.trans ?_ (List.perm_middle).symm
 refine List.Perm.cons _ ?_
 have:=k2.append_right (B2++F)
 simpa [qk] using this
theorem SL.freezeAllN:∀{A:List (Nat × Obj)} {I:bp} {F:List (Nat × Obj)} {E w:World},SL I (A++F) E w→∃J,I.le J∧SL J F E w∧∀x∈A,J x.1=some x.2
 |[],I,F,E,w,h=>⟨I,.refl _,h,fun _ h=>by cases h⟩
 |(b,o)::A,I,F,E,w,h=>by
  obtain ⟨h1,h2⟩:=SL.freeze (show SL I ((b,o)::(A++F)) E w from h)
  obtain ⟨J,h3,h4,h5⟩:=SL.freezeAllN h2
  refine ⟨J,h1.trans h3,h4,fun x hx=>?_⟩
  rcases List.mem_cons.1 hx with rfl|hx
  ·exact h3 _ _ (bp.put_same _ _ _)
  ·exact h5 x hx
theorem fh.fro {c:fp α} {I:G} {e:TypeId} {a:Option Addr} {n cap:Nat} {r:List α} {A:List (Nat × Obj)} (h:fh c.k e a n cap (c.vs r) A) (hI:∀x∈A,I.k x.1=some x.2):bg I (.fro c.k (r.map c.row)) (.slice a n cap):=by
 obtain ⟨h1,h2,h3⟩:=h
 have hn:n=r.length:=by rw[c.vs_len] at h1;exact (Nat.eq_of_mul_eq_mul_right c.pos h1).symm
 subst hn
 rcases h3 with ⟨rfl,rfl,_⟩|⟨b,junk,rfl,rfl,hj⟩
 ·have h0:r=[]:=List.eq_nil_of_length_eq_zero (by omega)
  subst h0
  exact ⟨none,0,0,rfl,rfl,Nat.le_refl _,fun _=>rfl,trivial⟩
 ·have hb:=hI _ (.head _)
  simp only at hb
  have hflat:(r.map c.row).flatten=(c.vs r).map lit:=by rw[←c.av_eq];unfold fp.av;rw[List.flatMap]
  refine ⟨_,_,_,Z,by simp,h2,fun e=>(by cases e),RepR.of_flat hb (r.map c.row) (c.vs r) 0 (fun x hx=>by obtain ⟨y,_,rfl⟩:=List.mem_map.1 hx;unfold fp.row;rw[qp,c.len]) (by rw[hflat];exact d5 I _) fun i u hu=>?_⟩
  rw[Nat.zero_mul,Nat.zero_add,List.getElem?_toArray,List.getElem?_append_left (List.getElem?_eq_some_iff.1 hu).1]
  exact hu
theorem eA.fro {c:fp α} {I:G} {e:TypeId} {rows:List (List α)} {hs:List Value} {B:List (Nat × Obj)} (h:eA c e rows hs B) (hI:∀x∈B,I.k x.1=some x.2):RepL I (rows.map fun r=>.fro c.k (r.map c.row)) hs:=by
 induction h with
 |nil=>rfl
 |cons h1 _ ih=>exact ⟨_,_,rfl,h1.fro fun x hx=>hI x (List.mem_append_left _ hx),ih fun x hx=>hI x (List.mem_append_right _ hx)⟩
def kx (c:fp α) (rows:List (List α)):AV:=.fro 1 (rows.map fun r=>[.fro c.k (r.map c.row)])
theorem px {c:fp α} {I:G} {F:List (Nat × Obj)} {E w:World} {b m:Nat} {rows:List (List α)} (hO:cY O m (cP c T e b rows) O') (h:f8 I O F E w):∃J B,I.le J∧br I O' B∧(∃top,∀i,top≤i→J.h i=none)∧SL J.k (B++F) E w∧bg J (kx c rows) (.slice (some ⟨b,0,none⟩) rows.length rows.length):=by
 obtain ⟨htop,L,hL,hS⟩:=h
 obtain ⟨A,B,hp,⟨hs,B0,rfl,hN⟩,hB⟩:=hO.rep hL
 have hS2:SL I.k (((b,.cells hs.toArray T (0,0))::B0)++(B++F)) E w:=hS.perm (by rw[←qk];exact (hp.append_right F).symm)
 obtain ⟨J,h1,h2,h3⟩:=SL.freezeAllN hS2
 have hle:I.le ⟨J,I.h⟩:=⟨h1,fun _ _ h=>h⟩
 refine ⟨⟨J,I.h⟩,B,hle,hB,htop,h2,?_⟩
 have hb:=h3 _ (.head _)
 simp only at hb
 have hrep:=hN.fro (I:=⟨J,I.h⟩) fun x hx=>h3 x (.tail _ hx)
 refine ⟨_,_,_,Z,by simp,Nat.le_refl _,fun e=>(by cases e),RepR.intro fun j row hj=>?_⟩
 rw[qq] at hj
 obtain ⟨r,hr,rfl⟩:=Option.map_eq_some_iff.1 hj
 obtain ⟨v,hv1,hv2⟩:=hrep.get (j:=j) (x:=.fro c.k (r.map c.row)) (by rw[qq,hr];rfl)
 refine ⟨b,0,[v],Z,Z,RepL.one hv2,fun i u hu=>?_⟩
 cases i with
 |zero=>
  simp at hu;subst hu
  exact ⟨_,_,_,hb,by rw[List.getElem?_toArray,show 0+(0+j)*1+0=j by omega];exact hv1⟩
 |succ i=>simp at hu
theorem aX.nestKnow {c:fp α} {s b m n:Nat} {rows:List (List α)} (hv:env s=dM b n) (hO:cY O m (cP c T e b rows) O') (hn:rows.length=n):aX E env O (bi env s (kx c rows)) O':=fun I F ρ w h1 h2=>by
 obtain ⟨J,B,hle,hB,htop,hS,hrep⟩:=px hO h2
 refine ⟨J,hle,fun q=>?_,htop,B,hB.mono hle,hS⟩
 unfold bi
 cases hb:Nat.beq q s with
 |false=>exact bg.mono hle _ _ (h1 q)
 |true=>
  have:q=s:=Nat.eq_of_beq_eq_true hb
  subst this
  have h4:=h1 q
  rw[hv] at h4
  have h4:ρ q=.slice (some ⟨b,0,none⟩) n n:=h4
  rw[h4,←hn];exact hrep
theorem aX.nestKnowC {c:fp α} {off b m n i:Nat} {T':TypeId} {cs:List AV} {rows:List (List α)} (hO:cY O m (cP c T e b rows) O') (hP:fm O' i (.cells T' cs) (.cells T' (cs.set off (kx c rows))) O'') (hc:cs[off]?=some (dM b n)) (hn:rows.length=n):aX E env O env O'':=fun I F ρ w h1 h2=>by
 obtain ⟨J,B,hle,hB,htop,hS,hrep⟩:=px hO h2
 obtain ⟨L',h5,h6⟩:=fm.same (F:=F) (E:=E) (w:=w) hle (.inr trivial) hP hc (fun v hv=>by
  have hv:v=.slice (some ⟨b,0,none⟩) n n:=hv
  rw[hv,←hn];exact hrep) hB
 exact ⟨J,hle,h1.mono hle,htop,L',h5,hS.perm (h6.symm.append_right F)⟩
end
end Go.Proofs.YtdilpodccjlkgaaGreatDoor
namespace Go.Proofs.YtdilpodccjlkgaaGreatDoor
open Go.Proofs.Tryz
section
variable {E:World} {P:Program} {ops:Array Oper} {K:aM→OL→Prop} {env:aM} {O O' O'':OL} {rest:List Oper} {n:Nat}
variable {d ty:Nat} {pos:String} {af:Array Edge} {x y z:Operand} {t u e:TypeId}
theorem ax.cutTo {i k m j:Nat} {a:Int} {T:TypeId} {cs:List AV} (ht:P.underlying t=some (.slice e)) (hs:∀w,(sizeOf e).run P w=.ok k w) (hx:aP env x=.own i m) (hy:aP env y=.int .i64 a) (hi:a=(j:Int)) (hO:fm O i (.grow k T cs) (.grow k T (cs.take (j*k))) O')
  (hk:0<k) (hj:j*k≤cs.length)
  (kk:ax P E ops K rest (bi env d (.own i j)) O'):ax P E ops K (Oper.mk (some d) (.slice t x none (some y) none) ty pos af none::rest) env O:=fun I F ρ w h1 h2=>by
 obtain ⟨htop,L,hL,hS⟩:=h2
 have h3:=h1.ev x
 rw[hx] at h3
 obtain ⟨b,c,e1,e2⟩:=h3
 have h4:=fo h1 hy
 subst hi
 obtain ⟨A,B,hp,⟨b',c',n',vs,e3,hvs,hvc,h5,h6,h7⟩,hback⟩:=hO.rep hL
 simp only at e3
 rw[e1] at e3
 simp only[Option.some.injEq,Prod.mk.injEq] at e3
 obtain ⟨rfl,rfl⟩:=e3
 have hlen:vs.length=cs.length:=hvs.length
 have hjn:j≤n':=by
  have:j*k≤n'*k:=by omega
  exact Nat.le_of_mul_le_mul_right this hk
 have hjc:j≤c:=by omega
 have hval:(execOp (Go.Proofs.YtdilpodccjlkgaaGreatDoor.ev ρ) (Oper.mk (some d) (.slice t x none (some y) none) ty pos af none)).run P w=.ok (.value (.slice (adr b) j c)) w:=by
  have:(if c=0 then adr b else (adr b).map (·.add (0*k)))=adr b:=by
   split
   ·rfl
   ·cases b<;>simp[adr,Addr.add]
  simp[execOp,Instr.sliceAt,Instr.slice,Instr.sliceBounds,Instr.sliceBound,asIntOf,Sem.run_bind,run_underlying ht,hs,e2,h4,hjc]
  simpa using this
 obtain ⟨L',h8,h9⟩:=hback (qb I) (A':=A) ⟨b,c,j,vs.take (j*k),e1,hvs.take _,fun u hu=>hvc u (List.mem_of_mem_take hu),by rw[List.length_take];omega,by omega,by
  rcases h7 with h7|⟨b2,junk,e4,e5,e6⟩
  ·exact .inl ⟨h7.1,h7.2.1,h7.2.2⟩
  ·exact .inr ⟨b2,vs.drop (j*k)++junk,e4,by rw[←qk,List.take_append_drop];exact e5,by rw[←qk,List.take_append_drop];exact e6⟩⟩
 exact bJ.val hval (kk I F _ w (h1.upd d ⟨b,c,e1,rfl⟩) ⟨htop,L',h8,hS.perm ((h9.trans hp.symm).append_right F)⟩)
theorem ax.cutLast {i k m j:Nat} {a:Int} {T:TypeId} {A row:List AV} (ht:P.underlying t=some (.slice e)) (hs:∀w,(sizeOf e).run P w=.ok k w) (hx:aP env x=.own i m) (hy:aP env y=.int .i64 a) (hi:a=(j:Int)) (hO:fm O i (.grow k T (A++row)) (.grow k T A) O')
  (hk:0<k) (hA:A.length=j*k)
  (kk:ax P E ops K rest (bi env d (.own i j)) O'):ax P E ops K (Oper.mk (some d) (.slice t x none (some y) none) ty pos af none::rest) env O:=
 ax.cutTo ht hs hx hy hi (hO.cast (by rw[←hA,List.take_left])) hk (by rw[qo];omega) kk
end
end Go.Proofs.YtdilpodccjlkgaaGreatDoor
namespace Go.Proofs.YtdilpodccjlkgaaGreatDoor
open Go.Proofs.Tryz
open Go.Sort (Holds putRow putCells onCells)
theorem rT {zs ys:List Int} {junk:List Value} (hl:ys.length=zs.length):putCells (Value.int .i64) 0 ys.toArray (zs.map (Value.int .i64)++junk).toArray=(ys.map (Value.int .i64)++junk).toArray:=by
 unfold putCells
 apply Array.ext_getElem?
 intro k
 simp only[Array.getElem?_mapIdx,List.getElem?_toArray,ql,true_and,Nat.zero_add,Nat.sub_zero,List.size_toArray]
 by_cases hk:k<ys.length
 ·rw[List.getElem?_append_left (by rw[qp];omega),List.getElem?_append_left (by rw[qp];omega),qq,qq,qi hk,qi (by omega:k<zs.length)]
  simp[hk]
 ·rw[List.getElem?_append_right (by rw[qp];omega),List.getElem?_append_right (by rw[qp];omega),qp,qp,hl]
  rw[hl] at hk
  simp only[hk,if_false]
  cases junk[k - zs.length]?<;>rfl
theorem SL.turned {I:bp} {O:List (Nat × Obj)} {E w:World} {b n:Nat} {zs ys:List Int} {junk:List Value} {T:TypeId} {os:Array Obj} (hl:ys.length=zs.length) (h:SL I ((b,.cells (zs.map (Value.int .i64)++junk).toArray T (0,0))::O) E w) :
  SL I ((b,.cells (ys.map (Value.int .i64)++junk).toArray T (0,0))::O) E (Go.Sort.grow (putRow (Value.int .i64) (Go.Sort.ahead w n) b 0 ys.toArray) os):=by
 have hb:=h.own _ (.head _)
 simp only at hb
 have hlt:=di hb
 have h1:SL I ((b,.cells (ys.map (Value.int .i64)++junk).toArray T (0,0))::O) E (putRow (Value.int .i64) (Go.Sort.ahead w n) b 0 ys.toArray):=by
  refine h.turn Z Z Z ?_ fun k hk=>?_
  ·show (w.heap.modify b (onCells (putCells (Value.int .i64) 0 ys.toArray)))[b]?=_
   rw[Array.getElem?_modify,if_pos rfl,hb]
   simp only[Option.map_some,onCells,rT hl]
  ·show (w.heap.modify b (onCells (putCells (Value.int .i64) 0 ys.toArray)))[k]?=_
   rw[Array.getElem?_modify,if_neg (fun e=>hk e.symm)]
 exact h1.more rfl rfl rfl fun k hk=>Go.Sort.heap_grow_old _ _ hk
theorem aU.turned {E:World} {P:Program} {f:FuncId} {fn:Func} {c:Code} {g:List Int→List Int} {B:Nat} (hf:P.funcs[f]?=some fn) (hb:fn.body=some c) (hn:fn.name≠"runtime.NumGoroutine") (hg:∀l,(g l).length=l.length)
  (hC:∀(blk cap:Nat) (zs:List Int) (w:World),Holds (Value.int .i64) w blk 0 zs.toArray→blk<w.heap.size→zs.length<B →
   Calls P f #[.slice (some ⟨blk,0,none⟩) zs.length cap] w fun e w'=>e=.returned (.tuple #[])∧∃n os,w'=Go.Sort.grow (putRow (Value.int .i64) (Go.Sort.ahead w n) blk 0 (g zs).toArray) os)
  (hN:∀(cap:Nat) (w:World),Calls P f #[.slice none 0 cap] w fun e w'=>e=.returned (.tuple #[])∧w'=w)
  {l:List Int} {i n:Nat} {T:TypeId} (hl:l.length=n) (hB:n<B):aU P E f [.own i n] [(i,.grow 1 T (cI l))] fun r O=>r=.tup []∧O=[(i,.grow 1 T (cI (g l)))]:=fun I F w vs h1 h2=>by
 obtain ⟨v,us,rfl,⟨b,c,e1,rfl⟩,h3⟩:=h1
 have h3:us=[]:=h3
 subst h3
 obtain ⟨ht,L,⟨A,B',e2,⟨b',c',n',ws,e3,h4,h5,h6⟩,h7⟩,hS⟩:=h2
 have h7:B'=[]:=h7
 subst h7
 rw[qu] at e2
 subst e2
 simp only at e3
 rw[e1] at e3
 simp only[Option.some.injEq,Prod.mk.injEq] at e3
 obtain ⟨rfl,rfl⟩:=e3
 have h4:=Cp h4
 subst h4
 refine Fn.ofCalls hf hb hn ?_
 obtain ⟨g1,g2,g3⟩:=h6
 rw[qp,Nat.mul_one] at g1
 have hnn:n'=n:=by omega
 subst hnn
 rcases g3 with ⟨ea,rfl,rfl⟩|⟨b2,junk,ea,rfl,hj⟩
 ·have h0:n'=0:=by omega
  subst h0
  have hl0:l=[]:=List.eq_nil_of_length_eq_zero hl
  subst hl0
  have hg0:g []=[]:=List.eq_nil_of_length_eq_zero (hg [])
  rw[ea]
  refine (hN 0 w).mono fun e w' ⟨he,hw⟩=>⟨_,he,I,.tup [],_,.refl _,⟨[],Z,Z⟩,?_,Z,Z⟩
  subst hw
  rw[hg0]
  exact ⟨ht,[],⟨[],[],rfl,⟨b,0,0,[],e1,rfl,by simp,by rw[ea];exact fh.nil 1 T⟩,rfl⟩,hS⟩
 ·rw[ea]
  have hS2:SL I.k ((b2,.cells (l.map (Value.int .i64)++junk).toArray T (0,0))::F) E w:=hS
  have hH:Holds (Value.int .i64) w b2 0 l.toArray:=fun j hjl=>by
   have hj2:j<l.length:=by simpa using hjl
   have hbk:=hS2.own _ (.head _)
   simp only at hbk
   refine ⟨?_,?_⟩
   ·rw[hS2.cell_own,Nat.zero_add,List.getElem?_toArray,List.getElem?_append_left (by rw[qp];exact hj2),qq,qi hj2]
    simp[hj2]
   ·simp[World.frozen?,hbk]
  have:=hC b2 c l w hH (di (hS2.own _ (.head _))) (by omega)
  rw[hl] at this
  refine this.mono fun e w' ⟨he,k,os,hw⟩=>⟨_,he,I,.tup [],_,.refl _,⟨[],Z,Z⟩,?_,Z,Z⟩
  subst hw
  refine ⟨ht,[(b2,.cells ((g l).map (Value.int .i64)++junk).toArray T (0,0))],⟨_,[],by simp,⟨b,c,n',(g l).map (Value.int .i64),e1,wl I (g l),fun u hu=>by obtain ⟨x,_,rfl⟩:=List.mem_map.1 hu;rfl,by rw[qp,hg,hl,Nat.mul_one],g2,.inr ⟨b2,junk,ea,rfl,by rw[qo,qp,hg] ;rw[qo,qp] at hj;exact hj⟩⟩,rfl⟩,?_⟩
  exact SL.turned (hg l) hS2
end Go.Proofs.YtdilpodccjlkgaaGreatDoor
namespace Go.Proofs.YtdilpodccjlkgaaGreatDoor
open Go.Proofs.Tryz
variable {α:Type}
theorem eA.inv {c:fp α} {e:TypeId} {r:List α} {rs:List (List α)} {hs:List Value} {L:List (Nat × Obj)} (h:eA c e (r::rs) hs L) :
  ∃a n cap hs' A B,hs=.slice a n cap::hs'∧L=A++B∧fh c.k e a n cap (c.vs r) A∧eA c e rs hs' B:=by
 cases h with
 |cons h1 h2=>exact ⟨_,_,_,_,_,_,rfl,rfl,h1,h2⟩
def vk (c:fp α) (T e:TypeId) (b:Nat) (rows:List (List α)) (k:Nat):bu:=.heap fun L=>∃(hs:List Value) (B:List (Nat × Obj)),L=(b,.cells hs.toArray T (0,0))::B∧hs.length=rows.length∧eA c e (rows.drop k) (hs.drop k) B
section
variable {E:World} {P:Program} {ops:Array Oper} {K:aM→OL→Prop} {env:aM} {O O' O'':OL} {rest:List Oper} {n:Nat}
variable {d ty:Nat} {pos:String} {af:Array Edge} {x y z:Operand} {t u e T:TypeId}
theorem aX.nestTail {c:fp α} {b m:Nat} {rows:List (List α)} (hO:fm O m (cP c T e b rows) (vk c T e b rows 0) O'):aX E env O env O':=fun I F ρ w h1 h2=>by
 obtain ⟨htop,L,hL,hS⟩:=h2
 obtain ⟨A,B,hp,⟨hs,B0,rfl,hN⟩,hback⟩:=hO.rep hL
 obtain ⟨L',h5,h6⟩:=hback (qb I) (A':=(b,.cells hs.toArray T (0,0))::B0) ⟨hs,B0,rfl,hN.len,hN⟩
 exact ⟨I,.refl _,h1,htop,L',h5,hS.perm ((h6.trans hp.symm).append_right F)⟩
theorem ax.nestShift {c:fp α} {b k m:Nat} {rows:List (List α)} {r:List α} (ha:∀w,(isAgg t).run P w=.ok false w) (hx:aP env x=Ba b k) (hr:rows[k]?=some r)
  (hO:fm O m (vk c T e b rows k) (vk c T e b rows (k+1)) O') (kk:∀i,ax P E ops K rest (bi env d (.own i r.length)) ((i,.grow c.k e (c.av r))::O')) :
  ax P E ops K (Oper.mk (some d) (.load t x) ty pos af none::rest) env O:=fun I F ρ w h1 h2=>by
 obtain ⟨i,hi⟩:=h2.name
 obtain ⟨htop,L,hL,hS⟩:=h2
 have hx:=eQ h1 hx
 obtain ⟨A,B,hp,⟨hs,B0,rfl,hl,hN⟩,hback⟩:=hO.rep hL
 obtain ⟨hlt,hrk⟩:=List.getElem?_eq_some_iff.1 hr
 rw[List.drop_eq_getElem_cons hlt,hrk] at hN
 obtain ⟨a,n,cap,hs',A1,B1,g0,rfl,g2,g3⟩:=hN.inv
 have hlt2:k<hs.length:=by omega
 have g0':=g0
 rw[List.drop_eq_getElem_cons hlt2] at g0'
 simp only[List.cons.injEq] at g0'
 obtain ⟨g1,rfl⟩:=g0'
 have g1:hs[k]?=some (.slice a n cap):=by rw[qi hlt2,g1]
 obtain ⟨b1,rfl⟩:=g2.adr
 have hn:n=r.length:=by have:=g2.1;rw[c.vs_len] at this;exact (Nat.eq_of_mul_eq_mul_right c.pos this).symm
 subst hn
 obtain ⟨J,e1,hle,e2,htop'⟩:=hi (b1,cap)
 have hS2:SL I.k ((b,.cells hs.toArray T (0,0))::(A1++B1++(B++F))) E w:=hS.perm (by
  have:=hp.append_right F
  simpa using this.symm)
 obtain ⟨L',h5,h6⟩:=hback hle (A':=(b,.cells hs.toArray T (0,0))::B1) ⟨hs,B1,rfl,hl,g3⟩
 refine bJ.load1 (I:=I.k) (O:=(b,.cells hs.toArray T (0,0))::(A1++B1++(B++F))) ha hS2 hx (.inr ⟨_,_,_,.head _,by rw[List.getElem?_toArray];exact g1⟩) ?_
 refine yy (fun _ _=>q2 hle) _ _ _ (kk i J F _ _ ((h1.mono hle).upd d ⟨b1,cap,e2,Z⟩) ⟨htop',A1++L',⟨A1,L',Z,⟨b1,cap,_,c.vs r,e2,by rw[c.av_eq];exact d5 J _,c.vs_one r,g2⟩,h5⟩,?_⟩)
 rw[e1]
 refine hS2.perm ?_
 have h7:(A1++L'++F).Perm (A1++((b,Obj.cells hs.toArray T (0,0))::(B1++B))++F):=(h6.append_left A1).append_right F
 refine h7.trans ?_
 simp only[qk,List.cons_append]
 exact List.perm_middle
end
end Go.Proofs.YtdilpodccjlkgaaGreatDoor
namespace Go.Proofs.YtdilpodccjlkgaaGreatDoor
open Go.Proofs.Tryz
variable {α:Type}
def kv (k:Int):Value:=.int .i64 k
theorem nq (k:Int):MapKept.IsKey (.int .i64) (kv k):=rfl
theorem xS (k k':Int):Instr.sameNow (.int .i64) (kv k) (kv k')=some (decide (k=k')):=by
 simp[Instr.sameNow,kv];by_cases h:k=k'<;>simp[h]
def fM (arr:Array MapEntry):List (Value × Value):=arr.toList.map fun e=>(e.key,e.val)
section
variable {E:World} {P:Program} {ops:Array Oper} {K:aM→OL→Prop} {env:aM} {O O' O'':OL} {rest:List Oper} {n:Nat}
variable {d ty:Nat} {pos:String} {af:Array Edge} {x y z:Operand} {t u e T kt:TypeId} {b:Nat}
end
end Go.Proofs.YtdilpodccjlkgaaGreatDoor
namespace Go.Proofs.YtdilpodccjlkgaaGreatDoor
open Go.Proofs.Tryz
abbrev e7:=Int × Int
def Cr:Int:=-9223372036854775808
def Cs:Int:=9223372036854775807
def dG (x:Int):Prop:=-9223372036854775808≤x∧x≤9223372036854775807
instance (x:Int):Decidable (dG x):=by unfold dG;infer_instance
def lk (r:e7):Prop:=dG r.1∧dG r.2
def AQ:e7:=(1,0)
def rU (lo hi:Int):e7:=if hi<lo then AQ else (lo,hi)
def xT (a b:Int):Int:=if b<a then b else a
def xU (a b:Int):Int:=if a<b then b else a
def fN (a b:e7):e7:=if a.2<a.1 then rU b.1 b.2 else if b.2<b.1 then a else (xT a.1 b.1,xU a.2 b.2)
def AR (k:Nat) (x y:Int):Int:=if k=0 then x+y else if k=1 then x - y else x*y
def e8 (k:Nat) (x y:Int):Prop:=dG (AR k x y)
instance (k:Nat) (x y:Int):Decidable (e8 k x y):=by unfold e8;infer_instance
def ns (k:Nat) (x y:Int):Int:=if (if k=2 then decide (x<0) != decide (y<0) else decide (x<0)) then Cr else Cs
def qH (k:Nat) (x y:Int):Int:=if e8 k x y then AR k x y else ns k x y
def vl (n:Int):e7:=(n,n)
def Ct (k:Nat) (a b:e7):e7:=fN (fN (fN (fN AQ (vl (qH k a.1 b.1))) (vl (qH k a.1 b.2))) (vl (qH k a.2 b.1))) (vl (qH k a.2 b.2))
def kB (k:Nat) (a b:e7):Prop:=e8 k a.1 b.1∧e8 k a.1 b.2∧e8 k a.2 b.1∧e8 k a.2 b.2
instance (k:Nat) (a b:e7):Decidable (kB k a b):=by unfold kB;infer_instance
def rV (a b:Int):e7:=if b<a then (b,a) else (a,b)
def xV (a b:e7):e7:=(if b.1<a.1 then b.1 else a.1,if a.2<b.2 then b.2 else a.2)
def Cu (k:Nat) (a b:e7):e7:=xV (rV (qH k a.1 b.1) (qH k a.1 b.2)) (rV (qH k a.2 b.1) (qH k a.2 b.2))
theorem tS (p:Int):fN AQ (vl p)=(p,p):=by
 unfold fN vl AQ rU
 rw[if_pos (by decide)]
 rw[if_neg (by dsimp only;omega)]
theorem lQ {lo hi:Int} (h:lo≤hi) (q:Int):fN (lo,hi) (vl q)=(xT lo q,xU hi q)∧xT lo q≤xU hi q:=by
 unfold fN vl
 rw[if_neg (by dsimp only;omega),if_neg (by dsimp only;omega)]
 refine ⟨Z,?_⟩
 unfold xT xU;split<;>split<;>omega
theorem DO (p q r s:Int):fN (fN (fN (fN AQ (vl p)) (vl q)) (vl r)) (vl s)=xV (rV p q) (rV r s):=by
 obtain ⟨e2,h2⟩:=lQ (Int.le_refl p) q
 obtain ⟨e3,h3⟩:=lQ h2 r
 obtain ⟨e4,_⟩:=lQ h3 s
 rw[tS,e2,e3,e4]
 unfold rV xV xT xU
 rw[Prod.ext_iff]
 by_cases c1:q<p<;>by_cases c2:s<r<;>simp only[c1,c2,if_true,if_false]<;>constructor<;>(repeat' split)<;>omega
theorem Bb (k:Nat) (a b:e7):Ct k a b=Cu k a b:=DO _ _ _ _
end Go.Proofs.YtdilpodccjlkgaaGreatDoor
namespace Go.Proofs.YtdilpodccjlkgaaGreatDoor
open Go.Proofs.Tryz
def DP (r s:e7):Prop:=r.2<r.1∨(s.1≤r.1∧r.2≤s.2)
end Go.Proofs.YtdilpodccjlkgaaGreatDoor
namespace Go.Proofs.YtdilpodccjlkgaaGreatDoor
open Go.Proofs.Tryz
end Go.Proofs.YtdilpodccjlkgaaGreatDoor
namespace Go.Proofs.YtdilpodccjlkgaaGreatDoor
open Go.Proofs.Tryz
end Go.Proofs.YtdilpodccjlkgaaGreatDoor
namespace Go.Proofs.YtdilpodccjlkgaaGreatDoor
open Go.Proofs.Tryz
def ra (rs:List e7) (i:Nat):e7:=(rs[i]?).getD (0,0)
end Go.Proofs.YtdilpodccjlkgaaGreatDoor
namespace Go.Proofs.YtdilpodccjlkgaaGreatDoor
open Go.Proofs.Tryz
def mK (h:e7 × Bool) (n:Int) (fits:Bool) (e:Int):e7 × Bool:=(fN h.1 (vl (if fits then n else e)),h.2||!fits)
def h4 (h:e7 × Bool) (a b:e7) (n:Int→Int→Int) (fit:Int→Int→Bool) (e:Int→Int→Int):e7 × Bool:=
 mK (mK (mK (mK h (n a.1 b.1) (fit a.1 b.1) (e a.1 b.1)) (n a.1 b.2) (fit a.1 b.2) (e a.1 b.2)) (n a.2 b.1) (fit a.2 b.1) (e a.2 b.1)) (n a.2 b.2) (fit a.2 b.2) (e a.2 b.2)
instance (k:Nat) (x y:Int):Decidable (e8 k x y):=by unfold e8 dG;infer_instance
instance (k:Nat) (a b:e7):Decidable (kB k a b):=by unfold kB;infer_instance
def vm (k:Nat) (a b:e7):e7 × Bool:=h4 (AQ,false) a b (AR k) (fun x y=>decide (e8 k x y)) (ns k)
theorem rW (k:Nat) (a b:e7):vm k a b=(Cu k a b,!decide (kB k a b)):=by
 rw[←Bb]
 unfold vm h4 mK Ct kB qH
 simp only[Bool.false_or,w1]
 refine Prod.ext Z ?_
 dsimp only
 by_cases h1:e8 k a.1 b.1<;>by_cases h2:e8 k a.1 b.2<;>by_cases h3:e8 k a.2 b.1<;>by_cases h4:e8 k a.2 b.2<;>simp[h1,h2,h3,h4]
end Go.Proofs.YtdilpodccjlkgaaGreatDoor
namespace Go.Proofs.YtdilpodccjlkgaaGreatDoor
open Go.Proofs.Tryz
open Go.Proofs
theorem nt {z:Int} (h:dG z):IntKind.i64.wrap z=z:=by
 unfold dG at h
 unfold IntKind.wrap;simp[IntKind.bits,IntKind.signed];omega
def fO (a:e7) (i:Nat):Int:=if i=0 then a.1 else a.2
theorem xW {a:e7} (h:lk a) (i:Nat):dG (fO a i):=by unfold fO;split;exact h.1;exact h.2
theorem vn {a:e7} {i:Nat} (h:i<2):([AV.int .i64 a.1,AV.int .i64 a.2]:List AV)[i]?=some (.int .i64 (fO a i)):=by
 rcases (by omega:i=0∨i=1) with rfl|rfl<;>rfl
def DQ (n:Int→Int→Int) (fit:Int→Int→Bool) (e:Int→Int→Int) (h0:e7 × Bool) (a b:e7):Nat→e7 × Bool
 |0=>h0
 |m+1=>mK (DQ n fit e h0 a b m) (n (fO a (m / 2)) (fO b (m % 2))) (fit (fO a (m / 2)) (fO b (m % 2))) (e (fO a (m / 2)) (fO b (m % 2)))
theorem xX {n:Int→Int→Int} {fit:Int→Int→Bool} {e:Int→Int→Int} {h0:e7 × Bool} {a b:e7} (i:Nat) {j:Nat} (hj:j<2) :
  DQ n fit e h0 a b (2*i+(j+1))=mK (DQ n fit e h0 a b (2*i+j)) (n (fO a i) (fO b j)) (fit (fO a i) (fO b j)) (e (fO a i) (fO b j)):=by
 rw[←Nat.add_assoc,DQ,show (2*i+j) / 2=i by omega,show (2*i+j) % 2=j by omega]
theorem nu {h:e7 × Bool} {n n':Int} {fits:Bool} {e e':Int} (h1:fits=true→n=n') (h2:e=e'):mK h n fits e=mK h n' fits e':=by
 cases fits
 ·unfold mK;simp[h2]
 ·rw[h1 rfl,h2]
theorem Bc {x y:Int}:decide (e8 0 x y)=true→IntKind.i64.wrap (x+y)=AR 0 x y:=fun h=>nt (qz h)
theorem Bd {x y:Int}:decide (e8 1 x y)=true→IntKind.i64.wrap (x - y)=AR 1 x y:=fun h=>nt (qz h)
theorem xY {x y:Int}:decide (e8 2 x y)=true→IntKind.i64.wrap (x*y)=AR 2 x y:=fun h=>nt (qz h)
theorem EK {x y:Int} (hx:dG x) (hy:dG y):(!(decide (x<0) == decide (y<0))||(decide (IntKind.i64.wrap (x+y)<0) == decide (x<0)))=decide (e8 0 x y):=by
 have hw:IntKind.i64.wrap (x+y)=(if x+y < -9223372036854775808 then x+y+18446744073709551616 else if 9223372036854775807<x+y then x+y - 18446744073709551616 else x+y):=by
  unfold dG at hx hy
  unfold IntKind.wrap;simp[IntKind.bits,IntKind.signed];(repeat' split)<;>omega
 rw[hw,qr,w1]
 show _↔dG (x+y)
 unfold dG at *
 simp only[Bool.or_eq_true,Bool.not_eq_true',beq_eq_false_iff_ne,beq_iff_eq,decide_eq_decide,ne_eq]
 (repeat' split)<;>omega
theorem EL {x y:Int} (hx:dG x) (hy:dG y):((decide (x<0) == decide (y<0))||(decide (IntKind.i64.wrap (x - y)<0) == decide (x<0)))=decide (e8 1 x y):=by
 have hw:IntKind.i64.wrap (x - y)=(if x - y < -9223372036854775808 then x - y+18446744073709551616 else if 9223372036854775807<x - y then x - y - 18446744073709551616 else x - y):=by
  unfold dG at hx hy
  unfold IntKind.wrap;simp[IntKind.bits,IntKind.signed];(repeat' split)<;>omega
 rw[hw,qr,w1]
 show _↔dG (x - y)
 unfold dG at *
 simp only[Bool.or_eq_true,beq_iff_eq,decide_eq_decide]
 (repeat' split)<;>omega
theorem xZ {x:Int} (h:dG x):(if x<0 then IntKind.u64.wrap (0 - IntKind.u64.wrap x) else IntKind.u64.wrap x)=((x.natAbs:Nat):Int):=by
 unfold dG at h
 unfold IntKind.wrap;simp[IntKind.bits,IntKind.signed];split<;>omega
theorem x8 {x:Int} (h:dG x):x.natAbs<18446744073709551616:=by unfold dG at h;omega
theorem EM {x y:Int}:(decide (((x.natAbs*y.natAbs / 18446744073709551616:Nat):Int)=0)&&decide (((x.natAbs*y.natAbs % 18446744073709551616:Nat):Int)≤(if (!(decide (x<0) == decide (y<0)))=true then 9223372036854775808 else 9223372036854775807)))=decide (e8 2 x y):=by
 have hm:=Int.natAbs_mul x y
 rw[qr,w1 (p:=e8 2 x y)]
 show _↔dG (x*y)
 unfold dG
 rw[←hm]
 have hs:(x<0↔y<0)→0≤x*y:=fun h=>by
  by_cases hx:x<0
  ·exact Int.le_of_lt (Int.mul_pos_of_neg_of_neg hx (h.1 hx))
  ·exact Int.mul_nonneg (by omega) (by have:=mt h.2 hx;omega)
 have hd:¬(x<0↔y<0)→x*y≤0:=fun h=>by
  by_cases hx:x<0
  ·have hy:¬y<0:=fun hy=>h ⟨fun _=>hy,fun _=>hx⟩
   exact Int.mul_nonpos_of_nonpos_of_nonneg (by omega) (by omega)
  ·have hy:y<0:=Classical.byContradiction fun hy=>h ⟨fun h=>absurd h hx,fun h=>absurd h hy⟩
   exact Int.mul_nonpos_of_nonneg_of_nonpos (by omega) (by omega)
 generalize x*y=z at *
 simp only[qx,w1,Bool.not_eq_true',beq_eq_false_iff_ne,decide_eq_decide,ne_eq]
 by_cases c:(x<0↔y<0)
 ·have:=hs c
  rw[if_neg (by simp[c])];omega
 ·have:=hd c
  rw[if_pos c];omega
theorem CP (x y:Int):(if decide (x<0)=true then Cr else Cs)=ns 0 x y:=rfl
theorem CQ (x y:Int):(if decide (x<0)=true then Cr else Cs)=ns 1 x y:=rfl
theorem CR (x y:Int):(if (!(decide (x<0) == decide (y<0)))=true then Cr else Cs)=ns 2 x y:=rfl
def lR (r:e7):List AV:=[.int .i64 r.1,.int .i64 r.2]
def wm (h:e7 × Bool):List AV:=[.int .i64 h.1.1,.int .i64 h.1.2,.bool h.2]
end Go.Proofs.YtdilpodccjlkgaaGreatDoor
namespace Go.Proofs.YtdilpodccjlkgaaGreatDoor
open Go.Proofs.Tryz
open Go.Proofs
theorem tT (z:Int):IntKind.i64.wrap z=(z+9223372036854775808) % 18446744073709551616 - 9223372036854775808:=by
 unfold IntKind.wrap;simp[IntKind.bits,IntKind.signed];(try split)<;>omega
end Go.Proofs.YtdilpodccjlkgaaGreatDoor
namespace Go.Proofs.YtdilpodccjlkgaaGreatDoor
open Go.Proofs.Tryz
open Go.Proofs
section
variable {E:World} {P:Program} {ops:Array Oper} {K:aM→OL→Prop} {env:aM} {O O' O'':OL} {rest:List Oper} {n:Nat}
variable {d ty:Nat} {pos:String} {af:Array Edge} {x y z:Operand} {t u e T:TypeId}
end
end Go.Proofs.YtdilpodccjlkgaaGreatDoor
namespace Go.Proofs.YtdilpodccjlkgaaGreatDoor
open Go.Proofs.Tryz
open Go.Proofs
end Go.Proofs.YtdilpodccjlkgaaGreatDoor
namespace Go.Proofs.YtdilpodccjlkgaaGreatDoor
open Go.Proofs.Tryz
open Go.Proofs
theorem CS {I:G} {F:List (Nat × Obj)} {E w:World} {i:Nat} {T:TypeId} {cs:List AV} (h:f8 I [(i,.cells T cs)] F E w) :
  ∃J L,I.le J∧br I [(i,.cells T cs)] L∧SL I.k (L++F) E w∧(∀y∈L,J.k y.1=some y.2)∧f8 J [] F E w∧∀v,bg I (.po i 0) v→bg J (.pf cs) v:=by
 obtain ⟨ht,L,hL,hS⟩:=h
 have hL0:=hL
 obtain ⟨A,B,hp,⟨b,c,vs,e1,hvs,hvc,hA⟩,hB⟩:=hL
 have hB:B=[]:=hB
 simp only at e1
 rw[hB,qu] at hp
 subst hp
 subst hA
 obtain ⟨hl,hS3⟩:=SL.freeze (by simpa using hS:SL I.k ((b,.cells vs.toArray T (0,0))::F) E w)
 let J:G:=⟨I.k.put b (.cells vs.toArray T (0,0)),I.h⟩
 have hle:I.le J:=⟨hl,fun _ _ h=>h⟩
 have hb:J.k b=some (.cells vs.toArray T (0,0)):=bp.put_same _ _ _
 refine ⟨J,_,hle,hL0,hS,fun y hy=>(by rw[List.mem_singleton.1 hy];exact hb),⟨ht,[],Z,by simpa using hS3⟩,?_⟩
 rintro v ⟨b2,c2,e2,rfl⟩
 rw[e1] at e2
 simp only[Option.some.injEq,Prod.mk.injEq] at e2
 obtain ⟨rfl,rfl⟩:=e2
 exact ⟨b,0,vs,rfl,qh hle _ _ hvs,fun j u hj=>⟨_,_,_,hb,by rw[Nat.zero_add,List.getElem?_toArray];exact hj⟩⟩
theorem aU.lendP {P:Program} {E:World} {f:FuncId} {rest:List AV} {x:AV} {i:Nat} {T:TypeId} {cs:List AV} (hx:∀(I J:G) v,bg J x v→bg I x v)
  (h:aI P E f (.pf cs::rest) x):aU P E f (.po i 0::rest) [(i,.cells T cs)] fun y O=>y=x∧O=[(i,.cells T cs)]:=fun I F w vs h1 h2=>by
 obtain ⟨J,L,hle,hL,hS,hf,hJ,hv⟩:=CS h2
 obtain ⟨v1,us,rfl,r1,r2⟩:=h1
 refine (h J F w _ ⟨v1,us,Z,hv v1 r1,qh hle _ _ r2⟩ hJ).mono fun v w' ⟨J2,y,O',a,b,c,d⟩=>?_
 have d:y=x:=d
 subst d
 obtain ⟨_,L',_,hS'⟩:=c
 refine ⟨I,y,_,.refl _,hx I J2 v b,⟨h2.1,L,hL,?_⟩,Z,Z⟩
 refine ⟨hS'.os,hS'.output,hS'.tape,fun b o hb=>hS'.pers b o (a.k b o (hle.k b o hb)),fun z hz=>?_,hS.nodup,hS.apart,hS.base,hS.flat,hS.oflat⟩
 rcases List.mem_append.1 hz with hz|hz
 ·exact hS'.pers _ _ (a.k _ _ (hf z hz))
 ·exact hS'.own z (List.mem_append_right _ hz)
theorem gT {I J:G} {b:Bool} {v:Value} (h:bg J (.bool b) v):bg I (.bool b) v:=h
theorem rX {I J:G} {k:IntKind} {n:Int} {b:Bool} {v:Value} (h:bg J (.tup [.int k n,.bool b]) v):bg I (.tup [.int k n,.bool b]) v:=by
 obtain ⟨vs,rfl,a,_,rfl,h1,b,_,rfl,h2,h3⟩:=h
 exact ⟨_,rfl,a,_,rfl,h1,b,_,rfl,h2,h3⟩
theorem ax.storeGN {E:World} {P:Program} {ops:Array Oper} {K:aM→OL→Prop} {env:aM} {O O':OL} {rest:List Oper} {ty:Nat} {pos:String} {af:Array Edge} {x y:Operand} {t:TypeId} {i off k:Nat} {T:TypeId} {v:AV} {cs new:List AV} (hs:∀w,(sizeOf t).run P w=.ok 1 w) (hx:aP env x=.po i off) (hy:aP env y=v) (hv:v.sto=true) (hl:v.cs=[v]) (hl1:v.cell=true)
  (hO:fm O i (.grow k T cs) (.grow k T new) O') (hb:off<cs.length) (hnew:cs.set off v=new) (kk:ax P E ops K rest env O'):ax P E ops K (Oper.mk none (.store t x y) ty pos af none::rest) env O:=by
 subst hnew;exact ax.storeG1 hs hx hy hv hl hl1 hO hb kk
end Go.Proofs.YtdilpodccjlkgaaGreatDoor
namespace Go.Proofs.YtdilpodccjlkgaaGreatDoor
open Go.Proofs.Tryz
open Go.Proofs
theorem aU.lendAll {P:Program} {E:World} {f:FuncId} {ars ars':List AV} {x:AV} {O:OL}
  (has:∀(I J:G) (L:List (Nat × Obj)),I.le J→br I O L→(∀y∈L,J.k y.1=some y.2)→∀vs,RepL I ars vs→RepL J ars' vs) (hx:∀(I J:G) v,bg J x v→bg I x v)
  (h:aI P E f ars' x):aU P E f ars O fun y O'=>y=x∧O'=O:=fun I F w vs h1 h2=>by
 obtain ⟨ht,L,hL,hS⟩:=id h2
 obtain ⟨K,h3,h4,hf⟩:=SL.freezeAllN hS
 let J:G:=⟨K,I.h⟩
 have hle:I.le J:=⟨h3,fun _ _ h=>h⟩
 refine (h J F w vs (has I J L hle hL hf vs h1) ⟨ht,[],Z,by simpa using h4⟩).mono fun v w' ⟨J2,y,O',a,b,c,d⟩=>?_
 have d:y=x:=d
 subst d
 obtain ⟨_,L',_,hS'⟩:=c
 refine ⟨I,y,_,.refl _,hx I J2 v b,⟨ht,L,hL,?_⟩,Z,Z⟩
 refine ⟨hS'.os,hS'.output,hS'.tape,fun b o hb=>hS'.pers b o (a.k b o (hle.k b o hb)),fun z hz=>?_,hS.nodup,hS.apart,hS.base,hS.flat,hS.oflat⟩
 rcases List.mem_append.1 hz with hz|hz
 ·exact hS'.pers _ _ (a.k _ _ (hf z hz))
 ·exact hS'.own z (List.mem_append_right _ hz)
section
variable {I J:G} {L:List (Nat × Obj)} {O O':OL} {i k m:Nat} {T:TypeId}
theorem py (hL:br I O L) {o:bu} (hp:cY O i o O'):∃A,ld I (i,o) A∧∀y∈A,y∈L:=by
 obtain ⟨A,B,hperm,hA,_⟩:=hp.rep hL
 exact ⟨A,hA,fun y hy=>hperm.mem_iff.2 (List.mem_append_left _ hy)⟩
theorem nv {cs cs':List AV} (hL:br I O L) (hf:∀y∈L,J.k y.1=some y.2) (hp:cY O i (.cells T cs) O') (hc:∀vs,RepL I cs vs→RepL J cs' vs) (v:Value) (h:bg I (.po i 0) v):bg J (.pf cs') v:=by
 obtain ⟨A,hA,hin⟩:=py hL hp
 obtain ⟨b,c,vs,e1,hvs,_,rfl⟩:=hA
 simp only at e1
 obtain ⟨b2,c2,e2,rfl⟩:=h
 rw[e1] at e2
 simp only[Option.some.injEq,Prod.mk.injEq] at e2
 obtain ⟨rfl,rfl⟩:=e2
 have hb:J.k b=some (.cells vs.toArray T (0,0)):=hf _ (hin _ (List.mem_singleton.2 rfl))
 exact ⟨b,0,vs,rfl,hc vs hvs,fun j u hj=>⟨_,_,_,hb,by rw[Nat.zero_add,List.getElem?_toArray];exact hj⟩⟩
theorem pz {rows:List (List AV)} (hle:I.le J) (hL:br I O L) (hf:∀y∈L,J.k y.1=some y.2) (hp:cY O i (.grow k T rows.flatten) O') (hk:∀r∈rows,r.length=k) (hk0:0<k) (hm:rows.length=m) (v:Value) (h:bg I (.own i m) v):bg J (.fro k rows) v:=by
 obtain ⟨A,hA,hin⟩:=py hL hp
 obtain ⟨b,c,n,vs,e1,hvs,hvc,hown⟩:=hA
 simp only at e1
 obtain ⟨b2,c2,e2,rfl⟩:=h
 rw[e1] at e2
 simp only[Option.some.injEq,Prod.mk.injEq] at e2
 obtain ⟨rfl,rfl⟩:=e2
 have hflat:rows.flatten.length=rows.length*k:=by
  clear hvs hm hp
  induction rows with
  |nil=>simp
  |cons r rows ih=>simp only[List.flatten_cons,qo,List.length_cons,ih (fun r h=>hk r (by simp[h])),hk r (by simp),Nat.add_mul];omega
 have hnm:n=m:=by
  have h5:=hown.1
  have h6:=hvs.length
  have:n*k=m*k:=by rw[←hm];omega
  exact Nat.eq_of_mul_eq_mul_right hk0 this
 subst hnm
 obtain ⟨h5,h6,h7⟩:=hown
 rcases h7 with ⟨ea,rfl,rfl⟩|⟨b',junk,ea,rfl,hj⟩
 ·have h0:rows=[]:=List.eq_nil_of_length_eq_zero (by omega)
  subst h0
  exact ⟨adr b,n,0,rfl,hm.symm,h6,fun _=>rfl,trivial⟩
 ·cases b with
  |none=>simp[adr] at ea
  |some b=>
   simp[adr] at ea
   subst ea
   have hb:J.k b=some (.cells (vs++junk).toArray T (0,0)):=hf _ (hin _ (List.mem_singleton.2 rfl))
   refine ⟨adr (some b),n,c,Z,hm.symm,h6,fun h=>by simp[adr] at h,RepR.of_flat hb rows vs 0 hk (qh hle _ _ hvs) fun i u hu=>?_⟩
   rw[Nat.zero_mul,Nat.zero_add,List.getElem?_toArray,List.getElem?_append_left (List.getElem?_eq_some_iff.1 hu).1]
   exact hu
theorem b9 {x y:AV} {xs ys:List AV} (h:∀v,bg I x v→bg J y v) (hs:∀vs,RepL I xs vs→RepL J ys vs):∀vs,RepL I (x::xs) vs→RepL J (y::ys) vs:=fun vs ⟨v,us,e,h1,h2⟩=>⟨v,us,e,h v h1,hs us h2⟩
theorem rY:∀vs,RepL I [] vs→RepL J [] vs:=fun _ h=>h
theorem eR (hle:I.le J) (x:AV):∀v,bg I x v→bg J x v:=fun v h=>bg.mono hle x v h
theorem tU (hle:I.le J) (xs:List AV):∀vs,RepL I xs vs→RepL J xs vs:=fun vs h=>qh hle xs vs h
theorem nw (x:AV):∀v,bg I x v→bg J .any v:=fun _ _=>trivial
end
end Go.Proofs.YtdilpodccjlkgaaGreatDoor
namespace Go.Proofs.YtdilpodccjlkgaaGreatDoor
open Go.Proofs.Tryz
open Go.Proofs
theorem x9 {α:Type} [Inhabited α] (c:fp α):∀(l:List α) (t:Nat),t<l.length*c.k→(c.vs l)[t]?=some (c.val l[t / c.k]!)[t % c.k]!
 |[],t,h=>by simp at h
 |x::l,t,h=>by
  have e:c.vs (x::l)=c.val x++c.vs l:=by unfold fp.vs;rw[List.flatMap_cons]
  rw[e]
  by_cases ht:t<c.k
  ·rw[List.getElem?_append_left (by rw[c.len];exact ht),Nat.div_eq_of_lt ht,Nat.mod_eq_of_lt ht,List.getElem!_cons_zero,qi (by rw[c.len];exact ht),getElem!_pos (c.val x) t (by rw[c.len];exact ht)]
  ·obtain ⟨s,rfl⟩:∃s,t=s+c.k:=⟨t - c.k,by omega⟩
   rw[List.getElem?_append_right (by rw[c.len];omega),c.len,Nat.add_sub_cancel,Nat.add_div_right _ c.pos,Nat.add_mod_right,List.getElem!_cons_succ]
   exact x9 c l s (by rw[List.length_cons,Nat.add_mul,Nat.one_mul] at h;omega)
theorem rZ (zl:List Value) (m:Nat) (h0:0<zl.length) (h1:∀u∈zl,u.oneCell'=true):madeCells zl.toArray (m*zl.length)=(List.replicate m zl).flatten.toArray:=by
 let c:fp Unit:=⟨zl.length,fun _=>zl,h0,fun _=>rfl,fun _=>h1⟩
 have e:(List.replicate m zl).flatten=c.vs (List.replicate m ()):=by
  show _=(List.replicate m ()).flatMap fun _=>zl
  rw[List.flatMap,List.map_replicate]
 rw[e]
 apply Array.ext_getElem?
 intro t
 have e3:(c.vs (List.replicate m ())).toArray[t]?=(c.vs (List.replicate m ()))[t]?:=List.getElem?_toArray
 rw[e3]
 by_cases ht:t<m*zl.length
 ·rw[x9 c _ t (by rw[List.length_replicate];exact ht)]
  unfold madeCells
  rw[Array.getElem?_map,Array.getElem?_range,if_pos ht]
  show some (zl.toArray[t % zl.toArray.size]!)=some (zl[t % zl.length]!)
  simp
 ·rw[Array.getElem?_eq_none (by rw[size_madeCells];omega),List.getElem?_eq_none (by rw[c.vs_len,List.length_replicate];show m*zl.length≤t;omega)]
section
variable {E:World} {P:Program} {ops:Array Oper} {K:aM→OL→Prop} {env:aM} {O:OL} {rest:List Oper} {d ty:Nat} {pos:String} {af:Array Edge} {x y:Operand} {t e:TypeId}
theorem ax.makeZ {i:TypeInfo} {zv:Value} {m:Nat} {k1 k2:IntKind} {l l':Int} (zl:List Value) (ht:P.underlying t=some (.slice e)) (hi:P.info? e=some i) (hz:i.zero=some zv) (hzc:zv.cells=zl.toArray) (hk:i.size=zl.length) (h0:0<zl.length) (h1:∀u∈zl,u.oneCell'=true) (hx:aP env x=.int k1 l) (hy:aP env y=.int k2 l')
  (hl:l=(m:Int)) (hl':l'=(m:Int)) (hb:(i.bytes:Int)*(m:Int)≤281474976710656) (hm:m≤281474976710656) (kk:∀j,ax P E ops K rest (bi env d (.own j m)) ((j,.grow zl.length e (List.replicate m (zl.map lit)).flatten)::O)) :
  ax P E ops K (Oper.mk (some d) (.makeSlice t x y) ty pos af none::rest) env O:=fun I F ρ w g1 g2=>by
 obtain ⟨L,hL,hS⟩:=g2.2
 obtain ⟨j,hj⟩:=g2.name
 have hx:=fo g1 hx
 have hy:=fo g1 hy
 refine qd Z ?_
 unfold ig
 subst hl hl'
 have hrun:=run_make (P:=P) w t e i zv ht hi hz k1 k2 m m (by omega) (by omega) hb (by omega)
 rw[hzc,hk,Int.toNat_natCast,rZ zl m h0 h1] at hrun
 have hrun:(execOp (Go.Proofs.YtdilpodccjlkgaaGreatDoor.ev ρ) (Oper.mk (some d) (.makeSlice t x y) ty pos af none)).run P w=.ok (.value (.slice (some ⟨w.heap.size,0,none⟩) m m)) (w.alloc (.cells (List.replicate m zl).flatten.toArray e)):=by
  simp[execOp,hx,hy,hrun]
 rw[hrun]
 obtain ⟨J,e1,hle,e2,htop⟩:=hj (some w.heap.size,m)
 have hrep:RepL J (List.replicate m (zl.map lit)).flatten (List.replicate m zl).flatten:=by
  have:=d5 J (List.replicate m zl).flatten
  rwa [List.map_flatten,List.map_replicate] at this
 have hS':=hS.alloc (.cells (List.replicate m zl).flatten.toArray e)
 refine yy (fun _ _=>q2 hle) _ _ _ (kk j J F _ _ ((g1.mono hle).upd d ⟨_,m,e2,rfl⟩) ⟨htop,_,⟨[(w.heap.size,.cells (List.replicate m zl).flatten.toArray e (0,0))],L,rfl,⟨some w.heap.size,m,m,_,e2,hrep,(fun u hu=>by
  obtain ⟨r,hr,hu⟩:=List.mem_flatten.1 hu
  rw[List.eq_of_mem_replicate hr] at hu
  exact h1 u hu),fh.made (by simp[Nat.mul_comm])⟩,hL.mono hle⟩,by rw[e1];exact hS'⟩)
end
theorem r3 {α:Type} {k:Nat}:∀{rows:List (List α)} {j:Nat} {r:List α},(∀x∈rows,x.length=k)→j<rows.length→r.length=k→rows.flatten.take (j*k)++r++rows.flatten.drop (j*k+k)=(rows.set j r).flatten
 |[],j,r,_,h,_=>by simp at h
 |x::rows,0,r,hk,_,hr=>by
  have:=hk x (.head _)
  rw[List.set_cons_zero,List.flatten_cons,List.flatten_cons]
  rw[Nat.zero_mul,List.take_zero,List.nil_append,Nat.zero_add,←this,List.drop_left]
 |x::rows,j+1,r,hk,h,hr=>by
  have hx:=hk x (.head _)
  have ih:=r3 (rows:=rows) (j:=j) (r:=r) (fun y hy=>hk y (.tail _ hy)) (by simpa using h) hr
  rw[List.set_cons_succ,List.flatten_cons,List.flatten_cons,←ih,Nat.add_mul,Nat.one_mul]
  have e1:(x++rows.flatten).take (j*k+k)=x++rows.flatten.take (j*k):=by
   rw[List.take_append,List.take_of_length_le (by omega),hx,Nat.add_sub_cancel]
  have e2:(x++rows.flatten).drop (j*k+k+k)=rows.flatten.drop (j*k+k):=by
   rw[List.drop_append,List.drop_eq_nil_of_le (by omega),hx,List.nil_append];congr 1;omega
  rw[e1,e2]
  simp only[qk]
end Go.Proofs.YtdilpodccjlkgaaGreatDoor
namespace Go.Proofs.YtdilpodccjlkgaaGreatDoor
open Go.Proofs.Tryz
def wn (b:Nat) (T:TypeId) (vs:List Value):bu:=.heap fun L=>L=[(b,.cells vs.toArray T (0,0))]
def Be (b off n c:Nat):AV:=.raw (.slice (some ⟨b,off,none⟩) n c)
section
variable {E:World} {P:Program} {ops:Array Oper} {K:aM→OL→Prop} {env:aM} {O O' O'':OL} {rest:List Oper}
variable {d ty:Nat} {pos:String} {af:Array Edge} {x y z:Operand} {t u e T:TypeId}
theorem ax.makeRow {i:TypeInfo} {zv z1:Value} {m:Nat} {k1 k2:IntKind} {l l':Int} (ht:P.underlying t=some (.slice e)) (hi:P.info? e=some i) (hz:i.zero=some zv) (hzc:zv.cells=#[z1]) (hk:i.size=1) (hx:aP env x=.int k1 l) (hy:aP env y=.int k2 l')
  (hl:l=(m:Int)) (hl':l'=(m:Int)) (hb:(i.bytes:Int)*(m:Int)≤281474976710656) (hm:m≤281474976710656) (kk:∀b,ax P E ops K rest (bi env d (Be b 0 m m)) ((0,wn b e (List.replicate m z1))::O)) :
  ax P E ops K (Oper.mk (some d) (.makeSlice t x y) ty pos af none::rest) env O:=fun I F ρ w h1 h2=>by
 obtain ⟨htop,L,hL,hS⟩:=h2
 refine bJ.make1 ht hi hz hzc hk (fo h1 hx) (fo h1 hy) hl hl' hb hm hS fun b w' hS'=>?_
 exact kk b I F _ _ (h1.upd d rfl) ⟨htop,_,⟨[(b,.cells (List.replicate m z1).toArray e (0,0))],L,rfl,rfl,hL⟩,by simpa using hS'⟩
theorem Gv.rowLo {b n c j:Nat} {a:Int} (ht:P.underlying t=some (.slice e)) (hs:∀w,(sizeOf e).run P w=.ok 1 w) (hx:aP env x=Be b 0 n c) (hy:aP env y=.int .i64 a) (hi:a=(j:Int)) (hj:j≤n) (hc:j<c) (hnc:n≤c) :
  Gv P env O (Oper.mk (some d) (.slice t x (some y) none none) ty pos af none) (Be b j (n - j) (c - j)):=Gv.ofEv fun I ρ h=>by
 have h1:=eQ h hx
 have h2:=fo h hy
 subst hi
 refine ⟨_,Z,fun w=>?_⟩
 have hcj:¬c=j:=by omega
 simp[execOp,Instr.sliceAt,Instr.slice,Instr.sliceBounds,Instr.sliceBound,asIntOf,Sem.run_bind,run_underlying ht,hs,h1,h2,hcj,hj,cV]
theorem Gv.rowHi {b n c j:Nat} {a:Int} (ht:P.underlying t=some (.slice e)) (hs:∀w,(sizeOf e).run P w=.ok 1 w) (hx:aP env x=Be b 0 n c) (hy:aP env y=.int .i64 a) (hi:a=(j:Int)) (hc:j≤c) :
  Gv P env O (Oper.mk (some d) (.slice t x none (some y) none) ty pos af none) (Be b 0 j c):=Gv.ofEv fun I ρ h=>by
 have h1:=eQ h hx
 have h2:=fo h hy
 subst hi
 refine ⟨_,Z,fun w=>?_⟩
 simp[execOp,Instr.sliceAt,Instr.slice,Instr.sliceBounds,Instr.sliceBound,asIntOf,Sem.run_bind,run_underlying ht,hs,h1,h2,hc,cV]
theorem Gv.lenRow {b off m c:Nat} (ht:P.underlying t=some (.slice T)) (hx:aP env x=Be b off m c):Gv P env O (Oper.mk (some d) (.call { callee:=.builtin .len,args:=#[x],argTypes:=#[t] }) ty pos af none) (.int .i64 m):=Gv.ofEv fun I ρ h=>by
 have h1:=eQ h hx
 exact ⟨_,rfl,fun w=>by simp[execOp,resolve,h1,invoke,builtin,Builtin.len_,run_underlying ht,goInt]⟩
theorem ax.copyRow {b off dl dc sl q:Nat} {vs cs:List Value} {ty2:TypeId} (ht:P.underlying t=some (.slice e)) (hs:(P.info? e).map (·.size)=some 1) (hx:aP env x=Be b off dl dc)
  (hq:cs.length=q) (hmin:q=Nat.min sl dl) (hO:fm O 0 (wn b T vs) (wn b T (vs.take off++cs++vs.drop (off+q))) O') (hfit:off+q≤vs.length) (h1c:∀v∈cs,v.oneCell'=true)
  (hy:∀I F ρ w,d4 I env ρ→f8 I O F E w→∃a sc,ev ρ y=.slice (some a) sl sc∧∀j v,cs[j]?=some v→w.cell? (a.add j)=some v)
  (kk:ax P E ops K rest (bi env d (.int .i64 q)) O') :
  ax P E ops K (Oper.mk (some d) (.call { callee:=.builtin .copy,args:=#[x,y],argTypes:=#[t,ty2] }) ty pos af none::rest) env O:=fun I F ρ w h1 h2=>by
 obtain ⟨a,sc,ey,hsrc⟩:=hy I F ρ w h1 h2
 obtain ⟨htop,L,hL,hS⟩:=h2
 have ex:=eQ h1 hx
 obtain ⟨A,B,hp,hA,hback⟩:=hO.rep hL
 have hA:A=[(b,.cells vs.toArray T (0,0))]:=hA
 subst hA
 have hS2:SL I.k ((b,.cells vs.toArray T (0,0))::(B++F)) E w:=hS.perm ((hp.append_right F).symm)
 have hrun:=run_copy_row (P:=P) w t ty2 ty e b off dl dc a sl sc vs.toArray T cs ht hs (hS2.own _ (.head _)) (by rw[hq,hmin]) hsrc (by simpa [hq] using hfit) h1c
 rw[hq] at hrun
 obtain ⟨L',h5,h6⟩:=hback (qb I) (A':=[(b,.cells (vs.take off++cs++vs.drop (off+q)).toArray T (0,0))]) rfl
 refine qd Z ?_
 unfold ig
 have hex:(execOp (Go.Proofs.YtdilpodccjlkgaaGreatDoor.ev ρ) (Oper.mk (some d) (.call { callee:=.builtin .copy,args:=#[x,y],argTypes:=#[t,ty2] }) ty pos af none)).run P w=.ok (.value (goInt q)) (w.setRow b (vs.take off++cs++vs.drop (off+q)).toArray):=by
  simp only[execOp,resolve]
  simp at hrun
  simp[invoke,builtin,ex,ey,hrun]
 rw[hex]
 refine kk I F _ _ (h1.upd d Z) ⟨htop,L',h5,?_⟩
 exact (hS2.turn1).perm (h6.append_right F)
theorem dk.rowOwn {t b m:Nat} {vs:List Value} {O1:OL} {c:Code} {Q:Exit→aM→OL→Prop} {n:Nat} (hv:env t=Be b 0 m m) (hO:cY O 0 (wn b T vs) O1) (hm:vs.length=m) (hc:∀u∈vs,u.oneCell'=true)
  (h:∀i,dk P E n c Q (bi env t (.own i m)) ((i,.grow 1 T (vs.map lit))::O1)):dk P E n c Q env O:=fun I F ρ w h1 h2=>by
 obtain ⟨i,hi⟩:=h2.name
 obtain ⟨J,e1,hle,e2,htop⟩:=hi (some b,m)
 obtain ⟨_,L,hL,hS⟩:=h2
 obtain ⟨A,B,hp,hA,hB⟩:=hO.rep hL
 have hA:A=[(b,.cells vs.toArray T (0,0))]:=hA
 subst hA
 refine (h i J F ρ w (fun q=>?_) ⟨htop,_,⟨[(b,.cells vs.toArray T (0,0))],B,Z,⟨some b,m,m,vs,e2,d5 J vs,hc,fh.made (by rw[hm,Nat.mul_one])⟩,hB.mono hle⟩,by rw[e1];exact hS.perm (hp.symm.append_right F)⟩).mono fun _ _ _=>lf.up hle
 unfold bi
 cases hb:Nat.beq q t with
 |false=>exact bg.mono hle _ _ (h1 q)
 |true=>
  have:q=t:=Nat.eq_of_beq_eq_true hb
  subst this
  have h4:=h1 q
  rw[hv] at h4
  exact ⟨some b,m,e2,h4⟩
end
end Go.Proofs.YtdilpodccjlkgaaGreatDoor
namespace Go.Proofs.YtdilpodccjlkgaaGreatDoor
open Go.Proofs.Tryz
section
variable {E:World} {P:Program} {env:aM} {O O' O'':OL}
theorem aX.knowIC {j off i m:Nat} {T T':TypeId} {cs:List AV} {l:List Int} (hO:cY O i (.grow 1 T (cI l)) O') (hP:fm O' j (.cells T' cs) (.cells T' (cs.set off (.fro 1 (l.map fun x=>[.int .i64 x])))) O'') (hc:cs[off]?=some (.own i m)) (hm:l.length=m):aX E env O env O'':=
 aX.knowC (rows:=l.map fun x=>[.int .i64 x]) (by rw[qF];exact hO) hP hc (fun r hr=>by obtain ⟨_,_,rfl⟩:=List.mem_map.1 hr;rfl) (by decide) (by rw[qp];exact hm)
theorem aX.nestBackN {α:Type} {c:fp α} {b j m i n:Nat} {T e:TypeId} {rows:List (List α)} {r:List α} (hn:r.length=n) (hP:cY O i (.grow c.k e (c.av r)) O') (hO:fm O' m (vj c T e b rows j n i) (cP c T e b (rows.set j r)) O''):aX E env O env O'':=by subst hn;exact aX.nestBack hP hO
theorem aU.weak {f:FuncId} {args:List AV} {R:AV→OL→Prop} {y:AV} (h:aU P E f args [] R) (hr:∀x O,R x O→O=[]∧∀I v,bg I x v→bg I y v):aI P E f args y:=fun I F w vs h1 h2=>
 (h I F w vs h1 h2).mono fun v w' ⟨J,x,O',a,b,c,d⟩=>by
  obtain ⟨e,hv⟩:=hr x O' d
  subst e
  exact ⟨J,y,[],a,hv _ _ b,c,rfl⟩
theorem iK {tp te:TypeId} {j:TypeInfo} (a:Addr) (hp:P.underlying tp=some (.pointer te)) (hte:P.info? te=some j) (w:World) :
  (binOp .neq tp (.pointer (some a)) (.pointer none)).run P w=.ok (.bool true) w:=by
 have h:∀d:Nat,(Op.equalIn (d+1) tp (.pointer (some a)) (.pointer none)).run P w=.ok false w:=fun d=>by
  simp[Op.equalIn,run_underlying hp,sizeOf,typeInfo,hte]
 simp only[binOp]
 simp[Op.equal,Op.maxDepth,h 9999]
theorem mL {tp te:TypeId} {j:TypeInfo} (a:Addr) (hp:P.underlying tp=some (.pointer te)) (hte:P.info? te=some j) (w:World) :
  (binOp .eql tp (.pointer (some a)) (.pointer none)).run P w=.ok (.bool false) w:=by
 have h:∀d:Nat,(Op.equalIn (d+1) tp (.pointer (some a)) (.pointer none)).run P w=.ok false w:=fun d=>by
  simp[Op.equalIn,run_underlying hp,sizeOf,typeInfo,hte]
 simp only[binOp]
 simp[Op.equal,Op.maxDepth,h 9999]
variable {d ty:Nat} {pos:String} {af:Array Edge} {x y z:Operand} {t u e T:TypeId}
theorem Gv.neqPf {cs:List AV} {j:TypeInfo} (hp:P.underlying t=some (.pointer e)) (hte:P.info? e=some j) (hx:aP env x=.pf cs):Gv P env O (Oper.mk (some d) (.binOp .neq t x (.const (.pointer none)) u) ty pos af none) (.bool true):=Gv.ofEv fun I ρ h=>by
 have h1:=h.ev x
 rw[hx] at h1
 obtain ⟨b,off,vs,e1,_⟩:=h1
 exact ⟨_,rfl,fun w=>by
  have e2:Go.Proofs.YtdilpodccjlkgaaGreatDoor.ev ρ (.const (.pointer none))=.pointer none:=rfl
  simp only[execOp,e1,e2];simp[eqGuard,iK _ hp hte]⟩
theorem Gv.neqPo {i off:Nat} {j:TypeInfo} (hp:P.underlying t=some (.pointer e)) (hte:P.info? e=some j) (hx:aP env x=.po i off):Gv P env O (Oper.mk (some d) (.binOp .neq t x (.const (.pointer none)) u) ty pos af none) (.bool true):=Gv.ofEv fun I ρ h=>by
 have h1:=h.ev x
 rw[hx] at h1
 obtain ⟨b,c,_,e1⟩:=h1
 exact ⟨_,rfl,fun w=>by
  have e2:Go.Proofs.YtdilpodccjlkgaaGreatDoor.ev ρ (.const (.pointer none))=.pointer none:=rfl
  simp only[execOp,e1,e2];simp[eqGuard,iK _ hp hte]⟩
theorem Gv.eqlPo {i off:Nat} {j:TypeInfo} (hp:P.underlying t=some (.pointer e)) (hte:P.info? e=some j) (hx:aP env x=.po i off):Gv P env O (Oper.mk (some d) (.binOp .eql t x (.const (.pointer none)) u) ty pos af none) (.bool false):=Gv.ofEv fun I ρ h=>by
 have h1:=h.ev x
 rw[hx] at h1
 obtain ⟨b,c,_,e1⟩:=h1
 exact ⟨_,rfl,fun w=>by
  have e2:Go.Proofs.YtdilpodccjlkgaaGreatDoor.ev ρ (.const (.pointer none))=.pointer none:=rfl
  simp only[execOp,e1,e2];simp[eqGuard,mL _ hp hte]⟩
end
end Go.Proofs.YtdilpodccjlkgaaGreatDoor
namespace Go.Proofs.YtdilpodccjlkgaaGreatDoor
open Go.Proofs.Tryz
open Go.Proofs Go.Lib Go.Shelf Go.RowKit
theorem DR:de prog 261 #[(0,1),(1,1)] [.bool false,.int .i64 0]:=⟨_,_,Yd,zeroValue261,fun w=>by kernel_rfl,rfl⟩
variable {E:World}
set_option maxRecDepth 20000
def bM (q:fw):List AV:=[.int .i64 q.a,.int .i64 q.b,.int .i64 q.c]
def fq (o:Option Int):List AV:=[.bool o.isSome,.int .i64 (o.getD 0)]
def vo (n:Nat) (l:List fw) (y:AV):AV:=.pf [.int .i64 n,.fro 3 (l.map bM),y]
theorem jY (n:Nat) (z y:AV) (a:Int):aI prog E 108 [.pf [.int .i64 n,z,y],.int .i64 a] (.bool (decide (0≤a∧a<n))):=by
 refine zo func108 Z (by decide) Z<|ah<|ab Z<|z6<|ah<|za (ep Z)<|za (Gv.neqPf underlying71 type136 Z)<|ai Z<|z8 Z Z Z<|aa Z<|z8 Z Z Z<|za (q3 Z Z)<|ar Z Z Z<|ai Z<|zp (s:=11) Z (fun c1=>?_) (fun c1=>?_)
 ·refine z8 Z Z c1<|aa Z<|z8 Z Z c1<|za (ep Z)<|z8 Z Z c1<|za (yf Z)<|z8 Z Z c1<|aq Ze Z wz Z Z<|z8 Z Z c1<|ay j6 Z<|z8 Z Z c1<|aw Z Z<|ar Z c1 Z<|ab Z<|z6<|zh<|zk (x:=.bool _) Z ?_
  exact congrArg AV.bool (by simp_all<;>omega)
 ·refine z7 Z Z c1<|z7 Z Z c1<|z7 Z Z c1<|z7 Z Z c1<|z7 Z Z c1<|z7 Z Z c1<|au Z c1 Z<|ab Z<|z6<|zh<|zk (x:=.bool _) Z ?_
  exact congrArg AV.bool (by simp_all<;>omega)
theorem gU (r:List (Option Int)):∀x∈r.map fq,x.length=2:=fun x hx=>by obtain ⟨o,_,rfl⟩:=List.mem_map.1 hx;rfl
theorem wo (l:List fw):∀x∈l.map bM,x.length=3:=fun x hx=>by obtain ⟨o,_,rfl⟩:=List.mem_map.1 hx;rfl
theorem Bf (r:List (Option Int)):(r.map fq).flatten.length=r.length*2:=by
 induction r with
 |nil=>rfl
 |cons o r ih=>rw[List.map_cons,List.flatten_cons,qo,ih,List.length_cons];show 2+_=_;omega
theorem Bg (r:List (Option Int)):(r.map fq).flatten.all AV.cell=true:=by
 induction r with
 |nil=>rfl
 |cons o r ih=>rw[List.map_cons,List.flatten_cons,List.all_append,ih];rfl
theorem nx {α:Type} {k:Nat}:∀{rows:List (List α)} {j i:Nat} {r:List α},(∀x∈rows,x.length=k)→rows[j]?=some r→i<k→rows.flatten[j*k+i]?=r[i]?
 |x::rows,0,i,r,hk,h,hi=>by
  cases h
  rw[List.flatten_cons,Nat.zero_mul,Nat.zero_add,List.getElem?_append_left (by rw[hk x (.head _)];exact hi)]
 |x::rows,j+1,i,r,hk,h,hi=>by
  have h1:=hk x (.head _)
  rw[List.flatten_cons,List.getElem?_append_right (by rw[h1,Nat.succ_mul];omega),h1,show (j+1)*k+i - k=j*k+i by rw[Nat.succ_mul];omega]
  exact nx (fun y hy=>hk y (.tail _ hy)) h hi
theorem vp {α:Type} {l:List α} {i:Nat} {a:α} (h:l[i]?=some a):l.drop i=a::l.drop (i+1):=by
 obtain ⟨h1,h2⟩:=List.getElem?_eq_some_iff.1 h
 rw[←h2];exact List.drop_eq_getElem_cons h1
theorem tV {r:List (Option Int)} {v:Int} {n:Nat} (hr:r.length=n) (hv:m0 n v):r[v.toNat]?=some (jn r v):=by
 unfold m0 at hv
 unfold jn
 rw[qi (by omega)];rfl
theorem Cv {r:List (Option Int)} {v:Int} {n:Nat} (hr:r.length=n) (hv:m0 n v):(r.map fq)[v.toNat]?=some (fq (jn r v)):=by rw[qq,tV hr hv];rfl
def qI (l:List fw) (now:List (Option Int)) (g:Nat):List (Option Int) × Bool:=(l.take g).foldl (oU now) (now,false)
theorem Bh (l:List fw) (now:List (Option Int)) (g:Nat):(qI l now g).1.length=now.length:=by unfold qI;rw[ni,mZ]
theorem r4 {l:List fw} {now:List (Option Int)} {g:Nat} {q:fw} (h:l[g]?=some q):qI l now (g+1)=oU now (qI l now g) q:=by unfold qI;rw[List.take_add_one,h,List.foldl_append];rfl
theorem yA {k:Nat} (hk:k≤5) {r:List (Option Int)} (h:mH k r) (v:Int):-5764607523034234880≤(jn r v).getD 0∧(jn r v).getD 0≤5764607523034234880:=by
 cases e:jn r v with
 |none=>exact ⟨by decide,by decide⟩
 |some m=>
  have:=h v m e
  have h2:(k:Int)*bw≤5*bw:=Int.mul_le_mul_of_nonneg_right (by omega) (by decide)
  have e5:(5:Int)*bw=5764607523034234880:=by decide
  show -5764607523034234880≤m∧m≤5764607523034234880
  omega
theorem yB {now next:List (Option Int)} {q:fw} (h:lN now next q=true):∃s,jn now q.b=some s:=by
 unfold lN at h
 cases e:jn now q.b with
 |none=>rw[e] at h;cases h
 |some s=>exact ⟨s,rfl⟩
theorem tW {now next:List (Option Int)} {q:fw} {u:Bool} (h:u=((jn now q.b).isSome&&(!(jn next q.a).isSome||decide ((jn now q.b).getD 0+q.c<(jn next q.a).getD 0)))):u=lN now next q:=by
 rw[h]
 unfold lN
 cases jn now q.b with
 |none=>rfl
 |some s=>
  cases jn next q.a with
  |none=>rfl
  |some m=>simp
theorem wq (n:Nat) (l:List fw) (y:AV) (now:List (Option Int)) (k:Nat) (hk:k≤5) (hn:now.length=n) (hnn:n≤2000) (hl:∀q∈l,xL n q∧(-bw≤q.c∧q.c≤bw)) (hll:l.length≤10000) (hs:mH k now) :
  aI prog E 187 [vo n l y,.fro 2 (now.map fq)] (.tup [.fro 2 ((ng l now).map fq),.bool (wa l now).2]):=by
 unfold vo
 refine zo func187 Z (by decide) Z<|ah<|za (iR Z)<|ab Z<|z6<|ah<|ax.buildSlice0 (k:=2) Y1 type261<|fun i12=>bb Z<|yj (k:=2) Y1 type261 Z Z Z Z Z (fun _=>.head) (by simp) (by decide) (Bg _) (by show (_+_)*16≤_;simp<;>omega) (by simp<;>omega)<|fun i14=>za (lj Z)<|ab Z<|z6<|zd<|ah<|za (ep Z)<|za (yf Z)<|aq Ze Z Yt Z Z<|aH isAgg134 Z<|ap Yk Z<|aa Z<|z6<|zj<|y8 (γ:=Nat) [1,6,18,19] (fun g=>[(20,.int .i64 g),(7,.bool (qI l now g).2)]) (fun g=>[(i14,.grow 2 261 ((qI l now g).1.map fq).flatten)]) (fun g=>g≤l.length) (fun g=>l.length - g) 0 eZ aE (ql _) ?_
 rintro g hg
 refine ah<|aw Z Z<|z6<|zd<|zw Z (fun cg=>?_) (fun cg=>?_)
 ·have hg2:g<l.length:=by simp at cg;omega
  obtain ⟨q,hq⟩:∃q,l[g]=q:=⟨_,rfl⟩
  have hgq:l[g]?=some q:=by rw[qi hg2,hq]
  have hqm:q∈l:=qs hgq
  obtain ⟨⟨hqa,hqb⟩,hqc⟩:=hl q hqm
  have hfl:=Bh l now g
  have hrb:=Cv hn hqb
  have hra:=Cv (hfl.trans hn) hqa
  have hqa2:=hqa
  have hqb2:=hqb
  unfold m0 at hqa2 hqb2
  have hcl:((qI l now g).1.map fq).flatten.length=n*2:=by rw[Bf,hfl,hn]
  have hs0:-5764607523034234880≤(jn now q.b).getD 0∧(jn now q.b).getD 0≤5764607523034234880:=yA hk hs _
  unfold bw at hqc
  refine zg<|zd<|zj<|ah<|za (bx g Yk sizeOf180 Z Z Z hgq)<|ac isAgg180 sizeOf180 Z Z<|y5 (cs:=[.int .i64 0,.int .i64 0,.int .i64 0]) zeroValue180 Z Z<|fun i9=>zz sizeOf180 Z Z Z Z Z Z .head Z<|z6<|ah<|bb Z<|za (zn Yp Z wz (by decide) Z Z)<|za (zq (c:=.int _ _) j6 Z ⟨_,.head⟩ Z)<|za (bx q.b.toNat Y1 Yn Z Z (by omega) (tV hn hqb))<|ac isAgg261 Yn Z Z<|y5 (cs:=[.bool false,.int .i64 0]) zeroValue261 Z Z<|fun i10=>zz Yn Z Z Z Z Z Z .head Z<|z6<|ah<|za (zn Yd Z Zo (by decide) Z Z)<|za (zq (c:=.int _ _) Zz Z ⟨_,.head⟩ Z)<|za (zn Yp Z Zo (by decide) Z Z)<|za (zq (c:=.int _ _) Zz Z ⟨_,.t1⟩ Z)<|aC Z Z<|ao Z<|z6<|zd<|yg (γ:=Bool) [1,6,7,9,11,18,19,20] (fun u=>[(54,.bool u)]) (fun u=>[(i10,.cells 261 (fq (jn now q.b))),(i9,.cells 180 (bM q)),(i14,.grow 2 261 ((qI l now g).1.map fq).flatten)]) (fun u=>u=lN now (qI l now g).1 q) ?_ (fun _ _ h=>h) ?_
  ·refine aV<|za (zn Yd Z Zj (by decide) Z Z)<|za (zq (c:=.bool _) Yh Z ⟨_,.head⟩ Z)<|ai Z<|zp (s:=36) Z (fun c2=>?_) (fun c2=>?_)
   ·refine z8 Z Z c2<|za (gQ Z)<|z8 Z Z c2<|za (zn Yp Z wz (by decide) Z Z)<|z8 Z Z c2<|za (zq (c:=.int _ _) j6 Z ⟨_,.t1⟩ Z)<|z8 Z Z c2<|za (Gv.idxO (j:=q.a.toNat) Y1 Yn Z Z (by omega) ⟨_,.t2⟩ (fun h=>by rw[h] at hcl;simp at hcl;omega) (by rw[qp];omega))<|z8 Z Z c2<|za (zn Yd Z Zj (by decide) Z Z)<|z8 Z Z c2<|za (Gv.load1G (c:=_) Yh Z ⟨_,.t2⟩ (vp (nx (i:=0) (gU _) hra (by decide))))<|z8 Z Z c2<|aD Z<|z8 Z Z c2<|ai Z<|zp (s:=44) Z (fun c3=>?_) (fun c3=>?_)
    ·refine z7 Z Z c3<|z7 Z Z c3<|z7 Z Z c3<|z7 Z Z c3<|z7 Z Z c3<|z7 Z Z c3<|z7 Z Z c3<|z7 Z Z c3<|z8 Z Z c2<|ar Z c3 Z<|ar Z c2 Z<|z6 ?_
     exact ⟨_,vh,aJ,aE,tW (by simp_all)⟩
    ·refine z8 Z Z c3<|aa Z<|z8 Z Z c3<|za (gQ Z)<|z8 Z Z c3<|za (zn Yp Z wz (by decide) Z Z)<|z8 Z Z c3<|za (zq (c:=.int _ _) j6 Z ⟨_,.t1⟩ Z)<|z8 Z Z c3<|za (Gv.idxO (j:=q.a.toNat) Y1 Yn Z Z (by omega) ⟨_,.t2⟩ (fun h=>by rw[h] at hcl;simp at hcl;omega) (by rw[qp];omega))<|z8 Z Z c3<|za (zn Yd Z Zo (by decide) Z Z)<|z8 Z Z c3<|za (Gv.load1G (c:=_) Zz Z ⟨_,.t2⟩ (vp (nx (i:=1) (gU _) hra (by decide))))<|z8 Z Z c3<|aw Z Z<|z8 Z Z c2<|au Z c3 Z<|ar Z c2 Z<|z6 ?_
     exact ⟨_,vh,aJ,aE,tW (by simp_all)⟩
   ·refine z7 Z Z c2<|z7 Z Z c2<|z7 Z Z c2<|z7 Z Z c2<|z7 Z Z c2<|z7 Z Z c2<|z7 Z Z c2<|z7 Z Z c2<|zi Z Z<|zi Z Z<|zi Z Z<|zi Z Z<|zi Z Z<|zi Z Z<|zi Z Z<|zi Z Z<|z7 Z Z c2<|au Z c2 Z<|z6 ?_
    exact ⟨_,vh,aJ,aE,tW (by simp_all)⟩
  ·rintro u hu
   refine zu Z (fun cu=>?_) (fun cu=>?_)
   ·have hch:lN now (qI l now g).1 q=true:=by rw[←hu];exact cu
    obtain ⟨s0,hs0e⟩:=yB hch
    have hnx:qI l now (g+1)=((qI l now g).1.set q.a.toNat (some ((jn now q.b).getD 0+q.c)),true):=by
     rw[r4 hgq]
     unfold oU
     rw[A3 hs0e hch,hch,Bool.or_true,hs0e];rfl
    refine aV<|za (gQ Z)<|za (zn Yp Z wz (by decide) Z Z)<|za (zq (c:=.int _ _) j6 Z ⟨_,.t1⟩ Z)<|aa Z<|za (y4 (cps:=[(0,[_]),(1,[_])]) (rs:=[_,_]) DR Z Z Z)<|za (Gv.idxO (j:=q.a.toNat) Y1 Yn Z Z (by omega) ⟨_,.t2⟩ (fun h=>by rw[h] at hcl;simp at hcl;omega) (by rw[qp];omega))<|ax.storeG (l:=[_,_]) (new:=((qI l now (g+1)).1.map fq).flatten) Yn Z Z Z Z Z Z .t2 (by rw[hcl];show q.a.toNat*2+2≤_;omega) (by decide) (by rw[hnx,List.map_set];exact r3 (gU _) (by rw[qp];omega) rfl)<|ab Z<|z6<|aV<|aC Z Z<|aa Z<|z6 ?_
    exact ⟨g+1,iS,⟨rfl,by rw[hnx];rfl,trivial⟩,⟨_,(.drop (.drop (.refl _))),rfl⟩,hg2,by omega⟩
   ·have hch:lN now (qI l now g).1 q=false:=by rw[←hu];simpa using cu
    have hnx:qI l now (g+1)=qI l now g:=by
     rw[r4 hgq]
     unfold oU
     rw[tP hch,hch,Bool.or_false]
    refine zg<|aV<|aC Z Z<|aa Z<|z6 ?_
    exact ⟨g+1,iS,⟨rfl,by rw[hnx];rfl,trivial⟩,⟨_,(.drop (.drop (.refl _))),by rw[hnx]⟩,hg2,by omega⟩
 ·obtain rfl:g=l.length:=by simp at cg;omega
  have he:qI l now l.length=wa l now:=by unfold qI wa;rw[qn]
  have hf:=(p9 l now).1
  rw[he,hf]
  refine y7<|ah<|za (gQ Z)<|ai Z<|za (lj Z)<|ab Z<|z6<|zh ?_
  repeat (first|refine f9 ?_|refine eO ?_)
  refine yc (aX.know (t:=4) (rows:=(ng l now).map fq) Z .head (by exact gU _) (by decide) (by rw[qp];unfold ng;rw[mZ];simp))<|qc (x:=.fro _ _) (y:=.bool _) Z Z ?_
  rfl
set_option linter.defProp false
def y9:=@ax.makeNest
def yd:=@aX.knowP
def yu:=@Gv.idxI
def q6:=@ax.nestTake
def q9:=@Gv.loadI
def qf:=@Gv.idxN
def qg:=@ax.nestPut
end Go.Proofs.YtdilpodccjlkgaaGreatDoor
