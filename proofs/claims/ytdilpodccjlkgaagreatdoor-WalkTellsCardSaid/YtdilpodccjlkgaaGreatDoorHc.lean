/- Facts on a stack, read: has, further, Least, Follows. Of facts of nodes that there are, not great. -/
import Derived.Test.YtdilpodccjlkgaaGreatDoorHb
import Derived.MapKept
import Derived.WideMake
import Derived.Laws.Cover4
import Derived.WideLaws
import Derived.Lib.AppendZeros
import Derived.Lib.Builder
import Derived.Lib.AppendStr
import Derived.Lib.UnsafeStr
import Derived.Laws.Externs
import Derived.Sort.Grow
import Derived.Laws.CopyRow
import Derived.LaidEqlPtr
import Derived.Test.YtdilpodccjlkgaaGreatDoorHa
import Derived.Test.YtdilpodccjlkgaaGreatDoorChecked
set_option linter.unusedVariables false
set_option linter.unusedSimpArgs false
set_option linter.unusedSectionVars false
namespace Go.Proofs.YtdilpodccjlkgaaGreatDoor
open Go.Proofs.Tryz
def jV (s:ByteArray):List (ByteArray × Int)→Option Int
 |[]=>none
 |(k,v)::es=>if s=k then some v else jV s es
def nw (s:ByteArray) (v:Int):List (ByteArray × Int)→List (ByteArray × Int)
 |[]=>[(s,v)]
 |(k,u)::es=>if s=k then (k,v)::es else (k,u)::nw s v es
def m8 (p:ByteArray × Int):Value × Value:=(.string p.1,.int .i64 p.2)
def GV (b:Nat) (es:List (ByteArray × Int)) (L:List (Nat × Obj)):Prop:=∃(arr:Array MapEntry) (clock:Nat),L=[(b,.map arr clock)]∧arr.toList.map (fun e=>(e.key,e.val))=es.map m8
def xY (b:Nat) (es:List (ByteArray × Int)):bS:=.heap (GV b es)
def dw (b:Nat):AV:=.raw (.map (some b))
theorem iQ {s:ByteArray}:∀{l:List MapEntry} {es:List (ByteArray × Int)} {i:Nat},l.map (fun e=>(e.key,e.val))=es.map m8→jV s es=none→Instr.findNow .string (.string s) l i=some none
 |[],[],_,_,_=>rfl
 |[],_::_,_,h,_=>by cases h
 |_::_,[],_,h,_=>by cases h
 |e::l,(k,v)::es,i,h,hg=>by
  simp only[List.map_cons,List.cons.injEq,m8,Prod.mk.injEq] at h
  obtain ⟨⟨h1,_⟩,h2⟩:=h
  simp only[jV] at hg
  split at hg
  ·cases hg
  ·rename_i hne
   unfold Instr.findNow
   rw[h1]
   have:(s == k)=false:=Bool.eq_false_iff.2 fun h=>hne ((MapKept.bytes_beq s k).1 h)
   simp only[Instr.sameNow,this]
   exact iQ h2 hg
theorem iR {s:ByteArray} {u:Int}:∀{l:List MapEntry} {es:List (ByteArray × Int)} {i:Nat},l.map (fun e=>(e.key,e.val))=es.map m8→jV s es=some u →
  ∃j,Instr.findNow .string (.string s) l i=some (some (i+j,.int .i64 u))∧(∃e,l[j]?=some e∧e.key=.string s)∧∀v,es.set j (s,v)=nw s v es
 |[],[],_,_,hg=>by cases hg
 |[],_::_,_,h,_=>by cases h
 |_::_,[],_,h,_=>by cases h
 |e::l,(k,v)::es,i,h,hg=>by
  simp only[List.map_cons,List.cons.injEq,m8,Prod.mk.injEq] at h
  obtain ⟨⟨h1,h3⟩,h2⟩:=h
  simp only[jV] at hg
  unfold Instr.findNow
  rw[h1]
  split at hg
  ·rename_i heq
   subst heq
   cases hg
   refine ⟨0,?_,⟨e,U,h1⟩,fun v=>?_⟩
   ·have hss:(s == s)=true:=(MapKept.bytes_beq s s).2 rfl
    simp only[Instr.sameNow,hss]
    rw[h3];rfl
   ·simp[nw]
  ·rename_i hne
   have hb:(s == k)=false:=Bool.eq_false_iff.2 fun h=>hne ((MapKept.bytes_beq s k).1 h)
   obtain ⟨j,g1,g2,g3⟩:=iR (i:=i+1) h2 hg
   refine ⟨j+1,?_,by simpa using g2,fun v=>?_⟩
   ·simp only[Instr.sameNow,hb,g1]
    congr 3;omega
   ·simp[nw,hne,g3]
section
variable {E:World} {P:Program} {n:Nat} {ops:Array Oper} {K:aS→OL→Prop} {env:aS} {O O':OL} {rest:List Oper}
variable {d ty:Nat} {pos:String} {af:Array Edge} {t e kt:TypeId} {x y z:Operand} {b i:Nat} {es:List (ByteArray × Int)}
theorem az.makeMap (k:∀b,az P E ops K rest (br env d (dw b)) ((0,xY b [])::O)):az P E ops K (Oper.mk (some d) (.makeMap t none) ty pos af none::rest) env O:=fun I F ρ w h1 ⟨ht,L,hL,hS⟩=>by
 refine qf U ?_
 unfold iN
 have:(execOp (Go.Proofs.YtdilpodccjlkgaaGreatDoor.ev ρ) (Oper.mk (some d) (.makeMap t none) ty pos af none)).run P w=.ok (.value (.map (some w.heap.size))) (w.alloc (.map #[] 0)):=by
  simp only[execOp,Option.map_none]
  rw[Sem.run_bind,run_makeMap_plain];rfl
 rw[this]
 exact k w.heap.size I F _ _ (h1.upd d rfl) ⟨ht,(w.heap.size,.map #[] 0)::L,⟨[_],L,rfl,⟨#[],0,rfl,rfl⟩,hL⟩,hS.alloc _⟩
theorem Ey {I:G} {L:List (Nat × Obj)} (hO:nN O i (xY b es)) (hL:bt I O L):∃(arr:Array MapEntry) (clock:Nat),(b,Obj.map arr clock)∈L∧arr.toList.map (fun e=>(e.key,e.val))=es.map m8:=by
 obtain ⟨O',hO⟩:=hO
 obtain ⟨A,B,hp,⟨arr,clock,rfl,h2⟩,_⟩:=hO.rep hL
 exact ⟨arr,clock,hp.mem_iff.2 (by simp),h2⟩
theorem az.mapSet {s:ByteArray} {v:Int} (ht:P.underlying t=some (.map kt e)) (hk:P.underlying kt=some .string) (hx:aV env x=dw b) (hy:aV env y=.str s) (hz:aV env z=.int .i64 v) (hO:fD O i (xY b es) (xY b (nw s v es)) O')
  (k:az P E ops K rest env O'):az P E ops K (Oper.mk none (.mapUpdate t x y z) ty pos af none::rest) env O:=fun I F ρ w h1 ⟨htop,L,hL,hS⟩=>by
 have hx:=fd h1 hx
 have hy:=CK h1 hy
 have hz:=fB h1 hz
 obtain ⟨A,B,hp,⟨arr,clock,rfl,he⟩,hback⟩:=hO.rep hL
 have hS2:SL I.k ((b,.map arr clock)::(B++F)) E w:=hS.perm ((hp.append_right F).symm)
 have hb:=hS2.own _ (.head _)
 simp only at hb
 have hc:(Instr.checkKey false 10000 kt (.string s)).run P w=.ok () w:=MapKept.run_checkKey (k:=.string s) hk (by simp[MapKept.IsKey]) false 9999
 have fin:∀(arr':Array MapEntry) (clock':Nat),arr'.toList.map (fun e=>(e.key,e.val))=(nw s v es).map m8 →
   (execOp (Go.Proofs.YtdilpodccjlkgaaGreatDoor.ev ρ) (Oper.mk none (.mapUpdate t x y z) ty pos af none)).run P w=.ok .skip { w with heap:=w.heap.setIfInBounds b (.map arr' clock') }→cA P ops (iv I F E K) (Oper.mk none (.mapUpdate t x y z) ty pos af none::rest) ρ w:=fun arr' clock' he' hrun=>by
  refine qf U ?_
  unfold iN
  rw[hrun]
  obtain ⟨L',h7,h8⟩:=hback (qd I) (A':=[(b,.map arr' clock')]) ⟨arr',clock',rfl,he'⟩
  have hh:=MapKept.heap_set (o':=.map arr' clock') hb
  have hS3:SL I.k ((b,.map arr' clock')::(B++F)) E { w with heap:=w.heap.setIfInBounds b (.map arr' clock') }:=hS2.turn rfl rfl rfl hh.1 hh.2
  exact k I F ρ _ h1 ⟨htop,L',h7,hS3.perm (h8.append_right F)⟩
 cases hg:jV s es with
 |none=>
  have hf:=iQ (i:=0) he hg
  refine fin (arr.push { key:=.string s,val:=.int .i64 v,born:=clock }) (clock+1) ?_ ?_
  ·have hset:∀es:List (ByteArray × Int),jV s es=none→nw s v es=es++[(s,v)]:=fun es=>by
    induction es with
    |nil=>intro _;rfl
    |cons x es ih=>
     obtain ⟨k,u⟩:=x
     intro hg
     simp only[jV] at hg
     split at hg
     ·cases hg
     ·rename_i hne;simp[nw,hne,ih hg]
   rw[hset es hg]
   simp[he,m8]
  ·simp[execOp,hx,hy,hz,Instr.mapUpdate,run_underlying ht,MapKept.run_getObj_map hb,hc,MapKept.run_findKey hk hf,MapKept.run_setObj_map _ hb,Result.andThen]
 |some u=>
  obtain ⟨j,hf,⟨e0,hj,hkey⟩,hset⟩:=iR (i:=0) he hg
  rw[Nat.zero_add] at hf
  have hj':arr[j]?=some e0:=by rw[←Array.getElem?_toList];exact hj
  refine fin (arr.modify j fun e=>{ e with key:=.string s,val:=.int .i64 v }) clock ?_ ?_
  ·rw[←hset v,List.map_set]
   have hjl:j<arr.toList.length:=(List.getElem?_eq_some_iff.1 hj).1
   have:(arr.modify j fun e=>{ e with key:=.string s,val:=.int .i64 v }).toList=arr.toList.set j { e0 with key:=.string s,val:=.int .i64 v }:=by
    apply List.ext_getElem?
    intro q
    rw[Array.getElem?_toList,Array.getElem?_modify]
    by_cases hq:j=q
    ·subst hq
     rw[if_pos rfl,hj',List.getElem?_set_self hjl];rfl
    ·rw[if_neg hq,List.getElem?_set_ne hq,Array.getElem?_toList]
   rw[this,List.map_set,he];rfl
  ·have hkeep:(Instr.keyThatStays (.string s) (.string s)).run P w=.ok (.string s) w:=by
    have hss:(s == s)=true:=(MapKept.bytes_beq s s).2 rfl
    simp[Instr.keyThatStays,Instr.sameBits,hss]
   simp[execOp,hx,hy,hz,Instr.mapUpdate,run_underlying ht,MapKept.run_getObj_map hb,hc,MapKept.run_findKey hk hf,MapKept.run_setObj_map _ hb,Result.andThen,hj',hkey,hkeep]
end
end Go.Proofs.YtdilpodccjlkgaaGreatDoor
namespace Go.Proofs.YtdilpodccjlkgaaGreatDoor
open Go.Proofs.Tryz
section
variable {E:World} {P:Program} {n:Nat} {ops:Array Oper} {K:aS→OL→Prop} {env:aS} {O O':OL} {rest:List Oper} {R:AV→OL→Prop}
variable {d ty:Nat} {pos:String} {af:Array Edge} {t e:TypeId} {x y:Operand}
theorem dI.c1t {t u T i:Nat} {T':TypeId} {cs:List AV} {n:Nat} {y:AV} (hv:env t=.po i 0) (hu:env u=y) (hO:nN O i (.cells T' cs)) (ha:∀w,(isAgg T).run P w=.ok true w) (hs:∀w,(sizeOf T).run P w=.ok n w) (hn:cs.length=n) (h:R (.tup [.agg cs,y]) O) :
  dI P E #[.cell t T,.tmp u] R .ret env O:=dI.of (x:=.tup [.agg cs,y]) (fun I F ρ w h1 h2=>by
 obtain ⟨L,hL,hS⟩:=h2.2
 have h3:=h1 t
 rw[hv] at h3
 obtain ⟨b,c,e1,e⟩:=h3
 obtain ⟨b',c',vs,e2,h4,hm⟩:=hO.cells hL
 rw[e1] at e2;cases e2
 have hl:=jK (P:=P) (w:=w) (b:=b) (off:=0) ha (cs:=vs) (by rw[h4.length,hn];exact hs) (fun j v hj=>by
  rw[Nat.zero_add]
  exact hS.at_ (.inr ⟨_,_,_,List.mem_append_left _ hm,by rw[List.getElem?_toArray];exact hj⟩))
 exact ⟨.tuple #[.agg vs.toArray,ρ u],by simp[pX,e,asAddr,hl],⟨[_,_],rfl,_,_,rfl,⟨vs,rfl,h4⟩,_,_,rfl,hu▸h1 u,rfl⟩⟩) h
end
end Go.Proofs.YtdilpodccjlkgaaGreatDoor
namespace Go.Proofs.YtdilpodccjlkgaaGreatDoor
open Go.Proofs.Tryz
section
variable {E:World} {P:Program} {env:aS} {O:OL} {d ty:Nat} {pos:String} {af:Array Edge} {x:Operand} {t u:TypeId}
end
end Go.Proofs.YtdilpodccjlkgaaGreatDoor
namespace Go.Proofs.YtdilpodccjlkgaaGreatDoor
open Go.Proofs.Tryz
section
variable {E:World} {P:Program} {ops:Array Oper} {K:aS→OL→Prop} {env:aS} {O O' O'':OL} {rest:List Oper} {n:Nat}
variable {d ty:Nat} {pos:String} {af:Array Edge} {x y z:Operand} {t u e:TypeId}
theorem xZ {A row:List AV} {j:Nat} {c:AV} (h:row[j]?=some c):(A++row).drop (A.length+j)=c::row.drop (j+1):=by
 obtain ⟨hj,rfl⟩:=List.getElem?_eq_some_iff.1 h
 rw[List.drop_append,List.drop_eq_nil_of_le (by omega),Nat.add_sub_cancel_left,List.nil_append]
 exact List.drop_eq_getElem_cons hj
theorem Gv.loadL {i off j k:Nat} {T:TypeId} {c:AV} {A row:List AV} (ha:∀w,(isAgg t).run P w=.ok false w) (hx:aV env x=.po i off) (hoff:off=A.length+j) (hO:nN O i (.grow k T (A++row))) (hv:row[j]?=some c) :
  Gv P env O (Oper.mk (some d) (.load t x) ty pos af none) c:=Gv.load1G ha hx hO (by subst hoff;exact xZ hv)
theorem az.storeL {i off j m k:Nat} {T:TypeId} {v:AV} {A row l new:List AV} (hs:∀w,(sizeOf t).run P w=.ok m w) (hx:aV env x=.po i off) (hoff:off=A.length+j) (hy:aV env y=v) (hv:v.sto=true) (hl:v.cs=l) (hl1:l.all AV.cell=true) (hn:l.length=m)
  (hO:fD O i (.grow k T (A++row)) (.grow k T (A++new)) O') (hb:Nat.ble (j+m) row.length=true) (hm:Nat.ble 1 m=true) (hnew:row.take j++l++row.drop (j+m)=new) (kk:az P E ops K rest env O'):az P E ops K (Oper.mk none (.store t x y) ty pos af none::rest) env O:=
 az.storeG hs hx hy hv hl hl1 hn hO (by have:=Nat.le_of_ble_eq_true hb;rw[qq];omega) (Nat.le_of_ble_eq_true hm) (by
  have:=Nat.le_of_ble_eq_true hb
  subst hoff hnew
  rw[List.take_append,List.take_of_length_le (by omega:A.length≤A.length+j),Nat.add_sub_cancel_left,List.drop_append,List.drop_eq_nil_of_le (by omega:A.length≤A.length+j+m),Nat.add_assoc,Nat.add_sub_cancel_left]
  simp) kk
theorem Gv.idxOL {i n k j r:Nat} {a:Int} {T:TypeId} {cs:List AV} (ht:P.underlying t=some (.slice e)) (hs:∀w,(sizeOf e).run P w=.ok k w) (hx:aV env x=.own i n) (hy:aV env y=.int .i64 a) (hi:a=(j:Int)) (hO:nN O i (.grow k T cs)) (hne:cs≠[]) (hj:j<n) (hr:j*k=r) :
  Gv P env O (Oper.mk (some d) (.indexAddr t x y) ty pos af none) (.po i r):=hr▸Gv.idxO ht hs hx hy hi hO hne hj
theorem aX.eq (h:O=O'):aX E env O env O':=fun I F ρ w h1 h2=>⟨I,.refl _,h1,h▸h2⟩
end
section
variable {P:Program} {E:World} {l:List Oper} {W:Nat→Bool} {fuel:Nat} {listed:Array Bool} {d ty:Nat} {op:Op} {pos:String} {af:Array Edge}
end
theorem aX.knowP {E:World} {env:aS} {O O':OL} {t i:Nat} {T:TypeId} {cs:List AV} (hv:env t=.po i 0) (hO:dB O i (.cells T cs) O'):aX E env O (br env t (.pf cs)) O':=fun I F ρ w h1 ⟨ht,L,hL,hS⟩=>by
 obtain ⟨A,B,hp,⟨b,c,vs,e1,hvs,hvc,rfl⟩,hB⟩:=hO.rep hL
 simp only at e1
 have hS2:SL I.k ((b,.cells vs.toArray T (0,0))::(B++F)) E w:=hS.perm ((hp.append_right F).symm)
 obtain ⟨hl,hS3⟩:=SL.freeze hS2
 let J:G:=⟨I.k.put b (.cells vs.toArray T (0,0)),I.h⟩
 have hle:I.le J:=⟨hl,fun _ _ h=>h⟩
 refine ⟨J,hle,fun s=>?_,ht,B,hB.mono hle,hS3⟩
 unfold br
 cases hb:Nat.beq s t with
 |false=>exact bq.mono hle _ _ (h1 s)
 |true=>
  have:s=t:=Nat.eq_of_beq_eq_true hb
  subst this
  have h2:=h1 s
  rw[hv] at h2
  obtain ⟨b2,c2,e2,e3⟩:=h2
  rw[e1] at e2
  simp only[Option.some.injEq,Prod.mk.injEq] at e2
  obtain ⟨rfl,rfl⟩:=e2
  exact ⟨b,0,vs,e3,qj hle _ _ hvs,fun j u hj=>⟨_,_,_,bI.put_same _ _ _,by rw[Nat.zero_add,List.getElem?_toArray];exact hj⟩⟩
end Go.Proofs.YtdilpodccjlkgaaGreatDoor
namespace Go.Proofs.YtdilpodccjlkgaaGreatDoor
open Go.Proofs.Tryz
section
variable {E:World} {P:Program} {ops:Array Oper} {K:aS→OL→Prop} {env:aS} {O O':OL} {rest:List Oper}
variable {d ty:Nat} {pos:String} {af:Array Edge} {x y z:Operand} {t u e:TypeId}
end
end Go.Proofs.YtdilpodccjlkgaaGreatDoor
namespace Go.Proofs.YtdilpodccjlkgaaGreatDoor
open Go.Proofs.Tryz
section
variable {P:Program} {env:aS} {O:OL}
variable {d ty:Nat} {pos:String} {af:Array Edge} {x y:Operand}
theorem Gv.maxI {ts:Array TypeId} {k:IntKind} {a b:Int} (hx:aV env x=.int k a) (hy:aV env y=.int k b):Gv P env O (Oper.mk (some d) (.call { callee:=.builtin .max,args:=#[x,y],argTypes:=ts }) ty pos af none) (.int k (if b>a then b else a)):=Gv.ofEv fun I ρ h=>⟨_,rfl,fun w=>by
 simp[execOp,resolve,fB h hx,fB h hy,invoke,builtin,Builtin.max_,Builtin.max2,Result.andThen]⟩
theorem Gv.minI {ts:Array TypeId} {k:IntKind} {a b:Int} (hx:aV env x=.int k a) (hy:aV env y=.int k b):Gv P env O (Oper.mk (some d) (.call { callee:=.builtin .min,args:=#[x,y],argTypes:=ts }) ty pos af none) (.int k (if b<a then b else a)):=Gv.ofEv fun I ρ h=>⟨_,rfl,fun w=>by
 simp[execOp,resolve,fB h hx,fB h hy,invoke,builtin,Builtin.min_,Builtin.min2,Result.andThen]⟩
end
end Go.Proofs.YtdilpodccjlkgaaGreatDoor
namespace Go.Proofs.YtdilpodccjlkgaaGreatDoor
open Go.Proofs.Tryz
open Go.Lib
section
variable {P:Program} {ops:Array Oper} {K:dD→World→Prop} {ρ:dD} {w:World} {rest:List Oper}
variable {d ty:Nat} {pos:String} {af:Array Edge} {x y z:Operand} {t u e:TypeId}
variable {I:bI} {O A:List (Nat × Obj)} {E:World}
end
section
variable {E:World} {P:Program} {ops:Array Oper} {K:aS→OL→Prop} {env:aS} {O O':OL} {rest:List Oper}
variable {d ty:Nat} {pos:String} {af:Array Edge} {x y z:Operand} {t u e:TypeId}
end
section
variable {E:World} {P:Program} {env:aS} {O:OL} {d ty:Nat} {pos:String} {af:Array Edge} {t e kt:TypeId} {x y:Operand} {b i:Nat} {es:List (ByteArray × Int)}
theorem Gv.lookup1S {s:ByteArray} (ht:P.underlying t=some (.map kt e)) (hk:P.underlying kt=some .string) (hz:∀w,(zeroValue e).run P w=.ok (.int .i64 0) w) (hx:aV env x=dw b) (hy:aV env y=.str s) (hO:nN O i (xY b es)) :
  Gv P env O (Oper.mk (some d) (.lookup t x y false) ty pos af none) (.int .i64 ((jV s es).getD 0)):=fun I L E ρ h1 hL=>by
 obtain ⟨arr,clock,hm,he⟩:=Ey hO hL
 have hx:=fd h1 hx
 have hy:=CK h1 hy
 refine ⟨.int .i64 ((jV s es).getD 0),U,fun w J L' hl hS hin=>?_⟩
 have hb:=hS.own _ (hin _ hm)
 simp only at hb
 have hc:(Instr.checkKey arr.isEmpty 10000 kt (.string s)).run P w=.ok () w:=MapKept.run_checkKey (k:=.string s) hk (by simp[MapKept.IsKey]) _ 9999
 cases hg:jV s es with
 |none=>
  have hf:=iQ (i:=0) he hg
  simp[execOp,Instr.lookup,run_underlying ht,hx,hy,MapKept.run_getObj_map hb,hc,MapKept.run_findKey hk hf,hz,Result.andThen]
 |some u=>
  obtain ⟨j,hf,_⟩:=iR (i:=0) he hg
  simp[execOp,Instr.lookup,run_underlying ht,hx,hy,MapKept.run_getObj_map hb,hc,MapKept.run_findKey hk hf,Result.andThen]
end
theorem tn (s v:ByteArray) (n:Int):∀es:List (ByteArray × Int),jV s (nw v n es)=if s=v then some n else jV s es
 |[]=>by simp only[nw,jV]
 |(k,u)::es=>by
  simp only[nw]
  split
  ·rename_i h;subst h;simp only[jV];split<;>rfl
  ·rename_i h
   simp only[jV,tn s v n es]
   split
   ·rename_i h2;subst h2;rw[if_neg (fun e=>h e.symm)]
   ·rfl
end Go.Proofs.YtdilpodccjlkgaaGreatDoor
namespace Go.Proofs.YtdilpodccjlkgaaGreatDoor
open Go.Proofs.Tryz
def cI (l:List Int):List AV:=l.map (AV.int .i64)
def cB (l:List Bool):List AV:=l.map AV.bool
theorem aQ (l:List Int):(cI l).length=l.length:=by simp[cI]
theorem aW (l:List Bool):(cB l).length=l.length:=by simp[cB]
theorem rV (l:List Int):(l.map fun x=>[AV.int .i64 x]).flatten=cI l:=by
 induction l with
 |nil=>rfl
 |cons x l ih=>simp only[List.map_cons,List.flatten_cons,ih];rfl
theorem CR (l:List Bool):(l.map fun x=>[AV.bool x]).flatten=cB l:=by
 induction l with
 |nil=>rfl
 |cons x l ih=>simp only[List.map_cons,List.flatten_cons,ih];rfl
theorem lw (l m:List Int):cI l++cI m=cI (l++m):=by simp[cI]
theorem Ez (l:List Int) (j:Nat) (v:Int):(cI l).set j (.int .i64 v)=cI (l.set j v):=by unfold cI;rw[List.map_set]
theorem EA (l:List Bool) (j:Nat) (v:Bool):(cB l).set j (.bool v)=cB (l.set j v):=by unfold cB;rw[List.map_set]
theorem CS {l:List Int} {j:Nat} {v:Int} (h:l[j]?=some v):(cI l).drop j=.int .i64 v::(cI l).drop (j+1):=by
 obtain ⟨hj,e⟩:=List.getElem?_eq_some_iff.1 h
 rw[List.drop_eq_getElem_cons (by rw[aQ];exact hj)]
 unfold cI
 rw[List.getElem_map,e]
theorem CT {l:List Bool} {j:Nat} {v:Bool} (h:l[j]?=some v):(cB l).drop j=.bool v::(cB l).drop (j+1):=by
 obtain ⟨hj,e⟩:=List.getElem?_eq_some_iff.1 h
 rw[List.drop_eq_getElem_cons (by rw[aW];exact hj)]
 unfold cB
 rw[List.getElem_map,e]
theorem EB (n:Nat) (v:Int):List.replicate n (AV.int .i64 v)=cI (List.replicate n v):=by simp[cI]
theorem EC (n:Nat) (v:Bool):List.replicate n (AV.bool v)=cB (List.replicate n v):=by simp[cB]
theorem x8 (I:G) (l:List Int):RepL I (cI l) (l.map (Value.int .i64)):=by
 unfold cI
 induction l with
 |nil=>rfl
 |cons x l ih=>exact ⟨_,_,rfl,rfl,ih⟩
theorem Ea {I:G}:∀{l:List Int} {vs:List Value},RepL I (cI l) vs→vs=l.map (Value.int .i64)
 |[],_,h=>h
 |x::l,_,⟨v,us,e,h1,h2⟩=>by
  have h1:v=.int .i64 x:=h1
  rw[e,h1,Ea h2];rfl
section
variable {E:World} {P:Program} {ops:Array Oper} {K:aS→OL→Prop} {env:aS} {O O' O'':OL} {rest:List Oper} {n:Nat}
variable {d ty:Nat} {pos:String} {af:Array Edge} {x y z:Operand} {t u e:TypeId}
theorem Gv.idxI {i n j:Nat} {a:Int} {T:TypeId} {cs:List AV} (ht:P.underlying t=some (.slice e)) (hs:∀w,(sizeOf e).run P w=.ok 1 w) (hx:aV env x=.own i n) (hy:aV env y=.int .i64 a) (hi:a=(j:Int)) (hO:nN O i (.grow 1 T cs)) (hn:cs.length=n) (hj:j<n) :
  Gv P env O (Oper.mk (some d) (.indexAddr t x y) ty pos af none) (.po i j):=
 Gv.idxOL ht hs hx hy hi hO (fun e=>by rw[e] at hn;simp at hn;omega) hj (Nat.mul_one j)
theorem Gv.loadI {i j:Nat} {T:TypeId} {l:List Int} {v:Int} (ha:∀w,(isAgg t).run P w=.ok false w) (hx:aV env x=.po i j) (hO:nN O i (.grow 1 T (cI l))) (hv:l[j]?=some v) :
  Gv P env O (Oper.mk (some d) (.load t x) ty pos af none) (.int .i64 v):=Gv.load1G ha hx hO (CS hv)
theorem Gv.loadB {i j:Nat} {T:TypeId} {l:List Bool} {v:Bool} (ha:∀w,(isAgg t).run P w=.ok false w) (hx:aV env x=.po i j) (hO:nN O i (.grow 1 T (cB l))) (hv:l[j]?=some v) :
  Gv P env O (Oper.mk (some d) (.load t x) ty pos af none) (.bool v):=Gv.load1G ha hx hO (CT hv)
theorem fD.cast {i k:Nat} {T:TypeId} {o:bS} {cs ds:List AV} (h:fD O i o (.grow k T cs) O') (e:cs=ds):fD O i o (.grow k T ds) O':=e▸h
theorem az.storeI {i j:Nat} {T:TypeId} {l:List Int} {v:Int} (hs:∀w,(sizeOf t).run P w=.ok 1 w) (hx:aV env x=.po i j) (hy:aV env y=.int .i64 v) (hO:fD O i (.grow 1 T (cI l)) (.grow 1 T (cI (l.set j v))) O') (hb:j<l.length)
  (kk:az P E ops K rest env O'):az P E ops K (Oper.mk none (.store t x y) ty pos af none::rest) env O:=
 az.storeG1 (cs:=cI l) hs hx hy rfl rfl rfl (hO.cast (Ez l j v).symm) (by rw[aQ];exact hb) kk
theorem az.storeB {i j:Nat} {T:TypeId} {l:List Bool} {v:Bool} (hs:∀w,(sizeOf t).run P w=.ok 1 w) (hx:aV env x=.po i j) (hy:aV env y=.bool v) (hO:fD O i (.grow 1 T (cB l)) (.grow 1 T (cB (l.set j v))) O') (hb:j<l.length)
  (kk:az P E ops K rest env O'):az P E ops K (Oper.mk none (.store t x y) ty pos af none::rest) env O:=
 az.storeG1 (cs:=cB l) hs hx hy rfl rfl rfl (hO.cast (EA l j v).symm) (by rw[aW];exact hb) kk
theorem az.makeI {i:TypeInfo} {zv:Value} {m:Nat} {k1 k2:IntKind} {l l':Int} (ht:P.underlying t=some (.slice e)) (hi:P.info? e=some i) (hz:i.zero=some zv) (hzc:zv.cells=#[.int .i64 0]) (hk:i.size=1) (hx:aV env x=.int k1 l) (hy:aV env y=.int k2 l')
  (hl:l=(m:Int)) (hl':l'=(m:Int)) (hb:(i.bytes:Int)*(m:Int)≤281474976710656) (hm:m≤281474976710656) (kk:∀j,az P E ops K rest (br env d (.own j m)) ((j,.grow 1 e (cI (List.replicate m 0)))::O)) :
  az P E ops K (Oper.mk (some d) (.makeSlice t x y) ty pos af none::rest) env O:=
 az.make1 ht hi hz hzc hk hx hy hl hl' hb hm rfl fun j=>by rw[show lit (.int .i64 0)=AV.int .i64 0 from rfl,EB];exact kk j
theorem az.makeB {i:TypeInfo} {zv:Value} {m:Nat} {k1 k2:IntKind} {l l':Int} (ht:P.underlying t=some (.slice e)) (hi:P.info? e=some i) (hz:i.zero=some zv) (hzc:zv.cells=#[.bool false]) (hk:i.size=1) (hx:aV env x=.int k1 l) (hy:aV env y=.int k2 l')
  (hl:l=(m:Int)) (hl':l'=(m:Int)) (hb:(i.bytes:Int)*(m:Int)≤281474976710656) (hm:m≤281474976710656) (kk:∀j,az P E ops K rest (br env d (.own j m)) ((j,.grow 1 e (cB (List.replicate m false)))::O)) :
  az P E ops K (Oper.mk (some d) (.makeSlice t x y) ty pos af none::rest) env O:=
 az.make1 ht hi hz hzc hk hx hy hl hl' hb hm rfl fun j=>by rw[show lit (.bool false)=AV.bool false from rfl,EC];exact kk j
theorem aX.knowI {t i m:Nat} {T:TypeId} {l:List Int} (hv:env t=.own i m) (hO:dB O i (.grow 1 T (cI l)) O') (hm:l.length=m):aX E env O (br env t (.fro 1 (l.map fun x=>[.int .i64 x]))) O':=
 aX.know hv (by rw[rV];exact hO) (fun r hr=>by obtain ⟨_,_,rfl⟩:=List.mem_map.1 hr;rfl) (by decide) (by rw[qr];exact hm)
theorem aX.knowB {t i m:Nat} {T:TypeId} {l:List Bool} (hv:env t=.own i m) (hO:dB O i (.grow 1 T (cB l)) O') (hm:l.length=m):aX E env O (br env t (.fro 1 (l.map fun x=>[.bool x]))) O':=
 aX.know hv (by rw[CR];exact hO) (fun r hr=>by obtain ⟨_,_,rfl⟩:=List.mem_map.1 hr;rfl) (by decide) (by rw[qr];exact hm)
end
structure fE (α:Type) where
 k:Nat
 val:α→List Value
 pos:0<k
 len:∀x,(val x).length=k
 one:∀x,∀u∈val x,u.oneCell'=true
variable {α:Type}
def fE.vs (c:fE α) (l:List α):List Value:=l.flatMap c.val
def fE.row (c:fE α) (x:α):List AV:=(c.val x).map lit
def fE.av (c:fE α) (l:List α):List AV:=l.flatMap c.row
theorem fE.vs_len (c:fE α) (l:List α):(c.vs l).length=l.length*c.k:=by
 unfold fE.vs
 induction l with
 |nil=>simp
 |cons x l ih=>rw[List.flatMap_cons,qq,ih,c.len,List.length_cons,Nat.add_mul];omega
theorem fE.av_eq (c:fE α) (l:List α):c.av l=(c.vs l).map lit:=by
 unfold fE.av fE.vs
 induction l with
 |nil=>rfl
 |cons x l ih=>rw[List.flatMap_cons,List.flatMap_cons,qv,ih];rfl
theorem fE.av_len (c:fE α) (l:List α):(c.av l).length=l.length*c.k:=by rw[c.av_eq,qr,c.vs_len]
theorem fE.av_app (c:fE α) (l m:List α):c.av l++c.av m=c.av (l++m):=by unfold fE.av;rw[List.flatMap_append]
theorem fE.av_push (c:fE α) (l:List α) (x:α):c.av l++c.row x=c.av (l++[x]):=by rw[←c.av_app];unfold fE.av;simp
theorem fE.vs_one (c:fE α) (l:List α):∀u∈c.vs l,u.oneCell'=true:=by
 intro u hu
 unfold fE.vs at hu
 obtain ⟨x,_,hx⟩:=List.mem_flatMap.1 hu
 exact c.one x u hx
theorem fE.av_un (c:fE α) {I:G} {l:List α} {vs:List Value} (h:RepL I (c.av l) vs):vs=c.vs l:=by rw[c.av_eq] at h;exact kN h
def eI:fE Int:=⟨1,fun x=>[.int .i64 x],by decide,fun _=>rfl,fun x u hu=>by simp at hu;subst hu;rfl⟩
def eP:fE (Int × Int):=⟨2,fun p=>[.int .i64 p.1,.int .i64 p.2],by decide,fun _=>rfl,fun x u hu=>by simp at hu;rcases hu with rfl|rfl<;>rfl⟩
theorem AG (l:List Int):eI.av l=cI l:=by
 unfold fE.av cI
 induction l with
 |nil=>rfl
 |cons x l ih=>rw[List.flatMap_cons,ih];rfl
inductive eT (c:fE α) (e:TypeId):List (List α)→List Value→List (Nat × Obj)→Prop
 |nil:eT c e [] [] []
 |cons {r rs a n cap hs A B}:fC c.k e a n cap (c.vs r) A→eT c e rs hs B→eT c e (r::rs) (.slice a n cap::hs) (A++B)
theorem eT.len {c:fE α} {e:TypeId} {rows:List (List α)} {hs:List Value} {L:List (Nat × Obj)} (h:eT c e rows hs L):hs.length=rows.length:=by
 induction h with
 |nil=>rfl
 |cons _ _ ih=>simp[ih]
def Eb (c:fE α) (e:TypeId) (rows:List (List α)) (j:Nat) (hs:List Value) (B:List (Nat × Obj)):Prop:=
 ∀r' a' n' c' A',fC c.k e a' n' c' (c.vs r') A'→∃L',eT c e (rows.set j r') (hs.set j (.slice a' n' c')) L'∧L'.Perm (A'++B)
theorem eT.get {c:fE α} {e:TypeId} {rows:List (List α)} {hs:List Value} {L:List (Nat × Obj)} (h:eT c e rows hs L):∀{j:Nat} {r:List α},rows[j]?=some r →
  ∃a n cap A B,hs[j]?=some (.slice a n cap)∧fC c.k e a n cap (c.vs r) A∧L.Perm (A++B)∧Eb c e rows j hs B:=by
 induction h with
 |nil=>intro j r hj;simp at hj
 |@cons r0 rs a n cap hs A B h1 h2 ih=>
  intro j r hj
  cases j with
  |zero=>
   simp at hj;subst hj
   exact ⟨a,n,cap,A,B,rfl,h1,.refl _,fun r' a' n' c' A' h=>⟨A'++B,.cons h h2,.refl _⟩⟩
  |succ j=>
   obtain ⟨a1,n1,c1,A1,B1,g1,g2,g3,g4⟩:=ih (j:=j) (r:=r) (by simpa using hj)
   refine ⟨a1,n1,c1,A1,A++B1,by simpa using g1,g2,?_,fun r' a' n' c' A' h=>?_⟩
   ·refine (g3.append_left A).trans ?_
    rw[←qm,←qm]
    exact List.perm_append_comm.append_right B1
   ·obtain ⟨L',k1,k2⟩:=g4 r' a' n' c' A' h
    refine ⟨A++L',by simpa using eT.cons h1 k1,?_⟩
    refine (k2.append_left A).trans ?_
    rw[←qm,←qm]
    exact List.perm_append_comm.append_right B1
theorem eT.rep (c:fE α) (e:TypeId):∀m:Nat,eT c e (List.replicate m []) (List.replicate m (.slice none 0 0)) []
 |0=>.nil
 |m+1=>by
  have:=eT.cons (c:=c) (r:=[]) (fC.nil c.k e) (eT.rep c e m)
  simpa [List.replicate_succ] using this
def du (c:fE α) (T e:TypeId) (b:Nat) (rows:List (List α)):bS:=.heap fun L=>∃hs B,L=(b,.cells hs.toArray T (0,0))::B∧eT c e rows hs B
def wN (c:fE α) (T e:TypeId) (b:Nat) (rows:List (List α)) (j n i:Nat):bS:=.heapG (fun I L=>∃hs B hd,L=(b,.cells hs.toArray T (0,0))::B∧I.h i=some hd∧hs[j]?=some (.slice (adr hd.1) n hd.2)∧hs.length=rows.length∧Eb c e rows j hs B)
 (fun I J L h hp=>by obtain ⟨hs,B,hd,h1,h2,h3⟩:=hp;exact ⟨hs,B,hd,h1,h.h _ _ h2,h3⟩)
def eb (b n:Nat):AV:=.raw (.slice (some ⟨b,0,none⟩) n n)
def CU (b j:Nat):AV:=.raw (.pointer (some ⟨b,j,none⟩))
theorem fC.adr {k:Nat} {e:TypeId} {a:Option Addr} {n c:Nat} {cs:List Value} {A:List (Nat × Obj)} (h:fC k e a n c cs A):∃b,a=Go.Proofs.YtdilpodccjlkgaaGreatDoor.adr b:=by
 rcases h.2.2 with ⟨e,_⟩|⟨b,junk,e,_⟩
 ·exact ⟨none,e⟩
 ·exact ⟨some b,e⟩
section
variable {E:World} {P:Program} {ops:Array Oper} {K:aS→OL→Prop} {env:aS} {O O' O'':OL} {rest:List Oper} {n:Nat}
variable {d ty:Nat} {pos:String} {af:Array Edge} {x y z:Operand} {t u e T:TypeId}
theorem az.makeNest {i:TypeInfo} {zv:Value} {m:Nat} {k1 k2:IntKind} {l l':Int} (ht:P.underlying t=some (.slice T)) (hi:P.info? T=some i) (hz:i.zero=some zv) (hzc:zv.cells=#[.slice none 0 0]) (hk:i.size=1) (hx:aV env x=.int k1 l) (hy:aV env y=.int k2 l')
  (hl:l=(m:Int)) (hl':l'=(m:Int)) (hb:(i.bytes:Int)*(m:Int)≤281474976710656) (hm:m≤281474976710656) (c:fE α) (e:TypeId) (kk:∀b,az P E ops K rest (br env d (eb b m)) ((0,du c T e b (List.replicate m []))::O)) :
  az P E ops K (Oper.mk (some d) (.makeSlice t x y) ty pos af none::rest) env O:=fun I F ρ w h1 h2=>by
 obtain ⟨htop,L,hL,hS⟩:=h2
 refine cA.make1 ht hi hz hzc hk (fB h1 hx) (fB h1 hy) hl hl' hb hm hS fun b w' hS'=>?_
 exact kk b I F _ _ (h1.upd d rfl) ⟨htop,_,⟨[(b,.cells (List.replicate m (.slice none 0 0)).toArray T (0,0))],L,rfl,⟨List.replicate m (.slice none 0 0),[],rfl,eT.rep c e m⟩,hL⟩,by simpa using hS'⟩
theorem Gv.idxN {b m j:Nat} {a:Int} (ht:P.underlying t=some (.slice T)) (hs:∀w,(sizeOf T).run P w=.ok 1 w) (hx:aV env x=eb b m) (hy:aV env y=.int .i64 a) (hi:a=(j:Int)) (hj:j<m) :
  Gv P env O (Oper.mk (some d) (.indexAddr t x y) ty pos af none) (CU b j):=Gv.ofEv fun I ρ h=>by
 have h1:=fd h hx
 have h2:=fB h hy
 subst hi
 have hlt:((j:Int)<(m:Int)):=by omega
 refine ⟨_,U,fun w=>?_⟩
 simp[execOp,h1,h2,Instr.indexAt,Sem.run_bind,run_underlying ht,hs,hlt,dy,asIntOf]
 intro h;omega
theorem Gv.lenN {b m:Nat} (ht:P.underlying t=some (.slice T)) (hx:aV env x=eb b m):Gv P env O (Oper.mk (some d) (.call { callee:=.builtin .len,args:=#[x],argTypes:=#[t] }) ty pos af none) (.int .i64 m):=Gv.ofEv fun I ρ h=>by
 have h1:=fd h hx
 exact ⟨_,rfl,fun w=>by simp[execOp,resolve,h1,invoke,builtin,Builtin.len_,run_underlying ht,goInt]⟩
theorem az.nestTake {c:fE α} {b j m:Nat} {rows:List (List α)} {r:List α} {f:Nat→OL} (ha:∀w,(isAgg t).run P w=.ok false w) (hx:aV env x=CU b j) (hr:rows[j]?=some r)
  (hO:∀i,fD O m (du c T e b rows) (wN c T e b rows j r.length i) (f i)) (kk:∀i,az P E ops K rest (br env d (.own i r.length)) ((i,.grow c.k e (c.av r))::f i)) :
  az P E ops K (Oper.mk (some d) (.load t x) ty pos af none::rest) env O:=fun I F ρ w h1 h2=>by
 obtain ⟨i,hi⟩:=h2.name
 obtain ⟨htop,L,hL,hS⟩:=h2
 have hx:=fd h1 hx
 obtain ⟨A,B,hp,⟨hs,B0,rfl,hN⟩,hback⟩:=(hO i).rep hL
 obtain ⟨a,n,cap,A1,B1,g1,g2,g3,g4⟩:=hN.get hr
 obtain ⟨b1,rfl⟩:=g2.adr
 have hn:n=r.length:=by have:=g2.1;rw[c.vs_len] at this;exact (Nat.eq_of_mul_eq_mul_right c.pos this).symm
 subst hn
 obtain ⟨J,e1,hle,e2,htop'⟩:=hi (b1,cap)
 have hS2:SL I.k ((b,.cells hs.toArray T (0,0))::(B0++(B++F))) E w:=hS.perm (by
  have:=hp.append_right F
  simpa using this.symm)
 obtain ⟨L',h5,h6⟩:=hback hle (A':=(b,.cells hs.toArray T (0,0))::B1) ⟨hs,B1,(b1,cap),rfl,e2,g1,hN.len,g4⟩
 refine cA.load1 (I:=I.k) (O:=(b,.cells hs.toArray T (0,0))::(B0++(B++F))) ha hS2 hx (.inr ⟨_,_,_,.head _,by rw[List.getElem?_toArray];exact g1⟩) ?_
 refine q4 (fun _ _=>q5 hle) _ _ _ (kk i J F _ _ ((h1.mono hle).upd d ⟨b1,cap,e2,U⟩) ⟨htop',A1++L',⟨A1,L',U,⟨b1,cap,_,c.vs r,e2,by rw[c.av_eq];exact eA J _,c.vs_one r,g2⟩,h5⟩,?_⟩)
 rw[e1]
 refine hS2.perm<|List.Perm.trans ?_ (List.Perm.cons _ ((g3.append_right (B++F)).symm))
 have h7:(A1++L'++F).Perm (A1++((b,Obj.cells hs.toArray T (0,0))::(B1++B))++F):=(h6.append_left A1).append_right F
 refine h7.trans ?_
 simp only[qm,List.cons_append]
 exact List.perm_middle
theorem az.nestPut {c:fE α} {b j m i i0 n0 n1 k:Nat} {rows:List (List α)} {r:List α} {cs:List AV} (hs1:∀w,(sizeOf t).run P w=.ok 1 w) (hx:aV env x=CU b j) (hy:aV env y=.own i n1) (hj:j<rows.length)
  (hP0:dB O i (.grow k e cs) O') (hO:fD O' m (wN c T e b rows j n0 i0) (du c T e b (rows.set j r)) O'') (hk:k=c.k) (hcs:cs=c.av r) (hn1:r.length=n1) (kk:az P E ops K rest env O'') :
  az P E ops K (Oper.mk none (.store t x y) ty pos af none::rest) env O:=fun I F ρ w h1 h2=>by
 obtain ⟨htop,L,hL,hS⟩:=h2
 have hP:dB O i (.grow c.k e (c.av r)) O':=by subst hk hcs;exact hP0
 have hx:=fd h1 hx
 have h3:=h1.ev y
 rw[hy] at h3
 obtain ⟨b1,c1,e1,ey⟩:=h3
 obtain ⟨A,B,hp,⟨b1',c1',n',vs,e2,hvs,hvc,hown⟩,hB⟩:=hP.rep hL
 simp only at e2
 rw[e1] at e2
 simp only[Option.some.injEq,Prod.mk.injEq] at e2
 obtain ⟨rfl,rfl⟩:=e2
 have hv:=c.av_un hvs
 subst hv
 have hnn:n'=n1:=by have:=hown.1;rw[c.vs_len,hn1] at this;exact (Nat.eq_of_mul_eq_mul_right c.pos this).symm
 subst hnn
 obtain ⟨A2,B2,hp2,⟨hs,B0,hd,rfl,_,hsj,hsl,hole⟩,hback⟩:=hO.rep hB
 obtain ⟨L',k1,k2⟩:=hole r _ _ _ A hown
 have hS2:SL I.k ([(b,.cells hs.toArray T (0,0))]++(A++(B0++(B2++F)))) E w:=hS.perm (by
  refine List.Perm.trans ?_ ((hp.append_right F).symm)
  refine List.Perm.trans ?_ (((hp2.append_left A).append_right F).symm)
  simp only[qm,List.cons_append,List.nil_append]
  exact (List.perm_middle).symm)
 refine cA.store1 (cs:=hs) (off:=j) hs1 hx ey U (by rw[hsl];exact hj) hS2 fun w' hS'=>?_
 obtain ⟨L2,h7,h8⟩:=hback (qd I) (A':=(b,.cells (hs.set j (.slice (adr b1) n' c1)).toArray T (0,0))::L') ⟨_,L',rfl,k1⟩
 refine kk I F _ _ h1 ⟨htop,L2,h7,hS'.perm ?_⟩
 refine (h8.append_right F).trans ?_
 simp only[List.cons_append,List.nil_append,qm]
 refine List.Perm.cons _ ?_
 have:=k2.append_right (B2++F)
 simpa [qm] using this
theorem aX.nestBack {c:fE α} {b j m i:Nat} {rows:List (List α)} {r:List α} (hP:dB O i (.grow c.k e (c.av r)) O') (hO:fD O' m (wN c T e b rows j r.length i) (du c T e b (rows.set j r)) O''):aX E env O env O'':=fun I F ρ w h1 h2=>by
 obtain ⟨htop,L,hL,hS⟩:=h2
 obtain ⟨A,B,hp,⟨b1,c1,n',vs,e2,hvs,hvc,hown⟩,hB⟩:=hP.rep hL
 have hv:=c.av_un hvs
 subst hv
 have hnn:n'=r.length:=by have:=hown.1;rw[c.vs_len] at this;exact (Nat.eq_of_mul_eq_mul_right c.pos this).symm
 subst hnn
 obtain ⟨A2,B2,hp2,⟨hs,B0,hd,rfl,e3,hsj,hsl,hole⟩,hback⟩:=hO.rep hB
 simp only at e2
 rw[e2] at e3
 simp only[Option.some.injEq] at e3
 subst e3
 obtain ⟨L',k1,k2⟩:=hole r _ _ _ A hown
 have hsame:hs.set j (.slice (adr b1) r.length c1)=hs:=by
  obtain ⟨h9,h10⟩:=List.getElem?_eq_some_iff.1 hsj
  refine List.ext_getElem? fun k=>?_
  by_cases ek:k=j
  ·subst ek;rw[List.getElem?_set_self h9,hsj]
  ·rw[List.getElem?_set_ne (fun e=>ek e.symm)]
 rw[hsame] at k1
 obtain ⟨L2,h7,h8⟩:=hback (qd I) (A':=(b,.cells hs.toArray T (0,0))::L') ⟨_,L',rfl,k1⟩
 refine ⟨I,.refl _,h1,htop,L2,h7,hS.perm ?_⟩
 refine (h8.append_right F).trans<|List.Perm.trans ?_ ((hp.append_right F).symm)
 refine List.Perm.trans ?_ (((hp2.append_left A).append_right F).symm)
 simp only[qm,List.cons_append,List.nil_append]
 refine List.Perm.trans ?_ (List.perm_middle).symm
 refine List.Perm.cons _ ?_
 have:=k2.append_right (B2++F)
 simpa [qm] using this
theorem SL.freezeAllN:∀{A:List (Nat × Obj)} {I:bI} {F:List (Nat × Obj)} {E w:World},SL I (A++F) E w→∃J,I.le J∧SL J F E w∧∀x∈A,J x.1=some x.2
 |[],I,F,E,w,h=>⟨I,.refl _,h,fun _ h=>by cases h⟩
 |(b,o)::A,I,F,E,w,h=>by
  obtain ⟨h1,h2⟩:=SL.freeze (show SL I ((b,o)::(A++F)) E w from h)
  obtain ⟨J,h3,h4,h5⟩:=SL.freezeAllN h2
  refine ⟨J,h1.trans h3,h4,fun x hx=>?_⟩
  rcases List.mem_cons.1 hx with rfl|hx
  ·exact h3 _ _ (bI.put_same _ _ _)
  ·exact h5 x hx
theorem fC.fro {c:fE α} {I:G} {e:TypeId} {a:Option Addr} {n cap:Nat} {r:List α} {A:List (Nat × Obj)} (h:fC c.k e a n cap (c.vs r) A) (hI:∀x∈A,I.k x.1=some x.2):bq I (.fro c.k (r.map c.row)) (.slice a n cap):=by
 obtain ⟨h1,h2,h3⟩:=h
 have hn:n=r.length:=by rw[c.vs_len] at h1;exact (Nat.eq_of_mul_eq_mul_right c.pos h1).symm
 subst hn
 rcases h3 with ⟨rfl,rfl,_⟩|⟨b,junk,rfl,rfl,hj⟩
 ·have h0:r=[]:=List.eq_nil_of_length_eq_zero (by omega)
  subst h0
  exact ⟨none,0,0,rfl,rfl,Nat.le_refl _,fun _=>rfl,trivial⟩
 ·have hb:=hI _ (.head _)
  simp only at hb
  have hflat:(r.map c.row).flatten=(c.vs r).map lit:=by rw[←c.av_eq];unfold fE.av;rw[List.flatMap]
  refine ⟨_,_,_,U,by simp,h2,fun e=>(by cases e),RepR.of_flat hb (r.map c.row) (c.vs r) 0 (fun x hx=>by obtain ⟨y,_,rfl⟩:=List.mem_map.1 hx;unfold fE.row;rw[qr,c.len]) (by rw[hflat];exact eA I _) fun i u hu=>?_⟩
  rw[Nat.zero_mul,Nat.zero_add,List.getElem?_toArray,List.getElem?_append_left (List.getElem?_eq_some_iff.1 hu).1]
  exact hu
theorem eT.fro {c:fE α} {I:G} {e:TypeId} {rows:List (List α)} {hs:List Value} {B:List (Nat × Obj)} (h:eT c e rows hs B) (hI:∀x∈B,I.k x.1=some x.2):RepL I (rows.map fun r=>.fro c.k (r.map c.row)) hs:=by
 induction h with
 |nil=>rfl
 |cons h1 _ ih=>exact ⟨_,_,rfl,h1.fro fun x hx=>hI x (List.mem_append_left _ hx),ih fun x hx=>hI x (List.mem_append_right _ hx)⟩
def lg (c:fE α) (rows:List (List α)):AV:=.fro 1 (rows.map fun r=>[.fro c.k (r.map c.row)])
theorem qV {c:fE α} {I:G} {F:List (Nat × Obj)} {E w:World} {b m:Nat} {rows:List (List α)} (hO:dB O m (du c T e b rows) O') (h:gt I O F E w):∃J B,I.le J∧bt I O' B∧(∃top,∀i,top≤i→J.h i=none)∧SL J.k (B++F) E w∧bq J (lg c rows) (.slice (some ⟨b,0,none⟩) rows.length rows.length):=by
 obtain ⟨htop,L,hL,hS⟩:=h
 obtain ⟨A,B,hp,⟨hs,B0,rfl,hN⟩,hB⟩:=hO.rep hL
 have hS2:SL I.k (((b,.cells hs.toArray T (0,0))::B0)++(B++F)) E w:=hS.perm (by rw[←qm];exact (hp.append_right F).symm)
 obtain ⟨J,h1,h2,h3⟩:=SL.freezeAllN hS2
 have hle:I.le ⟨J,I.h⟩:=⟨h1,fun _ _ h=>h⟩
 refine ⟨⟨J,I.h⟩,B,hle,hB,htop,h2,?_⟩
 have hb:=h3 _ (.head _)
 simp only at hb
 have hrep:=hN.fro (I:=⟨J,I.h⟩) fun x hx=>h3 x (.tail _ hx)
 refine ⟨_,_,_,U,by simp,Nat.le_refl _,fun e=>(by cases e),RepR.intro fun j row hj=>?_⟩
 rw[qs] at hj
 obtain ⟨r,hr,rfl⟩:=Option.map_eq_some_iff.1 hj
 obtain ⟨v,hv1,hv2⟩:=hrep.get (j:=j) (x:=.fro c.k (r.map c.row)) (by rw[qs,hr];rfl)
 refine ⟨b,0,[v],U,U,RepL.one hv2,fun i u hu=>?_⟩
 cases i with
 |zero=>
  simp at hu;subst hu
  exact ⟨_,_,_,hb,by rw[List.getElem?_toArray,show 0+(0+j)*1+0=j by omega];exact hv1⟩
 |succ i=>simp at hu
theorem aX.nestKnow {c:fE α} {s b m n:Nat} {rows:List (List α)} (hv:env s=eb b n) (hO:dB O m (du c T e b rows) O') (hn:rows.length=n):aX E env O (br env s (lg c rows)) O':=fun I F ρ w h1 h2=>by
 obtain ⟨J,B,hle,hB,htop,hS,hrep⟩:=qV hO h2
 refine ⟨J,hle,fun q=>?_,htop,B,hB.mono hle,hS⟩
 unfold br
 cases hb:Nat.beq q s with
 |false=>exact bq.mono hle _ _ (h1 q)
 |true=>
  have:q=s:=Nat.eq_of_beq_eq_true hb
  subst this
  have h4:=h1 q
  rw[hv] at h4
  have h4:ρ q=.slice (some ⟨b,0,none⟩) n n:=h4
  rw[h4,←hn];exact hrep
theorem aX.nestKnowC {c:fE α} {off b m n i:Nat} {T':TypeId} {cs:List AV} {rows:List (List α)} (hO:dB O m (du c T e b rows) O') (hP:fD O' i (.cells T' cs) (.cells T' (cs.set off (lg c rows))) O'') (hc:cs[off]?=some (eb b n)) (hn:rows.length=n):aX E env O env O'':=fun I F ρ w h1 h2=>by
 obtain ⟨J,B,hle,hB,htop,hS,hrep⟩:=qV hO h2
 obtain ⟨L',h5,h6⟩:=fD.same (F:=F) (E:=E) (w:=w) hle (.inr trivial) hP hc (fun v hv=>by
  have hv:v=.slice (some ⟨b,0,none⟩) n n:=hv
  rw[hv,←hn];exact hrep) hB
 exact ⟨J,hle,h1.mono hle,htop,L',h5,hS.perm (h6.symm.append_right F)⟩
end
end Go.Proofs.YtdilpodccjlkgaaGreatDoor
namespace Go.Proofs.YtdilpodccjlkgaaGreatDoor
open Go.Proofs.Tryz
section
variable {E:World} {P:Program} {ops:Array Oper} {K:aS→OL→Prop} {env:aS} {O O' O'':OL} {rest:List Oper} {n:Nat}
variable {d ty:Nat} {pos:String} {af:Array Edge} {x y z:Operand} {t u e:TypeId}
theorem az.cutTo {i k m j:Nat} {a:Int} {T:TypeId} {cs:List AV} (ht:P.underlying t=some (.slice e)) (hs:∀w,(sizeOf e).run P w=.ok k w) (hx:aV env x=.own i m) (hy:aV env y=.int .i64 a) (hi:a=(j:Int)) (hO:fD O i (.grow k T cs) (.grow k T (cs.take (j*k))) O')
  (hk:0<k) (hj:j*k≤cs.length)
  (kk:az P E ops K rest (br env d (.own i j)) O'):az P E ops K (Oper.mk (some d) (.slice t x none (some y) none) ty pos af none::rest) env O:=fun I F ρ w h1 h2=>by
 obtain ⟨htop,L,hL,hS⟩:=h2
 have h3:=h1.ev x
 rw[hx] at h3
 obtain ⟨b,c,e1,e2⟩:=h3
 have h4:=fB h1 hy
 subst hi
 obtain ⟨A,B,hp,⟨b',c',n',vs,e3,hvs,hvc,h5,h6,h7⟩,hback⟩:=hO.rep hL
 simp only at e3
 rw[e1] at e3
 simp only[Option.some.injEq,Prod.mk.injEq] at e3
 obtain ⟨rfl,rfl⟩:=e3
 have hlen:vs.length=cs.length:=hvs.length
 have hjn:j≤n':=by
  have:j*k≤n'*k:=by omega
  exact Nat.le_of_mul_le_mul_right this hk
 have hjc:j≤c:=by omega
 have hval:(execOp (Go.Proofs.YtdilpodccjlkgaaGreatDoor.ev ρ) (Oper.mk (some d) (.slice t x none (some y) none) ty pos af none)).run P w=.ok (.value (.slice (adr b) j c)) w:=by
  have:(if c=0 then adr b else (adr b).map (·.add (0*k)))=adr b:=by
   split
   ·rfl
   ·cases b<;>simp[adr,Addr.add]
  simp[execOp,Instr.sliceAt,Instr.slice,Instr.sliceBounds,Instr.sliceBound,asIntOf,Sem.run_bind,run_underlying ht,hs,e2,h4,hjc]
  simpa using this
 obtain ⟨L',h8,h9⟩:=hback (qd I) (A':=A) ⟨b,c,j,vs.take (j*k),e1,hvs.take _,fun u hu=>hvc u (List.mem_of_mem_take hu),by rw[List.length_take];omega,by omega,by
  rcases h7 with h7|⟨b2,junk,e4,e5,e6⟩
  ·exact .inl ⟨h7.1,h7.2.1,h7.2.2⟩
  ·exact .inr ⟨b2,vs.drop (j*k)++junk,e4,by rw[←qm,List.take_append_drop];exact e5,by rw[←qm,List.take_append_drop];exact e6⟩⟩
 exact cA.val hval (kk I F _ w (h1.upd d ⟨b,c,e1,rfl⟩) ⟨htop,L',h8,hS.perm ((h9.trans hp.symm).append_right F)⟩)
theorem az.cutLast {i k m j:Nat} {a:Int} {T:TypeId} {A row:List AV} (ht:P.underlying t=some (.slice e)) (hs:∀w,(sizeOf e).run P w=.ok k w) (hx:aV env x=.own i m) (hy:aV env y=.int .i64 a) (hi:a=(j:Int)) (hO:fD O i (.grow k T (A++row)) (.grow k T A) O')
  (hk:0<k) (hA:A.length=j*k)
  (kk:az P E ops K rest (br env d (.own i j)) O'):az P E ops K (Oper.mk (some d) (.slice t x none (some y) none) ty pos af none::rest) env O:=
 az.cutTo ht hs hx hy hi (hO.cast (by rw[←hA,List.take_left])) hk (by rw[qq];omega) kk
end
end Go.Proofs.YtdilpodccjlkgaaGreatDoor
namespace Go.Proofs.YtdilpodccjlkgaaGreatDoor
open Go.Proofs.Tryz
open Go.Sort (Holds putRow putCells onCells)
theorem tq {zs ys:List Int} {junk:List Value} (hl:ys.length=zs.length):putCells (Value.int .i64) 0 ys.toArray (zs.map (Value.int .i64)++junk).toArray=(ys.map (Value.int .i64)++junk).toArray:=by
 unfold putCells
 apply Array.ext_getElem?
 intro k
 simp only[Array.getElem?_mapIdx,List.getElem?_toArray,qn,true_and,Nat.zero_add,Nat.sub_zero,List.size_toArray]
 by_cases hk:k<ys.length
 ·rw[List.getElem?_append_left (by rw[qr];omega),List.getElem?_append_left (by rw[qr];omega),qs,qs,qk hk,qk (by omega:k<zs.length)]
  simp[hk]
 ·rw[List.getElem?_append_right (by rw[qr];omega),List.getElem?_append_right (by rw[qr];omega),qr,qr,hl]
  rw[hl] at hk
  simp only[hk,if_false]
  cases junk[k - zs.length]?<;>rfl
theorem SL.turned {I:bI} {O:List (Nat × Obj)} {E w:World} {b n:Nat} {zs ys:List Int} {junk:List Value} {T:TypeId} {os:Array Obj} (hl:ys.length=zs.length) (h:SL I ((b,.cells (zs.map (Value.int .i64)++junk).toArray T (0,0))::O) E w) :
  SL I ((b,.cells (ys.map (Value.int .i64)++junk).toArray T (0,0))::O) E (Go.Sort.grow (putRow (Value.int .i64) (Go.Sort.ahead w n) b 0 ys.toArray) os):=by
 have hb:=h.own _ (.head _)
 simp only at hb
 have hlt:=dM hb
 have h1:SL I ((b,.cells (ys.map (Value.int .i64)++junk).toArray T (0,0))::O) E (putRow (Value.int .i64) (Go.Sort.ahead w n) b 0 ys.toArray):=by
  refine h.turn U U U ?_ fun k hk=>?_
  ·show (w.heap.modify b (onCells (putCells (Value.int .i64) 0 ys.toArray)))[b]?=_
   rw[Array.getElem?_modify,if_pos rfl,hb]
   simp only[Option.map_some,onCells,tq hl]
  ·show (w.heap.modify b (onCells (putCells (Value.int .i64) 0 ys.toArray)))[k]?=_
   rw[Array.getElem?_modify,if_neg (fun e=>hk e.symm)]
 exact h1.more rfl rfl rfl fun k hk=>Go.Sort.heap_grow_old _ _ hk
theorem aR.turned {E:World} {P:Program} {f:FuncId} {fn:Func} {c:Code} {g:List Int→List Int} {B:Nat} (hf:P.funcs[f]?=some fn) (hb:fn.body=some c) (hn:fn.name≠"runtime.NumGoroutine") (hg:∀l,(g l).length=l.length)
  (hC:∀(blk cap:Nat) (zs:List Int) (w:World),Holds (Value.int .i64) w blk 0 zs.toArray→blk<w.heap.size→zs.length<B →
   Calls P f #[.slice (some ⟨blk,0,none⟩) zs.length cap] w fun e w'=>e=.returned (.tuple #[])∧∃n os,w'=Go.Sort.grow (putRow (Value.int .i64) (Go.Sort.ahead w n) blk 0 (g zs).toArray) os)
  (hN:∀(cap:Nat) (w:World),Calls P f #[.slice none 0 cap] w fun e w'=>e=.returned (.tuple #[])∧w'=w)
  {l:List Int} {i n:Nat} {T:TypeId} (hl:l.length=n) (hB:n<B):aR P E f [.own i n] [(i,.grow 1 T (cI l))] fun r O=>r=.tup []∧O=[(i,.grow 1 T (cI (g l)))]:=fun I F w vs h1 h2=>by
 obtain ⟨v,us,rfl,⟨b,c,e1,rfl⟩,h3⟩:=h1
 have h3:us=[]:=h3
 subst h3
 obtain ⟨ht,L,⟨A,B',e2,⟨b',c',n',ws,e3,h4,h5,h6⟩,h7⟩,hS⟩:=h2
 have h7:B'=[]:=h7
 subst h7
 rw[qw] at e2
 subst e2
 simp only at e3
 rw[e1] at e3
 simp only[Option.some.injEq,Prod.mk.injEq] at e3
 obtain ⟨rfl,rfl⟩:=e3
 have h4:=Ea h4
 subst h4
 refine Fn.ofCalls hf hb hn ?_
 obtain ⟨g1,g2,g3⟩:=h6
 rw[qr,Nat.mul_one] at g1
 have hnn:n'=n:=by omega
 subst hnn
 rcases g3 with ⟨ea,rfl,rfl⟩|⟨b2,junk,ea,rfl,hj⟩
 ·have h0:n'=0:=by omega
  subst h0
  have hl0:l=[]:=List.eq_nil_of_length_eq_zero hl
  subst hl0
  have hg0:g []=[]:=List.eq_nil_of_length_eq_zero (hg [])
  rw[ea]
  refine (hN 0 w).mono fun e w' ⟨he,hw⟩=>⟨_,he,I,.tup [],_,.refl _,⟨[],U,U⟩,?_,U,U⟩
  subst hw
  rw[hg0]
  exact ⟨ht,[],⟨[],[],rfl,⟨b,0,0,[],e1,rfl,by simp,by rw[ea];exact fC.nil 1 T⟩,rfl⟩,hS⟩
 ·rw[ea]
  have hS2:SL I.k ((b2,.cells (l.map (Value.int .i64)++junk).toArray T (0,0))::F) E w:=hS
  have hH:Holds (Value.int .i64) w b2 0 l.toArray:=fun j hjl=>by
   have hj2:j<l.length:=by simpa using hjl
   have hbk:=hS2.own _ (.head _)
   simp only at hbk
   refine ⟨?_,?_⟩
   ·rw[hS2.cell_own,Nat.zero_add,List.getElem?_toArray,List.getElem?_append_left (by rw[qr];exact hj2),qs,qk hj2]
    simp[hj2]
   ·simp[World.frozen?,hbk]
  have:=hC b2 c l w hH (dM (hS2.own _ (.head _))) (by omega)
  rw[hl] at this
  refine this.mono fun e w' ⟨he,k,os,hw⟩=>⟨_,he,I,.tup [],_,.refl _,⟨[],U,U⟩,?_,U,U⟩
  subst hw
  refine ⟨ht,[(b2,.cells ((g l).map (Value.int .i64)++junk).toArray T (0,0))],⟨_,[],by simp,⟨b,c,n',(g l).map (Value.int .i64),e1,x8 I (g l),fun u hu=>by obtain ⟨x,_,rfl⟩:=List.mem_map.1 hu;rfl,by rw[qr,hg,hl,Nat.mul_one],g2,.inr ⟨b2,junk,ea,rfl,by rw[qq,qr,hg] ;rw[qq,qr] at hj;exact hj⟩⟩,rfl⟩,?_⟩
  exact SL.turned (hg l) hS2
end Go.Proofs.YtdilpodccjlkgaaGreatDoor
namespace Go.Proofs.YtdilpodccjlkgaaGreatDoor
open Go.Proofs.Tryz
variable {α:Type}
theorem eT.inv {c:fE α} {e:TypeId} {r:List α} {rs:List (List α)} {hs:List Value} {L:List (Nat × Obj)} (h:eT c e (r::rs) hs L) :
  ∃a n cap hs' A B,hs=.slice a n cap::hs'∧L=A++B∧fC c.k e a n cap (c.vs r) A∧eT c e rs hs' B:=by
 cases h with
 |cons h1 h2=>exact ⟨_,_,_,_,_,_,rfl,rfl,h1,h2⟩
def wO (c:fE α) (T e:TypeId) (b:Nat) (rows:List (List α)) (k:Nat):bS:=.heap fun L=>∃(hs:List Value) (B:List (Nat × Obj)),L=(b,.cells hs.toArray T (0,0))::B∧hs.length=rows.length∧eT c e (rows.drop k) (hs.drop k) B
section
variable {E:World} {P:Program} {ops:Array Oper} {K:aS→OL→Prop} {env:aS} {O O' O'':OL} {rest:List Oper} {n:Nat}
variable {d ty:Nat} {pos:String} {af:Array Edge} {x y z:Operand} {t u e T:TypeId}
theorem aX.nestTail {c:fE α} {b m:Nat} {rows:List (List α)} (hO:fD O m (du c T e b rows) (wO c T e b rows 0) O'):aX E env O env O':=fun I F ρ w h1 h2=>by
 obtain ⟨htop,L,hL,hS⟩:=h2
 obtain ⟨A,B,hp,⟨hs,B0,rfl,hN⟩,hback⟩:=hO.rep hL
 obtain ⟨L',h5,h6⟩:=hback (qd I) (A':=(b,.cells hs.toArray T (0,0))::B0) ⟨hs,B0,rfl,hN.len,hN⟩
 exact ⟨I,.refl _,h1,htop,L',h5,hS.perm ((h6.trans hp.symm).append_right F)⟩
theorem az.nestShift {c:fE α} {b k m:Nat} {rows:List (List α)} {r:List α} (ha:∀w,(isAgg t).run P w=.ok false w) (hx:aV env x=CU b k) (hr:rows[k]?=some r)
  (hO:fD O m (wO c T e b rows k) (wO c T e b rows (k+1)) O') (kk:∀i,az P E ops K rest (br env d (.own i r.length)) ((i,.grow c.k e (c.av r))::O')) :
  az P E ops K (Oper.mk (some d) (.load t x) ty pos af none::rest) env O:=fun I F ρ w h1 h2=>by
 obtain ⟨i,hi⟩:=h2.name
 obtain ⟨htop,L,hL,hS⟩:=h2
 have hx:=fd h1 hx
 obtain ⟨A,B,hp,⟨hs,B0,rfl,hl,hN⟩,hback⟩:=hO.rep hL
 obtain ⟨hlt,hrk⟩:=List.getElem?_eq_some_iff.1 hr
 rw[List.drop_eq_getElem_cons hlt,hrk] at hN
 obtain ⟨a,n,cap,hs',A1,B1,g0,rfl,g2,g3⟩:=hN.inv
 have hlt2:k<hs.length:=by omega
 have g0':=g0
 rw[List.drop_eq_getElem_cons hlt2] at g0'
 simp only[List.cons.injEq] at g0'
 obtain ⟨g1,rfl⟩:=g0'
 have g1:hs[k]?=some (.slice a n cap):=by rw[qk hlt2,g1]
 obtain ⟨b1,rfl⟩:=g2.adr
 have hn:n=r.length:=by have:=g2.1;rw[c.vs_len] at this;exact (Nat.eq_of_mul_eq_mul_right c.pos this).symm
 subst hn
 obtain ⟨J,e1,hle,e2,htop'⟩:=hi (b1,cap)
 have hS2:SL I.k ((b,.cells hs.toArray T (0,0))::(A1++B1++(B++F))) E w:=hS.perm (by
  have:=hp.append_right F
  simpa using this.symm)
 obtain ⟨L',h5,h6⟩:=hback hle (A':=(b,.cells hs.toArray T (0,0))::B1) ⟨hs,B1,rfl,hl,g3⟩
 refine cA.load1 (I:=I.k) (O:=(b,.cells hs.toArray T (0,0))::(A1++B1++(B++F))) ha hS2 hx (.inr ⟨_,_,_,.head _,by rw[List.getElem?_toArray];exact g1⟩) ?_
 refine q4 (fun _ _=>q5 hle) _ _ _ (kk i J F _ _ ((h1.mono hle).upd d ⟨b1,cap,e2,U⟩) ⟨htop',A1++L',⟨A1,L',U,⟨b1,cap,_,c.vs r,e2,by rw[c.av_eq];exact eA J _,c.vs_one r,g2⟩,h5⟩,?_⟩)
 rw[e1]
 refine hS2.perm ?_
 have h7:(A1++L'++F).Perm (A1++((b,Obj.cells hs.toArray T (0,0))::(B1++B))++F):=(h6.append_left A1).append_right F
 refine h7.trans ?_
 simp only[qm,List.cons_append]
 exact List.perm_middle
end
end Go.Proofs.YtdilpodccjlkgaaGreatDoor
namespace Go.Proofs.YtdilpodccjlkgaaGreatDoor
open Go.Proofs.Tryz
variable {α:Type}
def kv (k:Int):Value:=.int .i64 k
theorem n9 (k:Int):MapKept.IsKey (.int .i64) (kv k):=rfl
theorem AH (k k':Int):Instr.sameNow (.int .i64) (kv k) (kv k')=some (decide (k=k')):=by
 simp[Instr.sameNow,kv];by_cases h:k=k'<;>simp[h]
def fY (arr:Array MapEntry):List (Value × Value):=arr.toList.map fun e=>(e.key,e.val)
section
variable {E:World} {P:Program} {ops:Array Oper} {K:aS→OL→Prop} {env:aS} {O O' O'':OL} {rest:List Oper} {n:Nat}
variable {d ty:Nat} {pos:String} {af:Array Edge} {x y z:Operand} {t u e T kt:TypeId} {b:Nat}
end
end Go.Proofs.YtdilpodccjlkgaaGreatDoor
namespace Go.Proofs.YtdilpodccjlkgaaGreatDoor
open Go.Proofs.Tryz
abbrev fj:=Int × Int
def Ec:Int:=-9223372036854775808
def Ed:Int:=9223372036854775807
def cY (x:Int):Prop:=-9223372036854775808≤x∧x≤9223372036854775807
instance (x:Int):Decidable (cY x):=by unfold cY;infer_instance
def jW (r:fj):Prop:=cY r.1∧cY r.2
def CB:fj:=(1,0)
def tt (lo hi:Int):fj:=if hi<lo then CB else (lo,hi)
def AJ (a b:Int):Int:=if b<a then b else a
def AK (a b:Int):Int:=if a<b then b else a
def fZ (a b:fj):fj:=if a.2<a.1 then tt b.1 b.2 else if b.2<b.1 then a else (AJ a.1 b.1,AK a.2 b.2)
def pT (k:Nat) (x y:Int):Int:=if k=0 then x+y else if k=1 then x - y else x*y
def dJ (k:Nat) (x y:Int):Prop:=cY (pT k x y)
instance (k:Nat) (x y:Int):Decidable (dJ k x y):=by unfold dJ;infer_instance
def oc (k:Nat) (x y:Int):Int:=if (if k=2 then decide (x<0) != decide (y<0) else decide (x<0)) then Ec else Ed
def rW (k:Nat) (x y:Int):Int:=if dJ k x y then pT k x y else oc k x y
def wQ (n:Int):fj:=(n,n)
def Ee (k:Nat) (a b:fj):fj:=fZ (fZ (fZ (fZ CB (wQ (rW k a.1 b.1))) (wQ (rW k a.1 b.2))) (wQ (rW k a.2 b.1))) (wQ (rW k a.2 b.2))
def fF (k:Nat) (a b:fj):Prop:=dJ k a.1 b.1∧dJ k a.1 b.2∧dJ k a.2 b.1∧dJ k a.2 b.2
instance (k:Nat) (a b:fj):Decidable (fF k a b):=by unfold fF;infer_instance
def tu (a b:Int):fj:=if b<a then (b,a) else (a,b)
def AL (a b:fj):fj:=(if b.1<a.1 then b.1 else a.1,if a.2<b.2 then b.2 else a.2)
def Ef (k:Nat) (a b:fj):fj:=AL (tu (rW k a.1 b.1) (rW k a.1 b.2)) (tu (rW k a.2 b.1) (rW k a.2 b.2))
theorem vq (p:Int):fZ CB (wQ p)=(p,p):=by
 unfold fZ wQ CB tt
 rw[if_pos (by decide)]
 rw[if_neg (by dsimp only;omega)]
theorem mG {lo hi:Int} (h:lo≤hi) (q:Int):fZ (lo,hi) (wQ q)=(AJ lo q,AK hi q)∧AJ lo q≤AK hi q:=by
 unfold fZ wQ
 rw[if_neg (by dsimp only;omega),if_neg (by dsimp only;omega)]
 refine ⟨U,?_⟩
 unfold AJ AK;split<;>split<;>omega
theorem FP (p q r s:Int):fZ (fZ (fZ (fZ CB (wQ p)) (wQ q)) (wQ r)) (wQ s)=AL (tu p q) (tu r s):=by
 obtain ⟨e2,h2⟩:=mG (Int.le_refl p) q
 obtain ⟨e3,h3⟩:=mG h2 r
 obtain ⟨e4,_⟩:=mG h3 s
 rw[vq,e2,e3,e4]
 unfold tu AL AJ AK
 rw[Prod.ext_iff]
 by_cases c1:q<p<;>by_cases c2:s<r<;>simp only[c1,c2,if_true,if_false]<;>constructor<;>(repeat' split)<;>omega
theorem CV (k:Nat) (a b:fj):Ee k a b=Ef k a b:=FP _ _ _ _
theorem CW {x y:Nat} (hy:0<y) (l:Nat):x≤l / y↔x*y≤l:=Nat.le_div_iff_mul_le hy
theorem p6 (a b:Int) (l:Nat):a.natAbs≤l / b.natAbs↔(b=0∧a=0)∨(b≠0∧(a*b).natAbs≤l):=by
 by_cases hb:b=0
 ·subst hb;simp
 ·rw[CW (by omega),Int.natAbs_mul];simp[hb]
theorem AM {a b:Int} (ha:a≠0) (hb:b≠0):(0<a*b↔((a<0)↔(b<0)))∧a*b≠0:=by
 refine ⟨?_,Int.mul_ne_zero ha hb⟩
 rcases Int.lt_or_gt_of_ne ha with h1|h1<;>rcases Int.lt_or_gt_of_ne hb with h2|h2
 ·have:=Int.mul_pos_of_neg_of_neg h1 h2;simp[this,h1,h2]
 ·have:=Int.mul_neg_of_neg_of_pos h1 h2
  constructor
  ·intro h;omega
  ·intro h;have:=h.1 h1;omega
 ·have:=Int.mul_neg_of_pos_of_neg h1 h2
  constructor
  ·intro h;omega
  ·intro h;have:=h.2 h2;omega
 ·have:=Int.mul_pos h1 h2
  constructor
  ·intro _;constructor<;>intro h<;>omega
  ·intro _;exact this
theorem ED (a b:Int) (ha:a≠0) (hb:b≠0):(a.natAbs≤(if decide (a<0)=decide (b<0) then 9223372036854775807 else 9223372036854775808) / b.natAbs)↔dJ 2 a b:=by
 have hs:=AM ha hb
 rw[p6]
 unfold dJ cY
 have e:pT 2 a b=a*b:=rfl
 rw[e]
 simp only[hb,false_and,false_or,ne_eq,not_false_eq_true,true_and]
 by_cases h:decide (a<0)=decide (b<0)
 ·rw[if_pos h]
  have:(a<0)↔(b<0):=by simpa using h
  have h1:=hs.1.2 this
  omega
 ·rw[if_neg h]
  have:¬((a<0)↔(b<0)):=by simpa using h
  have h1:¬0<a*b:=fun h2=>this (hs.1.1 h2)
  omega
end Go.Proofs.YtdilpodccjlkgaaGreatDoor
namespace Go.Proofs.YtdilpodccjlkgaaGreatDoor
open Go.Proofs.Tryz
def FQ (r s:fj):Prop:=r.2<r.1∨(s.1≤r.1∧r.2≤s.2)
end Go.Proofs.YtdilpodccjlkgaaGreatDoor
namespace Go.Proofs.YtdilpodccjlkgaaGreatDoor
open Go.Proofs.Tryz
end Go.Proofs.YtdilpodccjlkgaaGreatDoor
namespace Go.Proofs.YtdilpodccjlkgaaGreatDoor
open Go.Proofs.Tryz
end Go.Proofs.YtdilpodccjlkgaaGreatDoor
namespace Go.Proofs.YtdilpodccjlkgaaGreatDoor
open Go.Proofs.Tryz
def ra (rs:List fj) (i:Nat):fj:=(rs[i]?).getD (0,0)
end Go.Proofs.YtdilpodccjlkgaaGreatDoor
namespace Go.Proofs.YtdilpodccjlkgaaGreatDoor
open Go.Proofs.Tryz
def nx (h:fj × Bool) (n:Int) (fits:Bool) (e:Int):fj × Bool:=(fZ h.1 (wQ (if fits then n else e)),h.2||!fits)
def h4 (h:fj × Bool) (a b:fj) (n:Int→Int→Int) (fit:Int→Int→Bool) (e:Int→Int→Int):fj × Bool:=
 nx (nx (nx (nx h (n a.1 b.1) (fit a.1 b.1) (e a.1 b.1)) (n a.1 b.2) (fit a.1 b.2) (e a.1 b.2)) (n a.2 b.1) (fit a.2 b.1) (e a.2 b.1)) (n a.2 b.2) (fit a.2 b.2) (e a.2 b.2)
instance (k:Nat) (x y:Int):Decidable (dJ k x y):=by unfold dJ cY;infer_instance
instance (k:Nat) (a b:fj):Decidable (fF k a b):=by unfold fF;infer_instance
def wR (k:Nat) (a b:fj):fj × Bool:=h4 (CB,false) a b (pT k) (fun x y=>decide (dJ k x y)) (oc k)
theorem tv (k:Nat) (a b:fj):wR k a b=(Ef k a b,!decide (fF k a b)):=by
 rw[←CV]
 unfold wR h4 nx Ee fF rW
 simp only[Bool.false_or,w6]
 refine Prod.ext U ?_
 dsimp only
 by_cases h1:dJ k a.1 b.1<;>by_cases h2:dJ k a.1 b.2<;>by_cases h3:dJ k a.2 b.1<;>by_cases h4:dJ k a.2 b.2<;>simp[h1,h2,h3,h4]
end Go.Proofs.YtdilpodccjlkgaaGreatDoor
namespace Go.Proofs.YtdilpodccjlkgaaGreatDoor
open Go.Proofs.Tryz
open Go.Proofs
theorem od {z:Int} (h:cY z):IntKind.i64.wrap z=z:=by
 unfold cY at h
 unfold IntKind.wrap;simp[IntKind.bits,IntKind.signed];omega
def f4 (a:fj) (i:Nat):Int:=if i=0 then a.1 else a.2
theorem AN {a:fj} (h:jW a) (i:Nat):cY (f4 a i):=by unfold f4;split;exact h.1;exact h.2
theorem wS {a:fj} {i:Nat} (h:i<2):([AV.int .i64 a.1,AV.int .i64 a.2]:List AV)[i]?=some (.int .i64 (f4 a i)):=by
 rcases (by omega:i=0∨i=1) with rfl|rfl<;>rfl
def FR (n:Int→Int→Int) (fit:Int→Int→Bool) (e:Int→Int→Int) (h0:fj × Bool) (a b:fj):Nat→fj × Bool
 |0=>h0
 |m+1=>nx (FR n fit e h0 a b m) (n (f4 a (m / 2)) (f4 b (m % 2))) (fit (f4 a (m / 2)) (f4 b (m % 2))) (e (f4 a (m / 2)) (f4 b (m % 2)))
theorem AO {n:Int→Int→Int} {fit:Int→Int→Bool} {e:Int→Int→Int} {h0:fj × Bool} {a b:fj} (i:Nat) {j:Nat} (hj:j<2) :
  FR n fit e h0 a b (2*i+(j+1))=nx (FR n fit e h0 a b (2*i+j)) (n (f4 a i) (f4 b j)) (fit (f4 a i) (f4 b j)) (e (f4 a i) (f4 b j)):=by
 rw[←Nat.add_assoc,FR,show (2*i+j) / 2=i by omega,show (2*i+j) % 2=j by omega]
theorem oe {h:fj × Bool} {n n':Int} {fits:Bool} {e e':Int} (h1:fits=true→n=n') (h2:e=e'):nx h n fits e=nx h n' fits e':=by
 cases fits
 ·unfold nx;simp[h2]
 ·rw[h1 rfl,h2]
theorem CX {x y:Int}:decide (dJ 0 x y)=true→IntKind.i64.wrap (x+y)=pT 0 x y:=fun h=>od (w4 h)
theorem CY {x y:Int}:decide (dJ 1 x y)=true→IntKind.i64.wrap (x - y)=pT 1 x y:=fun h=>od (w4 h)
theorem AP {x y:Int}:decide (dJ 2 x y)=true→IntKind.i64.wrap (x*y)=pT 2 x y:=fun h=>od (w4 h)
theorem GW {x y:Int} (hx:cY x) (hy:cY y):(!(decide (x<0) == decide (y<0))||(decide (IntKind.i64.wrap (x+y)<0) == decide (x<0)))=decide (dJ 0 x y):=by
 have hw:IntKind.i64.wrap (x+y)=(if x+y < -9223372036854775808 then x+y+18446744073709551616 else if 9223372036854775807<x+y then x+y - 18446744073709551616 else x+y):=by
  unfold cY at hx hy
  unfold IntKind.wrap;simp[IntKind.bits,IntKind.signed];(repeat' split)<;>omega
 rw[hw,qt,w6]
 show _↔cY (x+y)
 unfold cY at *
 simp only[Bool.or_eq_true,Bool.not_eq_true',beq_eq_false_iff_ne,beq_iff_eq,decide_eq_decide,ne_eq]
 (repeat' split)<;>omega
theorem GX {x y:Int} (hx:cY x) (hy:cY y):((decide (x<0) == decide (y<0))||(decide (IntKind.i64.wrap (x - y)<0) == decide (x<0)))=decide (dJ 1 x y):=by
 have hw:IntKind.i64.wrap (x - y)=(if x - y < -9223372036854775808 then x - y+18446744073709551616 else if 9223372036854775807<x - y then x - y - 18446744073709551616 else x - y):=by
  unfold cY at hx hy
  unfold IntKind.wrap;simp[IntKind.bits,IntKind.signed];(repeat' split)<;>omega
 rw[hw,qt,w6]
 show _↔cY (x - y)
 unfold cY at *
 simp only[Bool.or_eq_true,beq_iff_eq,decide_eq_decide]
 (repeat' split)<;>omega
theorem kh {x:Int} (h:cY x):(if x<0 then IntKind.u64.wrap (0 - IntKind.u64.wrap x) else IntKind.u64.wrap x)=((x.natAbs:Nat):Int):=by
 unfold cY at h
 unfold IntKind.wrap;simp[IntKind.bits,IntKind.signed];split<;>omega
theorem AQ {x:Int} (h:cY x):x.natAbs<18446744073709551616:=by unfold cY at h;omega
theorem GY {x y:Int}:(decide (((x.natAbs*y.natAbs / 18446744073709551616:Nat):Int)=0)&&decide (((x.natAbs*y.natAbs % 18446744073709551616:Nat):Int)≤(if (!(decide (x<0) == decide (y<0)))=true then 9223372036854775808 else 9223372036854775807)))=decide (dJ 2 x y):=by
 have hm:=Int.natAbs_mul x y
 rw[qt,w6 (p:=dJ 2 x y)]
 show _↔cY (x*y)
 unfold cY
 rw[←hm]
 have hs:(x<0↔y<0)→0≤x*y:=fun h=>by
  by_cases hx:x<0
  ·exact Int.le_of_lt (Int.mul_pos_of_neg_of_neg hx (h.1 hx))
  ·exact Int.mul_nonneg (by omega) (by have:=mt h.2 hx;omega)
 have hd:¬(x<0↔y<0)→x*y≤0:=fun h=>by
  by_cases hx:x<0
  ·have hy:¬y<0:=fun hy=>h ⟨fun _=>hy,fun _=>hx⟩
   exact Int.mul_nonpos_of_nonpos_of_nonneg (by omega) (by omega)
  ·have hy:y<0:=Classical.byContradiction fun hy=>h ⟨fun h=>absurd h hx,fun h=>absurd h hy⟩
   exact Int.mul_nonpos_of_nonneg_of_nonpos (by omega) (by omega)
 generalize x*y=z at *
 simp only[qz,w6,Bool.not_eq_true',beq_eq_false_iff_ne,decide_eq_decide,ne_eq]
 by_cases c:(x<0↔y<0)
 ·have:=hs c
  rw[if_neg (by simp[c])];omega
 ·have:=hd c
  rw[if_pos c];omega
theorem EE (x y:Int):(if decide (x<0)=true then Ec else Ed)=oc 0 x y:=rfl
theorem EF (x y:Int):(if decide (x<0)=true then Ec else Ed)=oc 1 x y:=rfl
theorem EG (x y:Int):(if (!(decide (x<0) == decide (y<0)))=true then Ec else Ed)=oc 2 x y:=rfl
def iy (r:fj):List AV:=[.int .i64 r.1,.int .i64 r.2]
def x9 (h:fj × Bool):List AV:=[.int .i64 h.1.1,.int .i64 h.1.2,.bool h.2]
end Go.Proofs.YtdilpodccjlkgaaGreatDoor
namespace Go.Proofs.YtdilpodccjlkgaaGreatDoor
open Go.Proofs.Tryz
open Go.Proofs
theorem rX (z:Int):IntKind.i64.wrap z=(z+9223372036854775808) % 18446744073709551616 - 9223372036854775808:=by
 unfold IntKind.wrap;simp[IntKind.bits,IntKind.signed];(try split)<;>omega
theorem EH (z:Int):IntKind.u64.wrap z=z % 18446744073709551616:=by
 unfold IntKind.wrap;simp[IntKind.bits,IntKind.signed]
theorem GZ {x y:Int} (hx:cY x) (hx0:x≠0) (hy0:y≠0):decide ((x.natAbs:Int)≤IntKind.u64.wrap ((if (decide (x<0) == decide (y<0))=true then 9223372036854775807 else 9223372036854775808:Int).tdiv (y.natAbs:Int)))=decide (dJ 2 x y):=by
 rw[decide_eq_decide,←ED x y hx0 hy0]
 obtain ⟨l,hl⟩:∃l:Nat,(if decide (x<0)=decide (y<0) then 9223372036854775807 else 9223372036854775808)=l:=⟨_,rfl⟩
 have hl2:(if (decide (x<0) == decide (y<0))=true then 9223372036854775807 else 9223372036854775808:Int)=(l:Int):=by
  rw[←hl]
  by_cases h:decide (x<0)=decide (y<0)
  ·rw[if_pos h,if_pos (by simpa using h)];rfl
  ·rw[if_neg h,if_neg (by simpa using h)];rfl
 have hll:l≤9223372036854775808:=by rw[←hl];split<;>omega
 rw[hl,hl2,show ((l:Int)).tdiv (y.natAbs:Int)=((l / y.natAbs:Nat):Int) from rfl,EH]
 have h3:=Nat.div_le_self l y.natAbs
 generalize l / y.natAbs=q at h3 ⊢
 omega
end Go.Proofs.YtdilpodccjlkgaaGreatDoor
namespace Go.Proofs.YtdilpodccjlkgaaGreatDoor
open Go.Proofs.Tryz
open Go.Proofs
section
variable {E:World} {P:Program} {ops:Array Oper} {K:aS→OL→Prop} {env:aS} {O O' O'':OL} {rest:List Oper} {n:Nat}
variable {d ty:Nat} {pos:String} {af:Array Edge} {x y z:Operand} {t u e T:TypeId}
end
end Go.Proofs.YtdilpodccjlkgaaGreatDoor
namespace Go.Proofs.YtdilpodccjlkgaaGreatDoor
open Go.Proofs.Tryz
open Go.Proofs
end Go.Proofs.YtdilpodccjlkgaaGreatDoor
namespace Go.Proofs.YtdilpodccjlkgaaGreatDoor
open Go.Proofs.Tryz
open Go.Proofs
theorem EI {I:G} {F:List (Nat × Obj)} {E w:World} {i:Nat} {T:TypeId} {cs:List AV} (h:gt I [(i,.cells T cs)] F E w) :
  ∃J L,I.le J∧bt I [(i,.cells T cs)] L∧SL I.k (L++F) E w∧(∀y∈L,J.k y.1=some y.2)∧gt J [] F E w∧∀v,bq I (.po i 0) v→bq J (.pf cs) v:=by
 obtain ⟨ht,L,hL,hS⟩:=h
 have hL0:=hL
 obtain ⟨A,B,hp,⟨b,c,vs,e1,hvs,hvc,hA⟩,hB⟩:=hL
 have hB:B=[]:=hB
 simp only at e1
 rw[hB,qw] at hp
 subst hp
 subst hA
 obtain ⟨hl,hS3⟩:=SL.freeze (by simpa using hS:SL I.k ((b,.cells vs.toArray T (0,0))::F) E w)
 let J:G:=⟨I.k.put b (.cells vs.toArray T (0,0)),I.h⟩
 have hle:I.le J:=⟨hl,fun _ _ h=>h⟩
 have hb:J.k b=some (.cells vs.toArray T (0,0)):=bI.put_same _ _ _
 refine ⟨J,_,hle,hL0,hS,fun y hy=>(by rw[List.mem_singleton.1 hy];exact hb),⟨ht,[],U,by simpa using hS3⟩,?_⟩
 rintro v ⟨b2,c2,e2,rfl⟩
 rw[e1] at e2
 simp only[Option.some.injEq,Prod.mk.injEq] at e2
 obtain ⟨rfl,rfl⟩:=e2
 exact ⟨b,0,vs,rfl,qj hle _ _ hvs,fun j u hj=>⟨_,_,_,hb,by rw[Nat.zero_add,List.getElem?_toArray];exact hj⟩⟩
theorem aR.lendP {P:Program} {E:World} {f:FuncId} {rest:List AV} {x:AV} {i:Nat} {T:TypeId} {cs:List AV} (hx:∀(I J:G) v,bq J x v→bq I x v)
  (h:aK P E f (.pf cs::rest) x):aR P E f (.po i 0::rest) [(i,.cells T cs)] fun y O=>y=x∧O=[(i,.cells T cs)]:=fun I F w vs h1 h2=>by
 obtain ⟨J,L,hle,hL,hS,hf,hJ,hv⟩:=EI h2
 obtain ⟨v1,us,rfl,r1,r2⟩:=h1
 refine (h J F w _ ⟨v1,us,U,hv v1 r1,qj hle _ _ r2⟩ hJ).mono fun v w' ⟨J2,y,O',a,b,c,d⟩=>?_
 have d:y=x:=d
 subst d
 obtain ⟨_,L',_,hS'⟩:=c
 refine ⟨I,y,_,.refl _,hx I J2 v b,⟨h2.1,L,hL,?_⟩,U,U⟩
 refine ⟨hS'.os,hS'.output,hS'.tape,fun b o hb=>hS'.pers b o (a.k b o (hle.k b o hb)),fun z hz=>?_,hS.nodup,hS.apart,hS.base,hS.flat,hS.oflat⟩
 rcases List.mem_append.1 hz with hz|hz
 ·exact hS'.pers _ _ (a.k _ _ (hf z hz))
 ·exact hS'.own z (List.mem_append_right _ hz)
theorem fp {I J:G} {b:Bool} {v:Value} (h:bq J (.bool b) v):bq I (.bool b) v:=h
theorem og {I J:G} {k:IntKind} {n:Int} {b:Bool} {v:Value} (h:bq J (.tup [.int k n,.bool b]) v):bq I (.tup [.int k n,.bool b]) v:=by
 obtain ⟨vs,rfl,a,_,rfl,h1,b,_,rfl,h2,h3⟩:=h
 exact ⟨_,rfl,a,_,rfl,h1,b,_,rfl,h2,h3⟩
theorem az.storeGN {E:World} {P:Program} {ops:Array Oper} {K:aS→OL→Prop} {env:aS} {O O':OL} {rest:List Oper} {ty:Nat} {pos:String} {af:Array Edge} {x y:Operand} {t:TypeId} {i off k:Nat} {T:TypeId} {v:AV} {cs new:List AV} (hs:∀w,(sizeOf t).run P w=.ok 1 w) (hx:aV env x=.po i off) (hy:aV env y=v) (hv:v.sto=true) (hl:v.cs=[v]) (hl1:v.cell=true)
  (hO:fD O i (.grow k T cs) (.grow k T new) O') (hb:off<cs.length) (hnew:cs.set off v=new) (kk:az P E ops K rest env O'):az P E ops K (Oper.mk none (.store t x y) ty pos af none::rest) env O:=by
 subst hnew;exact az.storeG1 hs hx hy hv hl hl1 hO hb kk
end Go.Proofs.YtdilpodccjlkgaaGreatDoor
namespace Go.Proofs.YtdilpodccjlkgaaGreatDoor
open Go.Proofs.Tryz
open Go.Proofs
theorem aR.lendAll {P:Program} {E:World} {f:FuncId} {ars ars':List AV} {x:AV} {O:OL}
  (has:∀(I J:G) (L:List (Nat × Obj)),I.le J→bt I O L→(∀y∈L,J.k y.1=some y.2)→∀vs,RepL I ars vs→RepL J ars' vs) (hx:∀(I J:G) v,bq J x v→bq I x v)
  (h:aK P E f ars' x):aR P E f ars O fun y O'=>y=x∧O'=O:=fun I F w vs h1 h2=>by
 obtain ⟨ht,L,hL,hS⟩:=id h2
 obtain ⟨K,h3,h4,hf⟩:=SL.freezeAllN hS
 let J:G:=⟨K,I.h⟩
 have hle:I.le J:=⟨h3,fun _ _ h=>h⟩
 refine (h J F w vs (has I J L hle hL hf vs h1) ⟨ht,[],U,by simpa using h4⟩).mono fun v w' ⟨J2,y,O',a,b,c,d⟩=>?_
 have d:y=x:=d
 subst d
 obtain ⟨_,L',_,hS'⟩:=c
 refine ⟨I,y,_,.refl _,hx I J2 v b,⟨ht,L,hL,?_⟩,U,U⟩
 refine ⟨hS'.os,hS'.output,hS'.tape,fun b o hb=>hS'.pers b o (a.k b o (hle.k b o hb)),fun z hz=>?_,hS.nodup,hS.apart,hS.base,hS.flat,hS.oflat⟩
 rcases List.mem_append.1 hz with hz|hz
 ·exact hS'.pers _ _ (a.k _ _ (hf z hz))
 ·exact hS'.own z (List.mem_append_right _ hz)
section
variable {I J:G} {L:List (Nat × Obj)} {O O':OL} {i k m:Nat} {T:TypeId}
theorem qW (hL:bt I O L) {o:bS} (hp:dB O i o O'):∃A,lW I (i,o) A∧∀y∈A,y∈L:=by
 obtain ⟨A,B,hperm,hA,_⟩:=hp.rep hL
 exact ⟨A,hA,fun y hy=>hperm.mem_iff.2 (List.mem_append_left _ hy)⟩
theorem lx {cs cs':List AV} (hL:bt I O L) (hf:∀y∈L,J.k y.1=some y.2) (hp:dB O i (.cells T cs) O') (hc:∀vs,RepL I cs vs→RepL J cs' vs) (v:Value) (h:bq I (.po i 0) v):bq J (.pf cs') v:=by
 obtain ⟨A,hA,hin⟩:=qW hL hp
 obtain ⟨b,c,vs,e1,hvs,_,rfl⟩:=hA
 simp only at e1
 obtain ⟨b2,c2,e2,rfl⟩:=h
 rw[e1] at e2
 simp only[Option.some.injEq,Prod.mk.injEq] at e2
 obtain ⟨rfl,rfl⟩:=e2
 have hb:J.k b=some (.cells vs.toArray T (0,0)):=hf _ (hin _ (List.mem_singleton.2 rfl))
 exact ⟨b,0,vs,rfl,hc vs hvs,fun j u hj=>⟨_,_,_,hb,by rw[Nat.zero_add,List.getElem?_toArray];exact hj⟩⟩
theorem kP {rows:List (List AV)} (hle:I.le J) (hL:bt I O L) (hf:∀y∈L,J.k y.1=some y.2) (hp:dB O i (.grow k T rows.flatten) O') (hk:∀r∈rows,r.length=k) (hk0:0<k) (hm:rows.length=m) (v:Value) (h:bq I (.own i m) v):bq J (.fro k rows) v:=by
 obtain ⟨A,hA,hin⟩:=qW hL hp
 obtain ⟨b,c,n,vs,e1,hvs,hvc,hown⟩:=hA
 simp only at e1
 obtain ⟨b2,c2,e2,rfl⟩:=h
 rw[e1] at e2
 simp only[Option.some.injEq,Prod.mk.injEq] at e2
 obtain ⟨rfl,rfl⟩:=e2
 have hflat:rows.flatten.length=rows.length*k:=by
  clear hvs hm hp
  induction rows with
  |nil=>simp
  |cons r rows ih=>simp only[List.flatten_cons,qq,List.length_cons,ih (fun r h=>hk r (by simp[h])),hk r (by simp),Nat.add_mul];omega
 have hnm:n=m:=by
  have h5:=hown.1
  have h6:=hvs.length
  have:n*k=m*k:=by rw[←hm];omega
  exact Nat.eq_of_mul_eq_mul_right hk0 this
 subst hnm
 obtain ⟨h5,h6,h7⟩:=hown
 rcases h7 with ⟨ea,rfl,rfl⟩|⟨b',junk,ea,rfl,hj⟩
 ·have h0:rows=[]:=List.eq_nil_of_length_eq_zero (by omega)
  subst h0
  exact ⟨adr b,n,0,rfl,hm.symm,h6,fun _=>rfl,trivial⟩
 ·cases b with
  |none=>simp[adr] at ea
  |some b=>
   simp[adr] at ea
   subst ea
   have hb:J.k b=some (.cells (vs++junk).toArray T (0,0)):=hf _ (hin _ (List.mem_singleton.2 rfl))
   refine ⟨adr (some b),n,c,U,hm.symm,h6,fun h=>by simp[adr] at h,RepR.of_flat hb rows vs 0 hk (qj hle _ _ hvs) fun i u hu=>?_⟩
   rw[Nat.zero_mul,Nat.zero_add,List.getElem?_toArray,List.getElem?_append_left (List.getElem?_eq_some_iff.1 hu).1]
   exact hu
theorem bL {x y:AV} {xs ys:List AV} (h:∀v,bq I x v→bq J y v) (hs:∀vs,RepL I xs vs→RepL J ys vs):∀vs,RepL I (x::xs) vs→RepL J (y::ys) vs:=fun vs ⟨v,us,e,h1,h2⟩=>⟨v,us,e,h v h1,hs us h2⟩
theorem oh:∀vs,RepL I [] vs→RepL J [] vs:=fun _ h=>h
theorem dH (hle:I.le J) (x:AV):∀v,bq I x v→bq J x v:=fun v h=>bq.mono hle x v h
theorem ol (hle:I.le J) (xs:List AV):∀vs,RepL I xs vs→RepL J xs vs:=fun vs h=>qj hle xs vs h
theorem om (x:AV):∀v,bq I x v→bq J .any v:=fun _ _=>trivial
end
end Go.Proofs.YtdilpodccjlkgaaGreatDoor
namespace Go.Proofs.YtdilpodccjlkgaaGreatDoor
open Go.Proofs.Tryz
open Go.Proofs
theorem AR {α:Type} [Inhabited α] (c:fE α):∀(l:List α) (t:Nat),t<l.length*c.k→(c.vs l)[t]?=some (c.val l[t / c.k]!)[t % c.k]!
 |[],t,h=>by simp at h
 |x::l,t,h=>by
  have e:c.vs (x::l)=c.val x++c.vs l:=by unfold fE.vs;rw[List.flatMap_cons]
  rw[e]
  by_cases ht:t<c.k
  ·rw[List.getElem?_append_left (by rw[c.len];exact ht),Nat.div_eq_of_lt ht,Nat.mod_eq_of_lt ht,List.getElem!_cons_zero,qk (by rw[c.len];exact ht),getElem!_pos (c.val x) t (by rw[c.len];exact ht)]
  ·obtain ⟨s,rfl⟩:∃s,t=s+c.k:=⟨t - c.k,by omega⟩
   rw[List.getElem?_append_right (by rw[c.len];omega),c.len,Nat.add_sub_cancel,Nat.add_div_right _ c.pos,Nat.add_mod_right,List.getElem!_cons_succ]
   exact AR c l s (by rw[List.length_cons,Nat.add_mul,Nat.one_mul] at h;omega)
theorem tw (zl:List Value) (m:Nat) (h0:0<zl.length) (h1:∀u∈zl,u.oneCell'=true):madeCells zl.toArray (m*zl.length)=(List.replicate m zl).flatten.toArray:=by
 let c:fE Unit:=⟨zl.length,fun _=>zl,h0,fun _=>rfl,fun _=>h1⟩
 have e:(List.replicate m zl).flatten=c.vs (List.replicate m ()):=by
  show _=(List.replicate m ()).flatMap fun _=>zl
  rw[List.flatMap,List.map_replicate]
 rw[e]
 apply Array.ext_getElem?
 intro t
 have e3:(c.vs (List.replicate m ())).toArray[t]?=(c.vs (List.replicate m ()))[t]?:=List.getElem?_toArray
 rw[e3]
 by_cases ht:t<m*zl.length
 ·rw[AR c _ t (by rw[List.length_replicate];exact ht)]
  unfold madeCells
  rw[Array.getElem?_map,Array.getElem?_range,if_pos ht]
  show some (zl.toArray[t % zl.toArray.size]!)=some (zl[t % zl.length]!)
  simp
 ·rw[Array.getElem?_eq_none (by rw[size_madeCells];omega),List.getElem?_eq_none (by rw[c.vs_len,List.length_replicate];show m*zl.length≤t;omega)]
section
variable {E:World} {P:Program} {ops:Array Oper} {K:aS→OL→Prop} {env:aS} {O:OL} {rest:List Oper} {d ty:Nat} {pos:String} {af:Array Edge} {x y:Operand} {t e:TypeId}
theorem az.makeZ {i:TypeInfo} {zv:Value} {m:Nat} {k1 k2:IntKind} {l l':Int} (zl:List Value) (ht:P.underlying t=some (.slice e)) (hi:P.info? e=some i) (hz:i.zero=some zv) (hzc:zv.cells=zl.toArray) (hk:i.size=zl.length) (h0:0<zl.length) (h1:∀u∈zl,u.oneCell'=true) (hx:aV env x=.int k1 l) (hy:aV env y=.int k2 l')
  (hl:l=(m:Int)) (hl':l'=(m:Int)) (hb:(i.bytes:Int)*(m:Int)≤281474976710656) (hm:m≤281474976710656) (kk:∀j,az P E ops K rest (br env d (.own j m)) ((j,.grow zl.length e (List.replicate m (zl.map lit)).flatten)::O)) :
  az P E ops K (Oper.mk (some d) (.makeSlice t x y) ty pos af none::rest) env O:=fun I F ρ w g1 g2=>by
 obtain ⟨L,hL,hS⟩:=g2.2
 obtain ⟨j,hj⟩:=g2.name
 have hx:=fB g1 hx
 have hy:=fB g1 hy
 refine qf U ?_
 unfold iN
 subst hl hl'
 have hrun:=run_make (P:=P) w t e i zv ht hi hz k1 k2 m m (by omega) (by omega) hb (by omega)
 rw[hzc,hk,Int.toNat_natCast,tw zl m h0 h1] at hrun
 have hrun:(execOp (Go.Proofs.YtdilpodccjlkgaaGreatDoor.ev ρ) (Oper.mk (some d) (.makeSlice t x y) ty pos af none)).run P w=.ok (.value (.slice (some ⟨w.heap.size,0,none⟩) m m)) (w.alloc (.cells (List.replicate m zl).flatten.toArray e)):=by
  simp[execOp,hx,hy,hrun]
 rw[hrun]
 obtain ⟨J,e1,hle,e2,htop⟩:=hj (some w.heap.size,m)
 have hrep:RepL J (List.replicate m (zl.map lit)).flatten (List.replicate m zl).flatten:=by
  have:=eA J (List.replicate m zl).flatten
  rwa [List.map_flatten,List.map_replicate] at this
 have hS':=hS.alloc (.cells (List.replicate m zl).flatten.toArray e)
 refine q4 (fun _ _=>q5 hle) _ _ _ (kk j J F _ _ ((g1.mono hle).upd d ⟨_,m,e2,rfl⟩) ⟨htop,_,⟨[(w.heap.size,.cells (List.replicate m zl).flatten.toArray e (0,0))],L,rfl,⟨some w.heap.size,m,m,_,e2,hrep,(fun u hu=>by
  obtain ⟨r,hr,hu⟩:=List.mem_flatten.1 hu
  rw[List.eq_of_mem_replicate hr] at hu
  exact h1 u hu),fC.made (by simp[Nat.mul_comm])⟩,hL.mono hle⟩,by rw[e1];exact hS'⟩)
end
theorem tx {α:Type} {k:Nat}:∀{rows:List (List α)} {j:Nat} {r:List α},(∀x∈rows,x.length=k)→j<rows.length→r.length=k→rows.flatten.take (j*k)++r++rows.flatten.drop (j*k+k)=(rows.set j r).flatten
 |[],j,r,_,h,_=>by simp at h
 |x::rows,0,r,hk,_,hr=>by
  have:=hk x (.head _)
  rw[List.set_cons_zero,List.flatten_cons,List.flatten_cons]
  rw[Nat.zero_mul,List.take_zero,List.nil_append,Nat.zero_add,←this,List.drop_left]
 |x::rows,j+1,r,hk,h,hr=>by
  have hx:=hk x (.head _)
  have ih:=tx (rows:=rows) (j:=j) (r:=r) (fun y hy=>hk y (.tail _ hy)) (by simpa using h) hr
  rw[List.set_cons_succ,List.flatten_cons,List.flatten_cons,←ih,Nat.add_mul,Nat.one_mul]
  have e1:(x++rows.flatten).take (j*k+k)=x++rows.flatten.take (j*k):=by
   rw[List.take_append,List.take_of_length_le (by omega),hx,Nat.add_sub_cancel]
  have e2:(x++rows.flatten).drop (j*k+k+k)=rows.flatten.drop (j*k+k):=by
   rw[List.drop_append,List.drop_eq_nil_of_le (by omega),hx,List.nil_append];congr 1;omega
  rw[e1,e2]
  simp only[qm]
end Go.Proofs.YtdilpodccjlkgaaGreatDoor
namespace Go.Proofs.YtdilpodccjlkgaaGreatDoor
open Go.Proofs.Tryz
def yA (b:Nat) (T:TypeId) (vs:List Value):bS:=.heap fun L=>L=[(b,.cells vs.toArray T (0,0))]
def CZ (b off n c:Nat):AV:=.raw (.slice (some ⟨b,off,none⟩) n c)
section
variable {E:World} {P:Program} {ops:Array Oper} {K:aS→OL→Prop} {env:aS} {O O' O'':OL} {rest:List Oper}
variable {d ty:Nat} {pos:String} {af:Array Edge} {x y z:Operand} {t u e T:TypeId}
theorem az.makeRow {i:TypeInfo} {zv z1:Value} {m:Nat} {k1 k2:IntKind} {l l':Int} (ht:P.underlying t=some (.slice e)) (hi:P.info? e=some i) (hz:i.zero=some zv) (hzc:zv.cells=#[z1]) (hk:i.size=1) (hx:aV env x=.int k1 l) (hy:aV env y=.int k2 l')
  (hl:l=(m:Int)) (hl':l'=(m:Int)) (hb:(i.bytes:Int)*(m:Int)≤281474976710656) (hm:m≤281474976710656) (kk:∀b,az P E ops K rest (br env d (CZ b 0 m m)) ((0,yA b e (List.replicate m z1))::O)) :
  az P E ops K (Oper.mk (some d) (.makeSlice t x y) ty pos af none::rest) env O:=fun I F ρ w h1 h2=>by
 obtain ⟨htop,L,hL,hS⟩:=h2
 refine cA.make1 ht hi hz hzc hk (fB h1 hx) (fB h1 hy) hl hl' hb hm hS fun b w' hS'=>?_
 exact kk b I F _ _ (h1.upd d rfl) ⟨htop,_,⟨[(b,.cells (List.replicate m z1).toArray e (0,0))],L,rfl,rfl,hL⟩,by simpa using hS'⟩
theorem Gv.rowLo {b n c j:Nat} {a:Int} (ht:P.underlying t=some (.slice e)) (hs:∀w,(sizeOf e).run P w=.ok 1 w) (hx:aV env x=CZ b 0 n c) (hy:aV env y=.int .i64 a) (hi:a=(j:Int)) (hj:j≤n) (hc:j<c) (hnc:n≤c) :
  Gv P env O (Oper.mk (some d) (.slice t x (some y) none none) ty pos af none) (CZ b j (n - j) (c - j)):=Gv.ofEv fun I ρ h=>by
 have h1:=fd h hx
 have h2:=fB h hy
 subst hi
 refine ⟨_,U,fun w=>?_⟩
 have hcj:¬c=j:=by omega
 simp[execOp,Instr.sliceAt,Instr.slice,Instr.sliceBounds,Instr.sliceBound,asIntOf,Sem.run_bind,run_underlying ht,hs,h1,h2,hcj,hj,dy]
theorem Gv.rowHi {b n c j:Nat} {a:Int} (ht:P.underlying t=some (.slice e)) (hs:∀w,(sizeOf e).run P w=.ok 1 w) (hx:aV env x=CZ b 0 n c) (hy:aV env y=.int .i64 a) (hi:a=(j:Int)) (hc:j≤c) :
  Gv P env O (Oper.mk (some d) (.slice t x none (some y) none) ty pos af none) (CZ b 0 j c):=Gv.ofEv fun I ρ h=>by
 have h1:=fd h hx
 have h2:=fB h hy
 subst hi
 refine ⟨_,U,fun w=>?_⟩
 simp[execOp,Instr.sliceAt,Instr.slice,Instr.sliceBounds,Instr.sliceBound,asIntOf,Sem.run_bind,run_underlying ht,hs,h1,h2,hc,dy]
theorem Gv.lenRow {b off m c:Nat} (ht:P.underlying t=some (.slice T)) (hx:aV env x=CZ b off m c):Gv P env O (Oper.mk (some d) (.call { callee:=.builtin .len,args:=#[x],argTypes:=#[t] }) ty pos af none) (.int .i64 m):=Gv.ofEv fun I ρ h=>by
 have h1:=fd h hx
 exact ⟨_,rfl,fun w=>by simp[execOp,resolve,h1,invoke,builtin,Builtin.len_,run_underlying ht,goInt]⟩
theorem az.copyRow {b off dl dc sl q:Nat} {vs cs:List Value} {ty2:TypeId} (ht:P.underlying t=some (.slice e)) (hs:(P.info? e).map (·.size)=some 1) (hx:aV env x=CZ b off dl dc)
  (hq:cs.length=q) (hmin:q=Nat.min sl dl) (hO:fD O 0 (yA b T vs) (yA b T (vs.take off++cs++vs.drop (off+q))) O') (hfit:off+q≤vs.length) (h1c:∀v∈cs,v.oneCell'=true)
  (hy:∀I F ρ w,ep I env ρ→gt I O F E w→∃a sc,ev ρ y=.slice (some a) sl sc∧∀j v,cs[j]?=some v→w.cell? (a.add j)=some v)
  (kk:az P E ops K rest (br env d (.int .i64 q)) O') :
  az P E ops K (Oper.mk (some d) (.call { callee:=.builtin .copy,args:=#[x,y],argTypes:=#[t,ty2] }) ty pos af none::rest) env O:=fun I F ρ w h1 h2=>by
 obtain ⟨a,sc,ey,hsrc⟩:=hy I F ρ w h1 h2
 obtain ⟨htop,L,hL,hS⟩:=h2
 have ex:=fd h1 hx
 obtain ⟨A,B,hp,hA,hback⟩:=hO.rep hL
 have hA:A=[(b,.cells vs.toArray T (0,0))]:=hA
 subst hA
 have hS2:SL I.k ((b,.cells vs.toArray T (0,0))::(B++F)) E w:=hS.perm ((hp.append_right F).symm)
 have hrun:=run_copy_row (P:=P) w t ty2 ty e b off dl dc a sl sc vs.toArray T cs ht hs (hS2.own _ (.head _)) (by rw[hq,hmin]) hsrc (by simpa [hq] using hfit) h1c
 rw[hq] at hrun
 obtain ⟨L',h5,h6⟩:=hback (qd I) (A':=[(b,.cells (vs.take off++cs++vs.drop (off+q)).toArray T (0,0))]) rfl
 refine qf U ?_
 unfold iN
 have hex:(execOp (Go.Proofs.YtdilpodccjlkgaaGreatDoor.ev ρ) (Oper.mk (some d) (.call { callee:=.builtin .copy,args:=#[x,y],argTypes:=#[t,ty2] }) ty pos af none)).run P w=.ok (.value (goInt q)) (w.setRow b (vs.take off++cs++vs.drop (off+q)).toArray):=by
  simp only[execOp,resolve]
  simp at hrun
  simp[invoke,builtin,ex,ey,hrun]
 rw[hex]
 refine kk I F _ _ (h1.upd d U) ⟨htop,L',h5,?_⟩
 exact (hS2.turn1).perm (h6.append_right F)
theorem dN.rowOwn {t b m:Nat} {vs:List Value} {O1:OL} {c:Code} {Q:Exit→aS→OL→Prop} {n:Nat} (hv:env t=CZ b 0 m m) (hO:dB O 0 (yA b T vs) O1) (hm:vs.length=m) (hc:∀u∈vs,u.oneCell'=true)
  (h:∀i,dN P E n c Q (br env t (.own i m)) ((i,.grow 1 T (vs.map lit))::O1)):dN P E n c Q env O:=fun I F ρ w h1 h2=>by
 obtain ⟨i,hi⟩:=h2.name
 obtain ⟨J,e1,hle,e2,htop⟩:=hi (some b,m)
 obtain ⟨_,L,hL,hS⟩:=h2
 obtain ⟨A,B,hp,hA,hB⟩:=hO.rep hL
 have hA:A=[(b,.cells vs.toArray T (0,0))]:=hA
 subst hA
 refine (h i J F ρ w (fun q=>?_) ⟨htop,_,⟨[(b,.cells vs.toArray T (0,0))],B,U,⟨some b,m,m,vs,e2,eA J vs,hc,fC.made (by rw[hm,Nat.mul_one])⟩,hB.mono hle⟩,by rw[e1];exact hS.perm (hp.symm.append_right F)⟩).mono fun _ _ _=>lX.up hle
 unfold br
 cases hb:Nat.beq q t with
 |false=>exact bq.mono hle _ _ (h1 q)
 |true=>
  have:q=t:=Nat.eq_of_beq_eq_true hb
  subst this
  have h4:=h1 q
  rw[hv] at h4
  exact ⟨some b,m,e2,h4⟩
end
end Go.Proofs.YtdilpodccjlkgaaGreatDoor
namespace Go.Proofs.YtdilpodccjlkgaaGreatDoor
open Go.Proofs.Tryz
section
variable {E:World} {P:Program} {env:aS} {O O' O'':OL}
theorem aX.knowIC {j off i m:Nat} {T T':TypeId} {cs:List AV} {l:List Int} (hO:dB O i (.grow 1 T (cI l)) O') (hP:fD O' j (.cells T' cs) (.cells T' (cs.set off (.fro 1 (l.map fun x=>[.int .i64 x])))) O'') (hc:cs[off]?=some (.own i m)) (hm:l.length=m):aX E env O env O'':=
 aX.knowC (rows:=l.map fun x=>[.int .i64 x]) (by rw[rV];exact hO) hP hc (fun r hr=>by obtain ⟨_,_,rfl⟩:=List.mem_map.1 hr;rfl) (by decide) (by rw[qr];exact hm)
theorem aX.nestBackN {α:Type} {c:fE α} {b j m i n:Nat} {T e:TypeId} {rows:List (List α)} {r:List α} (hn:r.length=n) (hP:dB O i (.grow c.k e (c.av r)) O') (hO:fD O' m (wN c T e b rows j n i) (du c T e b (rows.set j r)) O''):aX E env O env O'':=by subst hn;exact aX.nestBack hP hO
theorem aR.weak {f:FuncId} {args:List AV} {R:AV→OL→Prop} {y:AV} (h:aR P E f args [] R) (hr:∀x O,R x O→O=[]∧∀I v,bq I x v→bq I y v):aK P E f args y:=fun I F w vs h1 h2=>
 (h I F w vs h1 h2).mono fun v w' ⟨J,x,O',a,b,c,d⟩=>by
  obtain ⟨e,hv⟩:=hr x O' d
  subst e
  exact ⟨J,y,[],a,hv _ _ b,c,rfl⟩
theorem jN {tp te:TypeId} {j:TypeInfo} (a:Addr) (hp:P.underlying tp=some (.pointer te)) (hte:P.info? te=some j) (w:World) :
  (binOp .neq tp (.pointer (some a)) (.pointer none)).run P w=.ok (.bool true) w:=by
 have h:∀d:Nat,(Op.equalIn (d+1) tp (.pointer (some a)) (.pointer none)).run P w=.ok false w:=fun d=>by
  simp[Op.equalIn,run_underlying hp,sizeOf,typeInfo,hte]
 simp only[binOp]
 simp[Op.equal,Op.maxDepth,h 9999]
theorem ny {tp te:TypeId} {j:TypeInfo} (a:Addr) (hp:P.underlying tp=some (.pointer te)) (hte:P.info? te=some j) (w:World) :
  (binOp .eql tp (.pointer (some a)) (.pointer none)).run P w=.ok (.bool false) w:=by
 have h:∀d:Nat,(Op.equalIn (d+1) tp (.pointer (some a)) (.pointer none)).run P w=.ok false w:=fun d=>by
  simp[Op.equalIn,run_underlying hp,sizeOf,typeInfo,hte]
 simp only[binOp]
 simp[Op.equal,Op.maxDepth,h 9999]
variable {d ty:Nat} {pos:String} {af:Array Edge} {x y z:Operand} {t u e T:TypeId}
theorem Gv.neqPf {cs:List AV} {j:TypeInfo} (hp:P.underlying t=some (.pointer e)) (hte:P.info? e=some j) (hx:aV env x=.pf cs):Gv P env O (Oper.mk (some d) (.binOp .neq t x (.const (.pointer none)) u) ty pos af none) (.bool true):=Gv.ofEv fun I ρ h=>by
 have h1:=h.ev x
 rw[hx] at h1
 obtain ⟨b,off,vs,e1,_⟩:=h1
 exact ⟨_,rfl,fun w=>by
  have e2:Go.Proofs.YtdilpodccjlkgaaGreatDoor.ev ρ (.const (.pointer none))=.pointer none:=rfl
  simp only[execOp,e1,e2];simp[eqGuard,jN _ hp hte]⟩
theorem Gv.neqPo {i off:Nat} {j:TypeInfo} (hp:P.underlying t=some (.pointer e)) (hte:P.info? e=some j) (hx:aV env x=.po i off):Gv P env O (Oper.mk (some d) (.binOp .neq t x (.const (.pointer none)) u) ty pos af none) (.bool true):=Gv.ofEv fun I ρ h=>by
 have h1:=h.ev x
 rw[hx] at h1
 obtain ⟨b,c,_,e1⟩:=h1
 exact ⟨_,rfl,fun w=>by
  have e2:Go.Proofs.YtdilpodccjlkgaaGreatDoor.ev ρ (.const (.pointer none))=.pointer none:=rfl
  simp only[execOp,e1,e2];simp[eqGuard,jN _ hp hte]⟩
theorem Gv.eqlPo {i off:Nat} {j:TypeInfo} (hp:P.underlying t=some (.pointer e)) (hte:P.info? e=some j) (hx:aV env x=.po i off):Gv P env O (Oper.mk (some d) (.binOp .eql t x (.const (.pointer none)) u) ty pos af none) (.bool false):=Gv.ofEv fun I ρ h=>by
 have h1:=h.ev x
 rw[hx] at h1
 obtain ⟨b,c,_,e1⟩:=h1
 exact ⟨_,rfl,fun w=>by
  have e2:Go.Proofs.YtdilpodccjlkgaaGreatDoor.ev ρ (.const (.pointer none))=.pointer none:=rfl
  simp only[execOp,e1,e2];simp[eqGuard,ny _ hp hte]⟩
end
end Go.Proofs.YtdilpodccjlkgaaGreatDoor
namespace Go.Proofs.YtdilpodccjlkgaaGreatDoor
open Go.Proofs.Tryz
open Go.Proofs Go.Lib Go.Shelf Go.RowKit
theorem FS:cX prog 261 #[(0,1),(1,1)] [.bool false,.int .i64 0]:=⟨_,_,Ym,zeroValue261,fun w=>by kernel_rfl,rfl⟩
variable {E:World}
set_option maxRecDepth 20000
def bf (q:eu):List AV:=[.int .i64 q.a,.int .i64 q.b,.int .i64 q.c]
def fG (o:Option Int):List AV:=[.bool o.isSome,.int .i64 (o.getD 0)]
def wT (n:Nat) (l:List eu) (y:AV):AV:=.pf [.int .i64 n,.fro 3 (l.map bf),y]
theorem kQ (n:Nat) (z y:AV) (a:Int):aK prog E 108 [.pf [.int .i64 n,z,y],.int .i64 a] (.bool (decide (0≤a∧a<n))):=by
 refine zq func108 U (by decide) U<|ae<|ab U<|z6<|ae<|bg U<|za (Gv.neqPf underlying71 type136 U)<|aj U<|z8 U U U<|aa U<|z8 U U U<|za (yy U U)<|aq U U U<|aj U<|zo (s:=11) U (fun c1=>?_) (fun c1=>?_)
 ·refine z8 U U c1<|aa U<|z8 U U c1<|bg U<|z8 U U c1<|za (yc U)<|z8 U U c1<|ao Zl U j6 U U<|z8 U U c1<|ay j7 U<|z8 U U c1<|ax U U<|aq U c1 U<|ab U<|z6<|zi<|zm (x:=.bool _) U ?_
  exact congrArg AV.bool (by simp_all<;>omega)
 ·refine z7 U U c1<|z7 U U c1<|z7 U U c1<|z7 U U c1<|z7 U U c1<|z7 U U c1<|au U c1 U<|ab U<|z6<|zi<|zm (x:=.bool _) U ?_
  exact congrArg AV.bool (by simp_all<;>omega)
theorem iz (r:List (Option Int)):∀x∈r.map fG,x.length=2:=fun x hx=>by obtain ⟨o,_,rfl⟩:=List.mem_map.1 hx;rfl
theorem qX (l:List eu):∀x∈l.map bf,x.length=3:=fun x hx=>by obtain ⟨o,_,rfl⟩:=List.mem_map.1 hx;rfl
theorem C0 (r:List (Option Int)):(r.map fG).flatten.length=r.length*2:=by
 induction r with
 |nil=>rfl
 |cons o r ih=>rw[List.map_cons,List.flatten_cons,qq,ih,List.length_cons];show 2+_=_;omega
theorem C1 (r:List (Option Int)):(r.map fG).flatten.all AV.cell=true:=by
 induction r with
 |nil=>rfl
 |cons o r ih=>rw[List.map_cons,List.flatten_cons,List.all_append,ih];rfl
theorem oo {α:Type} {k:Nat}:∀{rows:List (List α)} {j i:Nat} {r:List α},(∀x∈rows,x.length=k)→rows[j]?=some r→i<k→rows.flatten[j*k+i]?=r[i]?
 |x::rows,0,i,r,hk,h,hi=>by
  cases h
  rw[List.flatten_cons,Nat.zero_mul,Nat.zero_add,List.getElem?_append_left (by rw[hk x (.head _)];exact hi)]
 |x::rows,j+1,i,r,hk,h,hi=>by
  have h1:=hk x (.head _)
  rw[List.flatten_cons,List.getElem?_append_right (by rw[h1,Nat.succ_mul];omega),h1,show (j+1)*k+i - k=j*k+i by rw[Nat.succ_mul];omega]
  exact oo (fun y hy=>hk y (.tail _ hy)) h hi
theorem rY {α:Type} {l:List α} {i:Nat} {a:α} (h:l[i]?=some a):l.drop i=a::l.drop (i+1):=by
 obtain ⟨h1,h2⟩:=List.getElem?_eq_some_iff.1 h
 rw[←h2];exact List.drop_eq_getElem_cons h1
theorem oq {r:List (Option Int)} {v:Int} {n:Nat} (hr:r.length=n) (hv:gj n v):r[v.toNat]?=some (jn r v):=by
 unfold gj at hv
 unfold jn
 rw[qk (by omega)];rfl
theorem Eg {r:List (Option Int)} {v:Int} {n:Nat} (hr:r.length=n) (hv:gj n v):(r.map fG)[v.toNat]?=some (fG (jn r v)):=by rw[qs,oq hr hv];rfl
def rZ (l:List eu) (now:List (Option Int)) (g:Nat):List (Option Int) × Bool:=(l.take g).foldl (pY now) (now,false)
theorem C2 (l:List eu) (now:List (Option Int)) (g:Nat):(rZ l now g).1.length=now.length:=by unfold rZ;rw[n3,kL]
theorem tz {l:List eu} {now:List (Option Int)} {g:Nat} {q:eu} (h:l[g]?=some q):rZ l now (g+1)=pY now (rZ l now g) q:=by unfold rZ;rw[List.take_add_one,h,List.foldl_append];rfl
theorem tA {k:Nat} (hk:k≤5) {r:List (Option Int)} (h:lS k r) (v:Int):-5764607523034234880≤(jn r v).getD 0∧(jn r v).getD 0≤5764607523034234880:=by
 cases e:jn r v with
 |none=>exact ⟨by decide,by decide⟩
 |some m=>
  have:=h v m e
  have h2:(k:Int)*bo≤5*bo:=Int.mul_le_mul_of_nonneg_right (by omega) (by decide)
  have e5:(5:Int)*bo=5764607523034234880:=by decide
  show -5764607523034234880≤m∧m≤5764607523034234880
  omega
theorem tB {now next:List (Option Int)} {q:eu} (h:kb now next q=true):∃s,jn now q.b=some s:=by
 unfold kb at h
 cases e:jn now q.b with
 |none=>rw[e] at h;cases h
 |some s=>exact ⟨s,rfl⟩
theorem r3 {now next:List (Option Int)} {q:eu} {u:Bool} (h:u=((jn now q.b).isSome&&(!(jn next q.a).isSome||decide ((jn now q.b).getD 0+q.c<(jn next q.a).getD 0)))):u=kb now next q:=by
 rw[h]
 unfold kb
 cases jn now q.b with
 |none=>rfl
 |some s=>
  cases jn next q.a with
  |none=>rfl
  |some m=>simp
theorem yB (n:Nat) (l:List eu) (y:AV) (now:List (Option Int)) (k:Nat) (hk:k≤5) (hn:now.length=n) (hnn:n≤2000) (hl:∀q∈l,vn n q∧(-bo≤q.c∧q.c≤bo)) (hll:l.length≤10000) (hs:lS k now) :
  aK prog E 187 [wT n l y,.fro 2 (now.map fG)] (.tup [.fro 2 ((mD l now).map fG),.bool (xP l now).2]):=by
 unfold wT
 refine zq func187 U (by decide) U<|ae<|bF U<|ab U<|z6<|ae<|az.buildSlice0 (k:=2) Ya type261<|fun i12=>aT U<|yj (k:=2) Ya type261 U U U U U (fun _=>.head) (by simp) (by decide) (C1 _) (by show (_+_)*16≤_;simp<;>omega) (by simp<;>omega)<|fun i14=>za (gZ U)<|ab U<|z6<|zd<|ae<|bg U<|za (yc U)<|ao Zl U X6 U U<|aI isAgg134 U<|ar Yt U<|aa U<|z6<|zj<|y8 (γ:=Nat) [1,6,18,19] (fun g=>[(20,.int .i64 g),(7,.bool (rZ l now g).2)]) (fun g=>[(i14,.grow 2 261 ((rZ l now g).1.map fG).flatten)]) (fun g=>g≤l.length) (fun g=>l.length - g) 0 cV aD (qn _) ?_
 rintro g hg
 refine ae<|ax U U<|z6<|zd<|zu U (fun cg=>?_) (fun cg=>?_)
 ·have hg2:g<l.length:=by simp at cg;omega
  obtain ⟨q,hq⟩:∃q,l[g]=q:=⟨_,rfl⟩
  have hgq:l[g]?=some q:=by rw[qk hg2,hq]
  have hqm:q∈l:=qu hgq
  obtain ⟨⟨hqa,hqb⟩,hqc⟩:=hl q hqm
  have hfl:=C2 l now g
  have hrb:=Eg hn hqb
  have hra:=Eg (hfl.trans hn) hqa
  have hqa2:=hqa
  have hqb2:=hqb
  unfold gj at hqa2 hqb2
  have hcl:((rZ l now g).1.map fG).flatten.length=n*2:=by rw[C0,hfl,hn]
  have hs0:-5764607523034234880≤(jn now q.b).getD 0∧(jn now q.b).getD 0≤5764607523034234880:=tA hk hs _
  unfold bo at hqc
  refine zg<|zd<|zj<|ae<|za (bh g Yt sizeOf180 U U U hgq)<|ac isAgg180 sizeOf180 U U<|y6 (cs:=[.int .i64 0,.int .i64 0,.int .i64 0]) zeroValue180 U U<|fun i9=>y1 sizeOf180 U U U U U U .head U<|z6<|ae<|aT U<|za (zn X2 U j6 (by decide) U U)<|za (zt (c:=.int _ _) j7 U ⟨_,.head⟩ U)<|za (bh q.b.toNat Ya Yz U U (by omega) (oq hn hqb))<|ac isAgg261 Yz U U<|y6 (cs:=[.bool false,.int .i64 0]) zeroValue261 U U<|fun i10=>y1 Yz U U U U U U .head U<|z6<|ae<|za (zn Ym U Za (by decide) U U)<|za (zt (c:=.int _ _) Zj U ⟨_,.head⟩ U)<|za (zn X2 U Za (by decide) U U)<|za (zt (c:=.int _ _) Zj U ⟨_,.t1⟩ U)<|aC U U<|ap U<|z6<|zd<|ya (γ:=Bool) [1,6,7,9,11,18,19,20] (fun u=>[(54,.bool u)]) (fun u=>[(i10,.cells 261 (fG (jn now q.b))),(i9,.cells 180 (bf q)),(i14,.grow 2 261 ((rZ l now g).1.map fG).flatten)]) (fun u=>u=kb now (rZ l now g).1 q) ?_ (fun _ _ h=>h) ?_
  ·refine aO<|za (zn Ym U Zc (by decide) U U)<|za (zt (c:=.bool _) Y7 U ⟨_,.head⟩ U)<|aj U<|zo (s:=36) U (fun c2=>?_) (fun c2=>?_)
   ·refine z8 U U c2<|bz U<|z8 U U c2<|za (zn X2 U j6 (by decide) U U)<|z8 U U c2<|za (zt (c:=.int _ _) j7 U ⟨_,.t1⟩ U)<|z8 U U c2<|za (Gv.idxO (j:=q.a.toNat) Ya Yz U U (by omega) ⟨_,.t2⟩ (fun h=>by rw[h] at hcl;simp at hcl;omega) (by rw[qr];omega))<|z8 U U c2<|za (zn Ym U Zc (by decide) U U)<|z8 U U c2<|za (Gv.load1G (c:=_) Y7 U ⟨_,.t2⟩ (rY (oo (i:=0) (iz _) hra (by decide))))<|z8 U U c2<|aB U<|z8 U U c2<|aj U<|zo (s:=44) U (fun c3=>?_) (fun c3=>?_)
    ·refine z7 U U c3<|z7 U U c3<|z7 U U c3<|z7 U U c3<|z7 U U c3<|z7 U U c3<|z7 U U c3<|z7 U U c3<|z8 U U c2<|aq U c3 U<|aq U c2 U<|z6 ?_
     exact ⟨_,pS,aH,aD,r3 (by simp_all)⟩
    ·refine z8 U U c3<|aa U<|z8 U U c3<|bz U<|z8 U U c3<|za (zn X2 U j6 (by decide) U U)<|z8 U U c3<|za (zt (c:=.int _ _) j7 U ⟨_,.t1⟩ U)<|z8 U U c3<|za (Gv.idxO (j:=q.a.toNat) Ya Yz U U (by omega) ⟨_,.t2⟩ (fun h=>by rw[h] at hcl;simp at hcl;omega) (by rw[qr];omega))<|z8 U U c3<|za (zn Ym U Za (by decide) U U)<|z8 U U c3<|za (Gv.load1G (c:=_) Zj U ⟨_,.t2⟩ (rY (oo (i:=1) (iz _) hra (by decide))))<|z8 U U c3<|ax U U<|z8 U U c2<|au U c3 U<|aq U c2 U<|z6 ?_
     exact ⟨_,pS,aH,aD,r3 (by simp_all)⟩
   ·refine z7 U U c2<|z7 U U c2<|z7 U U c2<|z7 U U c2<|z7 U U c2<|z7 U U c2<|z7 U U c2<|z7 U U c2<|zk U U<|zk U U<|zk U U<|zk U U<|zk U U<|zk U U<|zk U U<|zk U U<|z7 U U c2<|au U c2 U<|z6 ?_
    exact ⟨_,pS,aH,aD,r3 (by simp_all)⟩
  ·rintro u hu
   refine zy U (fun cu=>?_) (fun cu=>?_)
   ·have hch:kb now (rZ l now g).1 q=true:=by rw[←hu];exact cu
    obtain ⟨s0,hs0e⟩:=tB hch
    have hnx:rZ l now (g+1)=((rZ l now g).1.set q.a.toNat (some ((jn now q.b).getD 0+q.c)),true):=by
     rw[tz hgq]
     unfold pY
     rw[wG hs0e hch,hch,Bool.or_true,hs0e];rfl
    refine aO<|bz U<|za (zn X2 U j6 (by decide) U U)<|za (zt (c:=.int _ _) j7 U ⟨_,.t1⟩ U)<|aa U<|za (y5 (cps:=[(0,[_]),(1,[_])]) (rs:=[_,_]) FS U U U)<|za (Gv.idxO (j:=q.a.toNat) Ya Yz U U (by omega) ⟨_,.t2⟩ (fun h=>by rw[h] at hcl;simp at hcl;omega) (by rw[qr];omega))<|az.storeG (l:=[_,_]) (new:=((rZ l now (g+1)).1.map fG).flatten) Yz U U U U U U .t2 (by rw[hcl];show q.a.toNat*2+2≤_;omega) (by decide) (by rw[hnx,List.map_set];exact tx (iz _) (by rw[qr];omega) rfl)<|ab U<|z6<|aO<|aC U U<|aa U<|z6 ?_
    exact ⟨g+1,fl,⟨rfl,by rw[hnx];rfl,trivial⟩,⟨_,(.drop (.drop (.refl _))),rfl⟩,hg2,by omega⟩
   ·have hch:kb now (rZ l now g).1 q=false:=by rw[←hu];simpa using cu
    have hnx:rZ l now (g+1)=rZ l now g:=by
     rw[tz hgq]
     unfold pY
     rw[rQ hch,hch,Bool.or_false]
    refine zg<|aO<|aC U U<|aa U<|z6 ?_
    exact ⟨g+1,fl,⟨rfl,by rw[hnx];rfl,trivial⟩,⟨_,(.drop (.drop (.refl _))),by rw[hnx]⟩,hg2,by omega⟩
 ·obtain rfl:g=l.length:=by simp at cg;omega
  have he:rZ l now l.length=xP l now:=by unfold rZ xP;rw[qp]
  have hf:=(rR l now).1
  rw[he,hf]
  refine y7<|ae<|bz U<|aj U<|za (gZ U)<|ab U<|z6<|zi ?_
  repeat (first|refine fM ?_|refine ez ?_)
  refine ye (aX.know (t:=4) (rows:=(mD l now).map fG) U .head (by exact iz _) (by decide) (by rw[qr];unfold mD;rw[kL];simp))<|q7 (x:=.fro _ _) (y:=.bool _) U U ?_
  rfl
set_option linter.defProp false
def yd:=@az.makeNest
def yf:=@aX.knowP
def yp:=@Gv.idxI
def q3:=@Gv.loadI
def q6:=@az.storeI
def q8:=@az.nestTake
def qg:=@az.storeB
def qh:=@Gv.idxN
def qi:=@az.nestPut
end Go.Proofs.YtdilpodccjlkgaaGreatDoor
