/- Facts on a stack, read: has, further, Least, Follows. Of facts of nodes that there are, not great. -/
import Derived.Test.YtdilpodccjlkgaaGreatDoorZb
import Derived.MapKept
import Derived.WideMake
import Derived.Laws.Cover4
import Derived.WideLaws
import Derived.Lib.AppendZeros
import Derived.Lib.Builder
import Derived.Lib.AppendStr
import Derived.Lib.UnsafeStr
import Derived.Laws.Externs
import Derived.Sort.Grow
import Derived.Laws.CopyRow
import Derived.LaidEqlPtr
import Derived.Test.YtdilpodccjlkgaaGreatDoorZa
import Derived.Test.YtdilpodccjlkgaaGreatDoorChecked
set_option linter.unusedVariables false
set_option linter.unusedSimpArgs false
set_option linter.unusedSectionVars false
namespace Go.Proofs.YtdilpodccjlkgaaGreatDoor
open Go.Proofs.Tryz
def ks (s:ByteArray):List (ByteArray × Int)→Option Int
 |[]=>none
 |(k,v)::es=>if s=k then some v else ks s es
def od (s:ByteArray) (v:Int):List (ByteArray × Int)→List (ByteArray × Int)
 |[]=>[(s,v)]
 |(k,u)::es=>if s=k then (k,v)::es else (k,u)::od s v es
def nK (p:ByteArray × Int):Value × Value:=(.string p.1,.int .i64 p.2)
def Io (b:Nat) (es:List (ByteArray × Int)) (L:List (Nat × Obj)):Prop:=∃(arr:Array MapEntry) (clock:Nat),L=[(b,.map arr clock)]∧arr.toList.map (fun e=>(e.key,e.val))=es.map nK
def Ax (b:Nat) (es:List (ByteArray × Int)):bA:=.heap (Io b es)
def dy (b:Nat):AV:=.raw (.map (some b))
theorem jK {s:ByteArray}:∀{l:List MapEntry} {es:List (ByteArray × Int)} {i:Nat},l.map (fun e=>(e.key,e.val))=es.map nK→ks s es=none→Instr.findNow .string (.string s) l i=some none
 |[],[],_,_,_=>rfl
 |[],_::_,_,h,_=>by cases h
 |_::_,[],_,h,_=>by cases h
 |e::l,(k,v)::es,i,h,hg=>by
  simp only[List.map_cons,List.cons.injEq,nK,Prod.mk.injEq] at h
  obtain ⟨⟨h1,_⟩,h2⟩:=h
  simp only[ks] at hg
  split at hg
  ·cases hg
  ·rename_i hne
   unfold Instr.findNow
   rw[h1]
   have:(s == k)=false:=Bool.eq_false_iff.2 fun h=>hne ((MapKept.bytes_beq s k).1 h)
   simp only[Instr.sameNow,this]
   exact jK h2 hg
theorem jL {s:ByteArray} {u:Int}:∀{l:List MapEntry} {es:List (ByteArray × Int)} {i:Nat},l.map (fun e=>(e.key,e.val))=es.map nK→ks s es=some u →
  ∃j,Instr.findNow .string (.string s) l i=some (some (i+j,.int .i64 u))∧(∃e,l[j]?=some e∧e.key=.string s)∧∀v,es.set j (s,v)=od s v es
 |[],[],_,_,hg=>by cases hg
 |[],_::_,_,h,_=>by cases h
 |_::_,[],_,h,_=>by cases h
 |e::l,(k,v)::es,i,h,hg=>by
  simp only[List.map_cons,List.cons.injEq,nK,Prod.mk.injEq] at h
  obtain ⟨⟨h1,h3⟩,h2⟩:=h
  simp only[ks] at hg
  unfold Instr.findNow
  rw[h1]
  split at hg
  ·rename_i heq
   subst heq
   cases hg
   refine ⟨0,?_,⟨e,Z,h1⟩,fun v=>?_⟩
   ·have hss:(s == s)=true:=(MapKept.bytes_beq s s).2 rfl
    simp only[Instr.sameNow,hss]
    rw[h3];rfl
   ·simp[od]
  ·rename_i hne
   have hb:(s == k)=false:=Bool.eq_false_iff.2 fun h=>hne ((MapKept.bytes_beq s k).1 h)
   obtain ⟨j,g1,g2,g3⟩:=jL (i:=i+1) h2 hg
   refine ⟨j+1,?_,by simpa using g2,fun v=>?_⟩
   ·simp only[Instr.sameNow,hb,g1]
    congr 3;omega
   ·simp[od,hne,g3]
section
variable {E:World} {P:Program} {n:Nat} {ops:Array Oper} {K:aR→OL→Prop} {env:aR} {O O':OL} {rest:List Oper}
variable {d ty:Nat} {pos:String} {af:Array Edge} {t e kt:TypeId} {x y z:Operand} {b i:Nat} {es:List (ByteArray × Int)}
theorem az.makeMap (k:∀b,az P E ops K rest (bq env d (dy b)) ((0,Ax b [])::O)):az P E ops K (Oper.mk (some d) (.makeMap t none) ty pos af none::rest) env O:=fun I F ρ w h1 ⟨ht,L,hL,hS⟩=>by
 refine qn Z ?_
 unfold jH
 have:(execOp (Go.Proofs.YtdilpodccjlkgaaGreatDoor.ev ρ) (Oper.mk (some d) (.makeMap t none) ty pos af none)).run P w=.ok (.value (.map (some w.heap.size))) (w.alloc (.map #[] 0)):=by
  simp only[execOp,Option.map_none]
  rw[Sem.run_bind,run_makeMap_plain];rfl
 rw[this]
 exact k w.heap.size I F _ _ (h1.upd d rfl) ⟨ht,(w.heap.size,.map #[] 0)::L,⟨[_],L,rfl,⟨#[],0,rfl,rfl⟩,hL⟩,hS.alloc _⟩
theorem F9 {I:G} {L:List (Nat × Obj)} (hO:nF O i (Ax b es)) (hL:bw I O L):∃(arr:Array MapEntry) (clock:Nat),(b,Obj.map arr clock)∈L∧arr.toList.map (fun e=>(e.key,e.val))=es.map nK:=by
 obtain ⟨O',hO⟩:=hO
 obtain ⟨A,B,hp,⟨arr,clock,rfl,h2⟩,_⟩:=hO.rep hL
 exact ⟨arr,clock,hp.mem_iff.2 (by simp),h2⟩
theorem az.mapSet {s:ByteArray} {v:Int} (ht:P.underlying t=some (.map kt e)) (hk:P.underlying kt=some .string) (hx:aV env x=dy b) (hy:aV env y=.str s) (hz:aV env z=.int .i64 v) (hO:fR O i (Ax b es) (Ax b (od s v es)) O')
  (k:az P E ops K rest env O'):az P E ops K (Oper.mk none (.mapUpdate t x y z) ty pos af none::rest) env O:=fun I F ρ w h1 ⟨htop,L,hL,hS⟩=>by
 have hx:=fB h1 hx
 have hy:=Eg h1 hy
 have hz:=fK h1 hz
 obtain ⟨A,B,hp,⟨arr,clock,rfl,he⟩,hback⟩:=hO.rep hL
 have hS2:SL I.k ((b,.map arr clock)::(B++F)) E w:=hS.perm ((hp.append_right F).symm)
 have hb:=hS2.own _ (.head _)
 simp only at hb
 have hc:(Instr.checkKey false 10000 kt (.string s)).run P w=.ok () w:=MapKept.run_checkKey (k:=.string s) hk (by simp[MapKept.IsKey]) false 9999
 have fin:∀(arr':Array MapEntry) (clock':Nat),arr'.toList.map (fun e=>(e.key,e.val))=(od s v es).map nK →
   (execOp (Go.Proofs.YtdilpodccjlkgaaGreatDoor.ev ρ) (Oper.mk none (.mapUpdate t x y z) ty pos af none)).run P w=.ok .skip { w with heap:=w.heap.setIfInBounds b (.map arr' clock') }→bZ P ops (ir I F E K) (Oper.mk none (.mapUpdate t x y z) ty pos af none::rest) ρ w:=fun arr' clock' he' hrun=>by
  refine qn Z ?_
  unfold jH
  rw[hrun]
  obtain ⟨L',h7,h8⟩:=hback (qf I) (A':=[(b,.map arr' clock')]) ⟨arr',clock',rfl,he'⟩
  have hh:=MapKept.heap_set (o':=.map arr' clock') hb
  have hS3:SL I.k ((b,.map arr' clock')::(B++F)) E { w with heap:=w.heap.setIfInBounds b (.map arr' clock') }:=hS2.turn rfl rfl rfl hh.1 hh.2
  exact k I F ρ _ h1 ⟨htop,L',h7,hS3.perm (h8.append_right F)⟩
 cases hg:ks s es with
 |none=>
  have hf:=jK (i:=0) he hg
  refine fin (arr.push { key:=.string s,val:=.int .i64 v,born:=clock }) (clock+1) ?_ ?_
  ·have hset:∀es:List (ByteArray × Int),ks s es=none→od s v es=es++[(s,v)]:=fun es=>by
    induction es with
    |nil=>intro _;rfl
    |cons x es ih=>
     obtain ⟨k,u⟩:=x
     intro hg
     simp only[ks] at hg
     split at hg
     ·cases hg
     ·rename_i hne;simp[od,hne,ih hg]
   rw[hset es hg]
   simp[he,nK]
  ·simp[execOp,hx,hy,hz,Instr.mapUpdate,run_underlying ht,MapKept.run_getObj_map hb,hc,MapKept.run_findKey hk hf,MapKept.run_setObj_map _ hb,Result.andThen]
 |some u=>
  obtain ⟨j,hf,⟨e0,hj,hkey⟩,hset⟩:=jL (i:=0) he hg
  rw[Nat.zero_add] at hf
  have hj':arr[j]?=some e0:=by rw[←Array.getElem?_toList];exact hj
  refine fin (arr.modify j fun e=>{ e with key:=.string s,val:=.int .i64 v }) clock ?_ ?_
  ·rw[←hset v,List.map_set]
   have hjl:j<arr.toList.length:=(List.getElem?_eq_some_iff.1 hj).1
   have:(arr.modify j fun e=>{ e with key:=.string s,val:=.int .i64 v }).toList=arr.toList.set j { e0 with key:=.string s,val:=.int .i64 v }:=by
    apply List.ext_getElem?
    intro q
    rw[Array.getElem?_toList,Array.getElem?_modify]
    by_cases hq:j=q
    ·subst hq
     rw[if_pos rfl,hj',List.getElem?_set_self hjl];rfl
    ·rw[if_neg hq,List.getElem?_set_ne hq,Array.getElem?_toList]
   rw[this,List.map_set,he];rfl
  ·have hkeep:(Instr.keyThatStays (.string s) (.string s)).run P w=.ok (.string s) w:=by
    have hss:(s == s)=true:=(MapKept.bytes_beq s s).2 rfl
    simp[Instr.keyThatStays,Instr.sameBits,hss]
   simp[execOp,hx,hy,hz,Instr.mapUpdate,run_underlying ht,MapKept.run_getObj_map hb,hc,MapKept.run_findKey hk hf,MapKept.run_setObj_map _ hb,Result.andThen,hj',hkey,hkeep]
end
end Go.Proofs.YtdilpodccjlkgaaGreatDoor
namespace Go.Proofs.YtdilpodccjlkgaaGreatDoor
open Go.Proofs.Tryz
section
variable {E:World} {P:Program} {n:Nat} {ops:Array Oper} {K:aR→OL→Prop} {env:aR} {O O':OL} {rest:List Oper} {R:AV→OL→Prop}
variable {d ty:Nat} {pos:String} {af:Array Edge} {t e:TypeId} {x y:Operand}
theorem dX.c1t {t u T i:Nat} {T':TypeId} {cs:List AV} {n:Nat} {y:AV} (hv:env t=.po i 0) (hu:env u=y) (hO:nF O i (.cells T' cs)) (ha:∀w,(isAgg T).run P w=.ok true w) (hs:∀w,(sizeOf T).run P w=.ok n w) (hn:cs.length=n) (h:R (.tup [.agg cs,y]) O) :
  dX P E #[.cell t T,.tmp u] R .ret env O:=dX.of (x:=.tup [.agg cs,y]) (fun I F ρ w h1 h2=>by
 obtain ⟨L,hL,hS⟩:=h2.2
 have h3:=h1 t
 rw[hv] at h3
 obtain ⟨b,c,e1,e⟩:=h3
 obtain ⟨b',c',vs,e2,h4,hm⟩:=hO.cells hL
 rw[e1] at e2;cases e2
 have hl:=ka (P:=P) (w:=w) (b:=b) (off:=0) ha (cs:=vs) (by rw[h4.length,hn];exact hs) (fun j v hj=>by
  rw[Nat.zero_add]
  exact hS.at_ (.inr ⟨_,_,_,List.mem_append_left _ hm,by rw[List.getElem?_toArray];exact hj⟩))
 exact ⟨.tuple #[.agg vs.toArray,ρ u],by simp[rr,e,asAddr,hl],⟨[_,_],rfl,_,_,rfl,⟨vs,rfl,h4⟩,_,_,rfl,hu▸h1 u,rfl⟩⟩) h
end
end Go.Proofs.YtdilpodccjlkgaaGreatDoor
namespace Go.Proofs.YtdilpodccjlkgaaGreatDoor
open Go.Proofs.Tryz
section
variable {E:World} {P:Program} {env:aR} {O:OL} {d ty:Nat} {pos:String} {af:Array Edge} {x:Operand} {t u:TypeId}
end
end Go.Proofs.YtdilpodccjlkgaaGreatDoor
namespace Go.Proofs.YtdilpodccjlkgaaGreatDoor
open Go.Proofs.Tryz
section
variable {E:World} {P:Program} {ops:Array Oper} {K:aR→OL→Prop} {env:aR} {O O' O'':OL} {rest:List Oper} {n:Nat}
variable {d ty:Nat} {pos:String} {af:Array Edge} {x y z:Operand} {t u e:TypeId}
theorem Ay {A row:List AV} {j:Nat} {c:AV} (h:row[j]?=some c):(A++row).drop (A.length+j)=c::row.drop (j+1):=by
 obtain ⟨hj,rfl⟩:=List.getElem?_eq_some_iff.1 h
 rw[List.drop_append,List.drop_eq_nil_of_le (by omega),Nat.add_sub_cancel_left,List.nil_append]
 exact List.drop_eq_getElem_cons hj
theorem Gv.loadL {i off j k:Nat} {T:TypeId} {c:AV} {A row:List AV} (ha:∀w,(isAgg t).run P w=.ok false w) (hx:aV env x=.po i off) (hoff:off=A.length+j) (hO:nF O i (.grow k T (A++row))) (hv:row[j]?=some c) :
  Gv P env O (Oper.mk (some d) (.load t x) ty pos af none) c:=Gv.load1G ha hx hO (by subst hoff;exact Ay hv)
theorem az.storeL {i off j m k:Nat} {T:TypeId} {v:AV} {A row l new:List AV} (hs:∀w,(sizeOf t).run P w=.ok m w) (hx:aV env x=.po i off) (hoff:off=A.length+j) (hy:aV env y=v) (hv:v.sto=true) (hl:v.cs=l) (hl1:l.all AV.cell=true) (hn:l.length=m)
  (hO:fR O i (.grow k T (A++row)) (.grow k T (A++new)) O') (hb:Nat.ble (j+m) row.length=true) (hm:Nat.ble 1 m=true) (hnew:row.take j++l++row.drop (j+m)=new) (kk:az P E ops K rest env O'):az P E ops K (Oper.mk none (.store t x y) ty pos af none::rest) env O:=
 az.storeG hs hx hy hv hl hl1 hn hO (by have:=Nat.le_of_ble_eq_true hb;rw[qz];omega) (Nat.le_of_ble_eq_true hm) (by
  have:=Nat.le_of_ble_eq_true hb
  subst hoff hnew
  rw[List.take_append,List.take_of_length_le (by omega:A.length≤A.length+j),Nat.add_sub_cancel_left,List.drop_append,List.drop_eq_nil_of_le (by omega:A.length≤A.length+j+m),Nat.add_assoc,Nat.add_sub_cancel_left]
  simp) kk
theorem Gv.idxOL {i n k j r:Nat} {a:Int} {T:TypeId} {cs:List AV} (ht:P.underlying t=some (.slice e)) (hs:∀w,(sizeOf e).run P w=.ok k w) (hx:aV env x=.own i n) (hy:aV env y=.int .i64 a) (hi:a=(j:Int)) (hO:nF O i (.grow k T cs)) (hne:cs≠[]) (hj:j<n) (hr:j*k=r) :
  Gv P env O (Oper.mk (some d) (.indexAddr t x y) ty pos af none) (.po i r):=hr▸Gv.idxO ht hs hx hy hi hO hne hj
theorem aS.eq (h:O=O'):aS E env O env O':=fun I F ρ w h1 h2=>⟨I,.refl _,h1,h▸h2⟩
end
section
variable {P:Program} {E:World} {l:List Oper} {W:Nat→Bool} {fuel:Nat} {listed:Array Bool} {d ty:Nat} {op:Op} {pos:String} {af:Array Edge}
end
theorem aS.knowP {E:World} {env:aR} {O O':OL} {t i:Nat} {T:TypeId} {cs:List AV} (hv:env t=.po i 0) (hO:dA O i (.cells T cs) O'):aS E env O (bq env t (.pf cs)) O':=fun I F ρ w h1 ⟨ht,L,hL,hS⟩=>by
 obtain ⟨A,B,hp,⟨b,c,vs,e1,hvs,hvc,rfl⟩,hB⟩:=hO.rep hL
 simp only at e1
 have hS2:SL I.k ((b,.cells vs.toArray T (0,0))::(B++F)) E w:=hS.perm ((hp.append_right F).symm)
 obtain ⟨hl,hS3⟩:=SL.freeze hS2
 let J:G:=⟨I.k.put b (.cells vs.toArray T (0,0)),I.h⟩
 have hle:I.le J:=⟨hl,fun _ _ h=>h⟩
 refine ⟨J,hle,fun s=>?_,ht,B,hB.mono hle,hS3⟩
 unfold bq
 cases hb:Nat.beq s t with
 |false=>exact bp.mono hle _ _ (h1 s)
 |true=>
  have:s=t:=Nat.eq_of_beq_eq_true hb
  subst this
  have h2:=h1 s
  rw[hv] at h2
  obtain ⟨b2,c2,e2,e3⟩:=h2
  rw[e1] at e2
  simp only[Option.some.injEq,Prod.mk.injEq] at e2
  obtain ⟨rfl,rfl⟩:=e2
  exact ⟨b,0,vs,e3,ql hle _ _ hvs,fun j u hj=>⟨_,_,_,bD.put_same _ _ _,by rw[Nat.zero_add,List.getElem?_toArray];exact hj⟩⟩
end Go.Proofs.YtdilpodccjlkgaaGreatDoor
namespace Go.Proofs.YtdilpodccjlkgaaGreatDoor
open Go.Proofs.Tryz
section
variable {E:World} {P:Program} {ops:Array Oper} {K:aR→OL→Prop} {env:aR} {O O':OL} {rest:List Oper}
variable {d ty:Nat} {pos:String} {af:Array Edge} {x y z:Operand} {t u e:TypeId}
end
end Go.Proofs.YtdilpodccjlkgaaGreatDoor
namespace Go.Proofs.YtdilpodccjlkgaaGreatDoor
open Go.Proofs.Tryz
section
variable {P:Program} {env:aR} {O:OL}
variable {d ty:Nat} {pos:String} {af:Array Edge} {x y:Operand}
theorem Gv.maxI {ts:Array TypeId} {k:IntKind} {a b:Int} (hx:aV env x=.int k a) (hy:aV env y=.int k b):Gv P env O (Oper.mk (some d) (.call { callee:=.builtin .max,args:=#[x,y],argTypes:=ts }) ty pos af none) (.int k (if b>a then b else a)):=Gv.ofEv fun I ρ h=>⟨_,rfl,fun w=>by
 simp[execOp,resolve,fK h hx,fK h hy,invoke,builtin,Builtin.max_,Builtin.max2,Result.andThen]⟩
theorem Gv.minI {ts:Array TypeId} {k:IntKind} {a b:Int} (hx:aV env x=.int k a) (hy:aV env y=.int k b):Gv P env O (Oper.mk (some d) (.call { callee:=.builtin .min,args:=#[x,y],argTypes:=ts }) ty pos af none) (.int k (if b<a then b else a)):=Gv.ofEv fun I ρ h=>⟨_,rfl,fun w=>by
 simp[execOp,resolve,fK h hx,fK h hy,invoke,builtin,Builtin.min_,Builtin.min2,Result.andThen]⟩
end
end Go.Proofs.YtdilpodccjlkgaaGreatDoor
namespace Go.Proofs.YtdilpodccjlkgaaGreatDoor
open Go.Proofs.Tryz
open Go.Lib
section
variable {P:Program} {ops:Array Oper} {K:dI→World→Prop} {ρ:dI} {w:World} {rest:List Oper}
variable {d ty:Nat} {pos:String} {af:Array Edge} {x y z:Operand} {t u e:TypeId}
variable {I:bD} {O A:List (Nat × Obj)} {E:World}
end
section
variable {E:World} {P:Program} {ops:Array Oper} {K:aR→OL→Prop} {env:aR} {O O':OL} {rest:List Oper}
variable {d ty:Nat} {pos:String} {af:Array Edge} {x y z:Operand} {t u e:TypeId}
end
section
variable {E:World} {P:Program} {env:aR} {O:OL} {d ty:Nat} {pos:String} {af:Array Edge} {t e kt:TypeId} {x y:Operand} {b i:Nat} {es:List (ByteArray × Int)}
theorem Gv.lookup1S {s:ByteArray} (ht:P.underlying t=some (.map kt e)) (hk:P.underlying kt=some .string) (hz:∀w,(zeroValue e).run P w=.ok (.int .i64 0) w) (hx:aV env x=dy b) (hy:aV env y=.str s) (hO:nF O i (Ax b es)) :
  Gv P env O (Oper.mk (some d) (.lookup t x y false) ty pos af none) (.int .i64 ((ks s es).getD 0)):=fun I L E ρ h1 hL=>by
 obtain ⟨arr,clock,hm,he⟩:=F9 hO hL
 have hx:=fB h1 hx
 have hy:=Eg h1 hy
 refine ⟨.int .i64 ((ks s es).getD 0),Z,fun w J L' hl hS hin=>?_⟩
 have hb:=hS.own _ (hin _ hm)
 simp only at hb
 have hc:(Instr.checkKey arr.isEmpty 10000 kt (.string s)).run P w=.ok () w:=MapKept.run_checkKey (k:=.string s) hk (by simp[MapKept.IsKey]) _ 9999
 cases hg:ks s es with
 |none=>
  have hf:=jK (i:=0) he hg
  simp[execOp,Instr.lookup,run_underlying ht,hx,hy,MapKept.run_getObj_map hb,hc,MapKept.run_findKey hk hf,hz,Result.andThen]
 |some u=>
  obtain ⟨j,hf,_⟩:=jL (i:=0) he hg
  simp[execOp,Instr.lookup,run_underlying ht,hx,hy,MapKept.run_getObj_map hb,hc,MapKept.run_findKey hk hf,Result.andThen]
end
theorem uo (s v:ByteArray) (n:Int):∀es:List (ByteArray × Int),ks s (od v n es)=if s=v then some n else ks s es
 |[]=>by simp only[od,ks]
 |(k,u)::es=>by
  simp only[od]
  split
  ·rename_i h;subst h;simp only[ks];split<;>rfl
  ·rename_i h
   simp only[ks,uo s v n es]
   split
   ·rename_i h2;subst h2;rw[if_neg (fun e=>h e.symm)]
   ·rfl
end Go.Proofs.YtdilpodccjlkgaaGreatDoor
namespace Go.Proofs.YtdilpodccjlkgaaGreatDoor
open Go.Proofs.Tryz
def cI (l:List Int):List AV:=l.map (AV.int .i64)
def cB (l:List Bool):List AV:=l.map AV.bool
theorem aD (l:List Int):(cI l).length=l.length:=by simp[cI]
theorem aN (l:List Bool):(cB l).length=l.length:=by simp[cB]
theorem oF (l:List Int):(l.map fun x=>[AV.int .i64 x]).flatten=cI l:=by
 induction l with
 |nil=>rfl
 |cons x l ih=>simp only[List.map_cons,List.flatten_cons,ih];rfl
theorem Ej (l:List Bool):(l.map fun x=>[AV.bool x]).flatten=cB l:=by
 induction l with
 |nil=>rfl
 |cons x l ih=>simp only[List.map_cons,List.flatten_cons,ih];rfl
theorem bV (l:List Int):(cI l).all AV.cell=true:=by
 unfold cI;rw[List.all_map];exact List.all_eq_true.2 fun _ _=>rfl
theorem eg (l:List Bool):(cB l).all AV.cell=true:=by
 unfold cB;rw[List.all_map];exact List.all_eq_true.2 fun _ _=>rfl
theorem oZ (l m:List Int):cI l++cI m=cI (l++m):=by simp[cI]
theorem Ga (l:List Int) (j:Nat) (v:Int):(cI l).set j (.int .i64 v)=cI (l.set j v):=by unfold cI;rw[List.map_set]
theorem Gb (l:List Bool) (j:Nat) (v:Bool):(cB l).set j (.bool v)=cB (l.set j v):=by unfold cB;rw[List.map_set]
theorem Ek {l:List Int} {j:Nat} {v:Int} (h:l[j]?=some v):(cI l).drop j=.int .i64 v::(cI l).drop (j+1):=by
 obtain ⟨hj,e⟩:=List.getElem?_eq_some_iff.1 h
 rw[List.drop_eq_getElem_cons (by rw[aD];exact hj)]
 unfold cI
 rw[List.getElem_map,e]
theorem El {l:List Bool} {j:Nat} {v:Bool} (h:l[j]?=some v):(cB l).drop j=.bool v::(cB l).drop (j+1):=by
 obtain ⟨hj,e⟩:=List.getElem?_eq_some_iff.1 h
 rw[List.drop_eq_getElem_cons (by rw[aN];exact hj)]
 unfold cB
 rw[List.getElem_map,e]
theorem Gc (n:Nat) (v:Int):List.replicate n (AV.int .i64 v)=cI (List.replicate n v):=by simp[cI]
theorem Gd (n:Nat) (v:Bool):List.replicate n (AV.bool v)=cB (List.replicate n v):=by simp[cB]
theorem Az (I:G) (l:List Int):RepL I (cI l) (l.map (Value.int .i64)):=by
 unfold cI
 induction l with
 |nil=>rfl
 |cons x l ih=>exact ⟨_,_,rfl,rfl,ih⟩
theorem FN {I:G}:∀{l:List Int} {vs:List Value},RepL I (cI l) vs→vs=l.map (Value.int .i64)
 |[],_,h=>h
 |x::l,_,⟨v,us,e,h1,h2⟩=>by
  have h1:v=.int .i64 x:=h1
  rw[e,h1,FN h2];rfl
section
variable {E:World} {P:Program} {ops:Array Oper} {K:aR→OL→Prop} {env:aR} {O O' O'':OL} {rest:List Oper} {n:Nat}
variable {d ty:Nat} {pos:String} {af:Array Edge} {x y z:Operand} {t u e:TypeId}
theorem Gv.idxI {i n j:Nat} {a:Int} {T:TypeId} {cs:List AV} (ht:P.underlying t=some (.slice e)) (hs:∀w,(sizeOf e).run P w=.ok 1 w) (hx:aV env x=.own i n) (hy:aV env y=.int .i64 a) (hi:a=(j:Int)) (hO:nF O i (.grow 1 T cs)) (hn:cs.length=n) (hj:j<n) :
  Gv P env O (Oper.mk (some d) (.indexAddr t x y) ty pos af none) (.po i j):=
 Gv.idxOL ht hs hx hy hi hO (fun e=>by rw[e] at hn;simp at hn;omega) hj (Nat.mul_one j)
theorem Gv.loadI {i j:Nat} {T:TypeId} {l:List Int} {v:Int} (ha:∀w,(isAgg t).run P w=.ok false w) (hx:aV env x=.po i j) (hO:nF O i (.grow 1 T (cI l))) (hv:l[j]?=some v) :
  Gv P env O (Oper.mk (some d) (.load t x) ty pos af none) (.int .i64 v):=Gv.load1G ha hx hO (Ek hv)
theorem Gv.loadB {i j:Nat} {T:TypeId} {l:List Bool} {v:Bool} (ha:∀w,(isAgg t).run P w=.ok false w) (hx:aV env x=.po i j) (hO:nF O i (.grow 1 T (cB l))) (hv:l[j]?=some v) :
  Gv P env O (Oper.mk (some d) (.load t x) ty pos af none) (.bool v):=Gv.load1G ha hx hO (El hv)
theorem fR.cast {i k:Nat} {T:TypeId} {o:bA} {cs ds:List AV} (h:fR O i o (.grow k T cs) O') (e:cs=ds):fR O i o (.grow k T ds) O':=e▸h
theorem az.storeI {i j:Nat} {T:TypeId} {l:List Int} {v:Int} (hs:∀w,(sizeOf t).run P w=.ok 1 w) (hx:aV env x=.po i j) (hy:aV env y=.int .i64 v) (hO:fR O i (.grow 1 T (cI l)) (.grow 1 T (cI (l.set j v))) O') (hb:j<l.length)
  (kk:az P E ops K rest env O'):az P E ops K (Oper.mk none (.store t x y) ty pos af none::rest) env O:=
 az.storeG1 (cs:=cI l) hs hx hy rfl rfl rfl (hO.cast (Ga l j v).symm) (by rw[aD];exact hb) kk
theorem az.storeB {i j:Nat} {T:TypeId} {l:List Bool} {v:Bool} (hs:∀w,(sizeOf t).run P w=.ok 1 w) (hx:aV env x=.po i j) (hy:aV env y=.bool v) (hO:fR O i (.grow 1 T (cB l)) (.grow 1 T (cB (l.set j v))) O') (hb:j<l.length)
  (kk:az P E ops K rest env O'):az P E ops K (Oper.mk none (.store t x y) ty pos af none::rest) env O:=
 az.storeG1 (cs:=cB l) hs hx hy rfl rfl rfl (hO.cast (Gb l j v).symm) (by rw[aN];exact hb) kk
theorem az.makeI {i:TypeInfo} {zv:Value} {m:Nat} {k1 k2:IntKind} {l l':Int} (ht:P.underlying t=some (.slice e)) (hi:P.info? e=some i) (hz:i.zero=some zv) (hzc:zv.cells=#[.int .i64 0]) (hk:i.size=1) (hx:aV env x=.int k1 l) (hy:aV env y=.int k2 l')
  (hl:l=(m:Int)) (hl':l'=(m:Int)) (hb:(i.bytes:Int)*(m:Int)≤281474976710656) (hm:m≤281474976710656) (kk:∀j,az P E ops K rest (bq env d (.own j m)) ((j,.grow 1 e (cI (List.replicate m 0)))::O)) :
  az P E ops K (Oper.mk (some d) (.makeSlice t x y) ty pos af none::rest) env O:=
 az.make1 ht hi hz hzc hk hx hy hl hl' hb hm rfl fun j=>by rw[show lit (.int .i64 0)=AV.int .i64 0 from rfl,Gc];exact kk j
theorem az.makeB {i:TypeInfo} {zv:Value} {m:Nat} {k1 k2:IntKind} {l l':Int} (ht:P.underlying t=some (.slice e)) (hi:P.info? e=some i) (hz:i.zero=some zv) (hzc:zv.cells=#[.bool false]) (hk:i.size=1) (hx:aV env x=.int k1 l) (hy:aV env y=.int k2 l')
  (hl:l=(m:Int)) (hl':l'=(m:Int)) (hb:(i.bytes:Int)*(m:Int)≤281474976710656) (hm:m≤281474976710656) (kk:∀j,az P E ops K rest (bq env d (.own j m)) ((j,.grow 1 e (cB (List.replicate m false)))::O)) :
  az P E ops K (Oper.mk (some d) (.makeSlice t x y) ty pos af none::rest) env O:=
 az.make1 ht hi hz hzc hk hx hy hl hl' hb hm rfl fun j=>by rw[show lit (.bool false)=AV.bool false from rfl,Gd];exact kk j
theorem aS.knowI {t i m:Nat} {T:TypeId} {l:List Int} (hv:env t=.own i m) (hO:dA O i (.grow 1 T (cI l)) O') (hm:l.length=m):aS E env O (bq env t (.fro 1 (l.map fun x=>[.int .i64 x]))) O':=
 aS.know hv (by rw[oF];exact hO) (fun r hr=>by obtain ⟨_,_,rfl⟩:=List.mem_map.1 hr;rfl) (by decide) (by rw[w1];exact hm)
theorem aS.knowB {t i m:Nat} {T:TypeId} {l:List Bool} (hv:env t=.own i m) (hO:dA O i (.grow 1 T (cB l)) O') (hm:l.length=m):aS E env O (bq env t (.fro 1 (l.map fun x=>[.bool x]))) O':=
 aS.know hv (by rw[Ej];exact hO) (fun r hr=>by obtain ⟨_,_,rfl⟩:=List.mem_map.1 hr;rfl) (by decide) (by rw[w1];exact hm)
end
structure fV (α:Type) where
 k:Nat
 val:α→List Value
 pos:0<k
 len:∀x,(val x).length=k
 one:∀x,∀u∈val x,u.oneCell'=true
variable {α:Type}
def fV.vs (c:fV α) (l:List α):List Value:=l.flatMap c.val
def fV.row (c:fV α) (x:α):List AV:=(c.val x).map lit
def fV.av (c:fV α) (l:List α):List AV:=l.flatMap c.row
theorem fV.vs_len (c:fV α) (l:List α):(c.vs l).length=l.length*c.k:=by
 unfold fV.vs
 induction l with
 |nil=>simp
 |cons x l ih=>rw[List.flatMap_cons,qz,ih,c.len,List.length_cons,Nat.add_mul];omega
theorem fV.av_eq (c:fV α) (l:List α):c.av l=(c.vs l).map lit:=by
 unfold fV.av fV.vs
 induction l with
 |nil=>rfl
 |cons x l ih=>rw[List.flatMap_cons,List.flatMap_cons,w5,ih];rfl
theorem fV.av_len (c:fV α) (l:List α):(c.av l).length=l.length*c.k:=by rw[c.av_eq,w1,c.vs_len]
theorem fV.av_app (c:fV α) (l m:List α):c.av l++c.av m=c.av (l++m):=by unfold fV.av;rw[List.flatMap_append]
theorem fV.av_push (c:fV α) (l:List α) (x:α):c.av l++c.row x=c.av (l++[x]):=by rw[←c.av_app];unfold fV.av;simp
theorem fV.vs_one (c:fV α) (l:List α):∀u∈c.vs l,u.oneCell'=true:=by
 intro u hu
 unfold fV.vs at hu
 obtain ⟨x,_,hx⟩:=List.mem_flatMap.1 hu
 exact c.one x u hx
theorem fV.av_un (c:fV α) {I:G} {l:List α} {vs:List Value} (h:RepL I (c.av l) vs):vs=c.vs l:=by rw[c.av_eq] at h;exact ld h
def eI:fV Int:=⟨1,fun x=>[.int .i64 x],by decide,fun _=>rfl,fun x u hu=>by simp at hu;subst hu;rfl⟩
def eP:fV (Int × Int):=⟨2,fun p=>[.int .i64 p.1,.int .i64 p.2],by decide,fun _=>rfl,fun x u hu=>by simp at hu;rcases hu with rfl|rfl<;>rfl⟩
theorem Ch (l:List Int):eI.av l=cI l:=by
 unfold fV.av cI
 induction l with
 |nil=>rfl
 |cons x l ih=>rw[List.flatMap_cons,ih];rfl
inductive fh (c:fV α) (e:TypeId):List (List α)→List Value→List (Nat × Obj)→Prop
 |nil:fh c e [] [] []
 |cons {r rs a n cap hs A B}:fS c.k e a n cap (c.vs r) A→fh c e rs hs B→fh c e (r::rs) (.slice a n cap::hs) (A++B)
theorem fh.len {c:fV α} {e:TypeId} {rows:List (List α)} {hs:List Value} {L:List (Nat × Obj)} (h:fh c e rows hs L):hs.length=rows.length:=by
 induction h with
 |nil=>rfl
 |cons _ _ ih=>simp[ih]
def FO (c:fV α) (e:TypeId) (rows:List (List α)) (j:Nat) (hs:List Value) (B:List (Nat × Obj)):Prop:=
 ∀r' a' n' c' A',fS c.k e a' n' c' (c.vs r') A'→∃L',fh c e (rows.set j r') (hs.set j (.slice a' n' c')) L'∧L'.Perm (A'++B)
theorem fh.get {c:fV α} {e:TypeId} {rows:List (List α)} {hs:List Value} {L:List (Nat × Obj)} (h:fh c e rows hs L):∀{j:Nat} {r:List α},rows[j]?=some r →
  ∃a n cap A B,hs[j]?=some (.slice a n cap)∧fS c.k e a n cap (c.vs r) A∧L.Perm (A++B)∧FO c e rows j hs B:=by
 induction h with
 |nil=>intro j r hj;simp at hj
 |@cons r0 rs a n cap hs A B h1 h2 ih=>
  intro j r hj
  cases j with
  |zero=>
   simp at hj;subst hj
   exact ⟨a,n,cap,A,B,rfl,h1,.refl _,fun r' a' n' c' A' h=>⟨A'++B,.cons h h2,.refl _⟩⟩
  |succ j=>
   obtain ⟨a1,n1,c1,A1,B1,g1,g2,g3,g4⟩:=ih (j:=j) (r:=r) (by simpa using hj)
   refine ⟨a1,n1,c1,A1,A++B1,by simpa using g1,g2,?_,fun r' a' n' c' A' h=>?_⟩
   ·refine (g3.append_left A).trans ?_
    rw[←qv,←qv]
    exact List.perm_append_comm.append_right B1
   ·obtain ⟨L',k1,k2⟩:=g4 r' a' n' c' A' h
    refine ⟨A++L',by simpa using fh.cons h1 k1,?_⟩
    refine (k2.append_left A).trans ?_
    rw[←qv,←qv]
    exact List.perm_append_comm.append_right B1
theorem fh.rep (c:fV α) (e:TypeId):∀m:Nat,fh c e (List.replicate m []) (List.replicate m (.slice none 0 0)) []
 |0=>.nil
 |m+1=>by
  have:=fh.cons (c:=c) (r:=[]) (fS.nil c.k e) (fh.rep c e m)
  simpa [List.replicate_succ] using this
def dv (c:fV α) (T e:TypeId) (b:Nat) (rows:List (List α)):bA:=.heap fun L=>∃hs B,L=(b,.cells hs.toArray T (0,0))::B∧fh c e rows hs B
def yJ (c:fV α) (T e:TypeId) (b:Nat) (rows:List (List α)) (j n i:Nat):bA:=.heapG (fun I L=>∃hs B hd,L=(b,.cells hs.toArray T (0,0))::B∧I.h i=some hd∧hs[j]?=some (.slice (adr hd.1) n hd.2)∧hs.length=rows.length∧FO c e rows j hs B)
 (fun I J L h hp=>by obtain ⟨hs,B,hd,h1,h2,h3⟩:=hp;exact ⟨hs,B,hd,h1,h.h _ _ h2,h3⟩)
def eh (b n:Nat):AV:=.raw (.slice (some ⟨b,0,none⟩) n n)
def Em (b j:Nat):AV:=.raw (.pointer (some ⟨b,j,none⟩))
theorem fS.adr {k:Nat} {e:TypeId} {a:Option Addr} {n c:Nat} {cs:List Value} {A:List (Nat × Obj)} (h:fS k e a n c cs A):∃b,a=Go.Proofs.YtdilpodccjlkgaaGreatDoor.adr b:=by
 rcases h.2.2 with ⟨e,_⟩|⟨b,junk,e,_⟩
 ·exact ⟨none,e⟩
 ·exact ⟨some b,e⟩
section
variable {E:World} {P:Program} {ops:Array Oper} {K:aR→OL→Prop} {env:aR} {O O' O'':OL} {rest:List Oper} {n:Nat}
variable {d ty:Nat} {pos:String} {af:Array Edge} {x y z:Operand} {t u e T:TypeId}
theorem az.makeNest {i:TypeInfo} {zv:Value} {m:Nat} {k1 k2:IntKind} {l l':Int} (ht:P.underlying t=some (.slice T)) (hi:P.info? T=some i) (hz:i.zero=some zv) (hzc:zv.cells=#[.slice none 0 0]) (hk:i.size=1) (hx:aV env x=.int k1 l) (hy:aV env y=.int k2 l')
  (hl:l=(m:Int)) (hl':l'=(m:Int)) (hb:(i.bytes:Int)*(m:Int)≤281474976710656) (hm:m≤281474976710656) (c:fV α) (e:TypeId) (kk:∀b,az P E ops K rest (bq env d (eh b m)) ((0,dv c T e b (List.replicate m []))::O)) :
  az P E ops K (Oper.mk (some d) (.makeSlice t x y) ty pos af none::rest) env O:=fun I F ρ w h1 h2=>by
 obtain ⟨htop,L,hL,hS⟩:=h2
 refine bZ.make1 ht hi hz hzc hk (fK h1 hx) (fK h1 hy) hl hl' hb hm hS fun b w' hS'=>?_
 exact kk b I F _ _ (h1.upd d rfl) ⟨htop,_,⟨[(b,.cells (List.replicate m (.slice none 0 0)).toArray T (0,0))],L,rfl,⟨List.replicate m (.slice none 0 0),[],rfl,fh.rep c e m⟩,hL⟩,by simpa using hS'⟩
theorem Gv.idxN {b m j:Nat} {a:Int} (ht:P.underlying t=some (.slice T)) (hs:∀w,(sizeOf T).run P w=.ok 1 w) (hx:aV env x=eh b m) (hy:aV env y=.int .i64 a) (hi:a=(j:Int)) (hj:j<m) :
  Gv P env O (Oper.mk (some d) (.indexAddr t x y) ty pos af none) (Em b j):=Gv.ofEv fun I ρ h=>by
 have h1:=fB h hx
 have h2:=fK h hy
 subst hi
 have hlt:((j:Int)<(m:Int)):=by omega
 refine ⟨_,Z,fun w=>?_⟩
 simp[execOp,h1,h2,Instr.indexAt,Sem.run_bind,run_underlying ht,hs,hlt,dz,asIntOf]
 intro h;omega
theorem Gv.lenN {b m:Nat} (ht:P.underlying t=some (.slice T)) (hx:aV env x=eh b m):Gv P env O (Oper.mk (some d) (.call { callee:=.builtin .len,args:=#[x],argTypes:=#[t] }) ty pos af none) (.int .i64 m):=Gv.ofEv fun I ρ h=>by
 have h1:=fB h hx
 exact ⟨_,rfl,fun w=>by simp[execOp,resolve,h1,invoke,builtin,Builtin.len_,run_underlying ht,goInt]⟩
theorem az.nestTake {c:fV α} {b j m:Nat} {rows:List (List α)} {r:List α} {f:Nat→OL} (ha:∀w,(isAgg t).run P w=.ok false w) (hx:aV env x=Em b j) (hr:rows[j]?=some r)
  (hO:∀i,fR O m (dv c T e b rows) (yJ c T e b rows j r.length i) (f i)) (kk:∀i,az P E ops K rest (bq env d (.own i r.length)) ((i,.grow c.k e (c.av r))::f i)) :
  az P E ops K (Oper.mk (some d) (.load t x) ty pos af none::rest) env O:=fun I F ρ w h1 h2=>by
 obtain ⟨i,hi⟩:=h2.name
 obtain ⟨htop,L,hL,hS⟩:=h2
 have hx:=fB h1 hx
 obtain ⟨A,B,hp,⟨hs,B0,rfl,hN⟩,hback⟩:=(hO i).rep hL
 obtain ⟨a,n,cap,A1,B1,g1,g2,g3,g4⟩:=hN.get hr
 obtain ⟨b1,rfl⟩:=g2.adr
 have hn:n=r.length:=by have:=g2.1;rw[c.vs_len] at this;exact (Nat.eq_of_mul_eq_mul_right c.pos this).symm
 subst hn
 obtain ⟨J,e1,hle,e2,htop'⟩:=hi (b1,cap)
 have hS2:SL I.k ((b,.cells hs.toArray T (0,0))::(B0++(B++F))) E w:=hS.perm (by
  have:=hp.append_right F
  simpa using this.symm)
 obtain ⟨L',h5,h6⟩:=hback hle (A':=(b,.cells hs.toArray T (0,0))::B1) ⟨hs,B1,(b1,cap),rfl,e2,g1,hN.len,g4⟩
 refine bZ.load1 (I:=I.k) (O:=(b,.cells hs.toArray T (0,0))::(B0++(B++F))) ha hS2 hx (.inr ⟨_,_,_,.head _,by rw[List.getElem?_toArray];exact g1⟩) ?_
 refine q6 (fun _ _=>q7 hle) _ _ _ (kk i J F _ _ ((h1.mono hle).upd d ⟨b1,cap,e2,Z⟩) ⟨htop',A1++L',⟨A1,L',Z,⟨b1,cap,_,c.vs r,e2,by rw[c.av_eq];exact eK J _,c.vs_one r,g2⟩,h5⟩,?_⟩)
 rw[e1]
 refine hS2.perm<|List.Perm.trans ?_ (List.Perm.cons _ ((g3.append_right (B++F)).symm))
 have h7:(A1++L'++F).Perm (A1++((b,Obj.cells hs.toArray T (0,0))::(B1++B))++F):=(h6.append_left A1).append_right F
 refine h7.trans ?_
 simp only[qv,List.cons_append]
 exact List.perm_middle
theorem az.nestPut {c:fV α} {b j m i i0 n0 n1 k:Nat} {rows:List (List α)} {r:List α} {cs:List AV} (hs1:∀w,(sizeOf t).run P w=.ok 1 w) (hx:aV env x=Em b j) (hy:aV env y=.own i n1) (hj:j<rows.length)
  (hP0:dA O i (.grow k e cs) O') (hO:fR O' m (yJ c T e b rows j n0 i0) (dv c T e b (rows.set j r)) O'') (hk:k=c.k) (hcs:cs=c.av r) (hn1:r.length=n1) (kk:az P E ops K rest env O'') :
  az P E ops K (Oper.mk none (.store t x y) ty pos af none::rest) env O:=fun I F ρ w h1 h2=>by
 obtain ⟨htop,L,hL,hS⟩:=h2
 have hP:dA O i (.grow c.k e (c.av r)) O':=by subst hk hcs;exact hP0
 have hx:=fB h1 hx
 have h3:=h1.ev y
 rw[hy] at h3
 obtain ⟨b1,c1,e1,ey⟩:=h3
 obtain ⟨A,B,hp,⟨b1',c1',n',vs,e2,hvs,hvc,hown⟩,hB⟩:=hP.rep hL
 simp only at e2
 rw[e1] at e2
 simp only[Option.some.injEq,Prod.mk.injEq] at e2
 obtain ⟨rfl,rfl⟩:=e2
 have hv:=c.av_un hvs
 subst hv
 have hnn:n'=n1:=by have:=hown.1;rw[c.vs_len,hn1] at this;exact (Nat.eq_of_mul_eq_mul_right c.pos this).symm
 subst hnn
 obtain ⟨A2,B2,hp2,⟨hs,B0,hd,rfl,_,hsj,hsl,hole⟩,hback⟩:=hO.rep hB
 obtain ⟨L',k1,k2⟩:=hole r _ _ _ A hown
 have hS2:SL I.k ([(b,.cells hs.toArray T (0,0))]++(A++(B0++(B2++F)))) E w:=hS.perm (by
  refine List.Perm.trans ?_ ((hp.append_right F).symm)
  refine List.Perm.trans ?_ (((hp2.append_left A).append_right F).symm)
  simp only[qv,List.cons_append,List.nil_append]
  exact (List.perm_middle).symm)
 refine bZ.store1 (cs:=hs) (off:=j) hs1 hx ey Z (by rw[hsl];exact hj) hS2 fun w' hS'=>?_
 obtain ⟨L2,h7,h8⟩:=hback (qf I) (A':=(b,.cells (hs.set j (.slice (adr b1) n' c1)).toArray T (0,0))::L') ⟨_,L',rfl,k1⟩
 refine kk I F _ _ h1 ⟨htop,L2,h7,hS'.perm ?_⟩
 refine (h8.append_right F).trans ?_
 simp only[List.cons_append,List.nil_append,qv]
 refine List.Perm.cons _ ?_
 have:=k2.append_right (B2++F)
 simpa [qv] using this
theorem aS.nestBack {c:fV α} {b j m i:Nat} {rows:List (List α)} {r:List α} (hP:dA O i (.grow c.k e (c.av r)) O') (hO:fR O' m (yJ c T e b rows j r.length i) (dv c T e b (rows.set j r)) O''):aS E env O env O'':=fun I F ρ w h1 h2=>by
 obtain ⟨htop,L,hL,hS⟩:=h2
 obtain ⟨A,B,hp,⟨b1,c1,n',vs,e2,hvs,hvc,hown⟩,hB⟩:=hP.rep hL
 have hv:=c.av_un hvs
 subst hv
 have hnn:n'=r.length:=by have:=hown.1;rw[c.vs_len] at this;exact (Nat.eq_of_mul_eq_mul_right c.pos this).symm
 subst hnn
 obtain ⟨A2,B2,hp2,⟨hs,B0,hd,rfl,e3,hsj,hsl,hole⟩,hback⟩:=hO.rep hB
 simp only at e2
 rw[e2] at e3
 simp only[Option.some.injEq] at e3
 subst e3
 obtain ⟨L',k1,k2⟩:=hole r _ _ _ A hown
 have hsame:hs.set j (.slice (adr b1) r.length c1)=hs:=by
  obtain ⟨h9,h10⟩:=List.getElem?_eq_some_iff.1 hsj
  refine List.ext_getElem? fun k=>?_
  by_cases ek:k=j
  ·subst ek;rw[List.getElem?_set_self h9,hsj]
  ·rw[List.getElem?_set_ne (fun e=>ek e.symm)]
 rw[hsame] at k1
 obtain ⟨L2,h7,h8⟩:=hback (qf I) (A':=(b,.cells hs.toArray T (0,0))::L') ⟨_,L',rfl,k1⟩
 refine ⟨I,.refl _,h1,htop,L2,h7,hS.perm ?_⟩
 refine (h8.append_right F).trans<|List.Perm.trans ?_ ((hp.append_right F).symm)
 refine List.Perm.trans ?_ (((hp2.append_left A).append_right F).symm)
 simp only[qv,List.cons_append,List.nil_append]
 refine List.Perm.trans ?_ (List.perm_middle).symm
 refine List.Perm.cons _ ?_
 have:=k2.append_right (B2++F)
 simpa [qv] using this
theorem SL.freezeAllN:∀{A:List (Nat × Obj)} {I:bD} {F:List (Nat × Obj)} {E w:World},SL I (A++F) E w→∃J,I.le J∧SL J F E w∧∀x∈A,J x.1=some x.2
 |[],I,F,E,w,h=>⟨I,.refl _,h,fun _ h=>by cases h⟩
 |(b,o)::A,I,F,E,w,h=>by
  obtain ⟨h1,h2⟩:=SL.freeze (show SL I ((b,o)::(A++F)) E w from h)
  obtain ⟨J,h3,h4,h5⟩:=SL.freezeAllN h2
  refine ⟨J,h1.trans h3,h4,fun x hx=>?_⟩
  rcases List.mem_cons.1 hx with rfl|hx
  ·exact h3 _ _ (bD.put_same _ _ _)
  ·exact h5 x hx
theorem fS.fro {c:fV α} {I:G} {e:TypeId} {a:Option Addr} {n cap:Nat} {r:List α} {A:List (Nat × Obj)} (h:fS c.k e a n cap (c.vs r) A) (hI:∀x∈A,I.k x.1=some x.2):bp I (.fro c.k (r.map c.row)) (.slice a n cap):=by
 obtain ⟨h1,h2,h3⟩:=h
 have hn:n=r.length:=by rw[c.vs_len] at h1;exact (Nat.eq_of_mul_eq_mul_right c.pos h1).symm
 subst hn
 rcases h3 with ⟨rfl,rfl,_⟩|⟨b,junk,rfl,rfl,hj⟩
 ·have h0:r=[]:=List.eq_nil_of_length_eq_zero (by omega)
  subst h0
  exact ⟨none,0,0,rfl,rfl,Nat.le_refl _,fun _=>rfl,trivial⟩
 ·have hb:=hI _ (.head _)
  simp only at hb
  have hflat:(r.map c.row).flatten=(c.vs r).map lit:=by rw[←c.av_eq];unfold fV.av;rw[List.flatMap]
  refine ⟨_,_,_,Z,by simp,h2,fun e=>(by cases e),RepR.of_flat hb (r.map c.row) (c.vs r) 0 (fun x hx=>by obtain ⟨y,_,rfl⟩:=List.mem_map.1 hx;unfold fV.row;rw[w1,c.len]) (by rw[hflat];exact eK I _) fun i u hu=>?_⟩
  rw[Nat.zero_mul,Nat.zero_add,List.getElem?_toArray,List.getElem?_append_left (List.getElem?_eq_some_iff.1 hu).1]
  exact hu
theorem fh.fro {c:fV α} {I:G} {e:TypeId} {rows:List (List α)} {hs:List Value} {B:List (Nat × Obj)} (h:fh c e rows hs B) (hI:∀x∈B,I.k x.1=some x.2):RepL I (rows.map fun r=>.fro c.k (r.map c.row)) hs:=by
 induction h with
 |nil=>rfl
 |cons h1 _ ih=>exact ⟨_,_,rfl,h1.fro fun x hx=>hI x (List.mem_append_left _ hx),ih fun x hx=>hI x (List.mem_append_right _ hx)⟩
def lG (c:fV α) (rows:List (List α)):AV:=.fro 1 (rows.map fun r=>[.fro c.k (r.map c.row)])
theorem rZ {c:fV α} {I:G} {F:List (Nat × Obj)} {E w:World} {b m:Nat} {rows:List (List α)} (hO:dA O m (dv c T e b rows) O') (h:gG I O F E w):∃J B,I.le J∧bw I O' B∧(∃top,∀i,top≤i→J.h i=none)∧SL J.k (B++F) E w∧bp J (lG c rows) (.slice (some ⟨b,0,none⟩) rows.length rows.length):=by
 obtain ⟨htop,L,hL,hS⟩:=h
 obtain ⟨A,B,hp,⟨hs,B0,rfl,hN⟩,hB⟩:=hO.rep hL
 have hS2:SL I.k (((b,.cells hs.toArray T (0,0))::B0)++(B++F)) E w:=hS.perm (by rw[←qv];exact (hp.append_right F).symm)
 obtain ⟨J,h1,h2,h3⟩:=SL.freezeAllN hS2
 have hle:I.le ⟨J,I.h⟩:=⟨h1,fun _ _ h=>h⟩
 refine ⟨⟨J,I.h⟩,B,hle,hB,htop,h2,?_⟩
 have hb:=h3 _ (.head _)
 simp only at hb
 have hrep:=hN.fro (I:=⟨J,I.h⟩) fun x hx=>h3 x (.tail _ hx)
 refine ⟨_,_,_,Z,by simp,Nat.le_refl _,fun e=>(by cases e),RepR.intro fun j row hj=>?_⟩
 rw[w2] at hj
 obtain ⟨r,hr,rfl⟩:=Option.map_eq_some_iff.1 hj
 obtain ⟨v,hv1,hv2⟩:=hrep.get (j:=j) (x:=.fro c.k (r.map c.row)) (by rw[w2,hr];rfl)
 refine ⟨b,0,[v],Z,Z,RepL.one hv2,fun i u hu=>?_⟩
 cases i with
 |zero=>
  simp at hu;subst hu
  exact ⟨_,_,_,hb,by rw[List.getElem?_toArray,show 0+(0+j)*1+0=j by omega];exact hv1⟩
 |succ i=>simp at hu
theorem aS.nestKnow {c:fV α} {s b m n:Nat} {rows:List (List α)} (hv:env s=eh b n) (hO:dA O m (dv c T e b rows) O') (hn:rows.length=n):aS E env O (bq env s (lG c rows)) O':=fun I F ρ w h1 h2=>by
 obtain ⟨J,B,hle,hB,htop,hS,hrep⟩:=rZ hO h2
 refine ⟨J,hle,fun q=>?_,htop,B,hB.mono hle,hS⟩
 unfold bq
 cases hb:Nat.beq q s with
 |false=>exact bp.mono hle _ _ (h1 q)
 |true=>
  have:q=s:=Nat.eq_of_beq_eq_true hb
  subst this
  have h4:=h1 q
  rw[hv] at h4
  have h4:ρ q=.slice (some ⟨b,0,none⟩) n n:=h4
  rw[h4,←hn];exact hrep
theorem aS.nestKnowC {c:fV α} {off b m n i:Nat} {T':TypeId} {cs:List AV} {rows:List (List α)} (hO:dA O m (dv c T e b rows) O') (hP:fR O' i (.cells T' cs) (.cells T' (cs.set off (lG c rows))) O'') (hc:cs[off]?=some (eh b n)) (hn:rows.length=n):aS E env O env O'':=fun I F ρ w h1 h2=>by
 obtain ⟨J,B,hle,hB,htop,hS,hrep⟩:=rZ hO h2
 obtain ⟨L',h5,h6⟩:=fR.same (F:=F) (E:=E) (w:=w) hle (.inr trivial) hP hc (fun v hv=>by
  have hv:v=.slice (some ⟨b,0,none⟩) n n:=hv
  rw[hv,←hn];exact hrep) hB
 exact ⟨J,hle,h1.mono hle,htop,L',h5,hS.perm (h6.symm.append_right F)⟩
end
end Go.Proofs.YtdilpodccjlkgaaGreatDoor
namespace Go.Proofs.YtdilpodccjlkgaaGreatDoor
open Go.Proofs.Tryz
section
variable {E:World} {P:Program} {ops:Array Oper} {K:aR→OL→Prop} {env:aR} {O O' O'':OL} {rest:List Oper} {n:Nat}
variable {d ty:Nat} {pos:String} {af:Array Edge} {x y z:Operand} {t u e:TypeId}
theorem az.cutTo {i k m j:Nat} {a:Int} {T:TypeId} {cs:List AV} (ht:P.underlying t=some (.slice e)) (hs:∀w,(sizeOf e).run P w=.ok k w) (hx:aV env x=.own i m) (hy:aV env y=.int .i64 a) (hi:a=(j:Int)) (hO:fR O i (.grow k T cs) (.grow k T (cs.take (j*k))) O')
  (hk:0<k) (hj:j*k≤cs.length)
  (kk:az P E ops K rest (bq env d (.own i j)) O'):az P E ops K (Oper.mk (some d) (.slice t x none (some y) none) ty pos af none::rest) env O:=fun I F ρ w h1 h2=>by
 obtain ⟨htop,L,hL,hS⟩:=h2
 have h3:=h1.ev x
 rw[hx] at h3
 obtain ⟨b,c,e1,e2⟩:=h3
 have h4:=fK h1 hy
 subst hi
 obtain ⟨A,B,hp,⟨b',c',n',vs,e3,hvs,hvc,h5,h6,h7⟩,hback⟩:=hO.rep hL
 simp only at e3
 rw[e1] at e3
 simp only[Option.some.injEq,Prod.mk.injEq] at e3
 obtain ⟨rfl,rfl⟩:=e3
 have hlen:vs.length=cs.length:=hvs.length
 have hjn:j≤n':=by
  have:j*k≤n'*k:=by omega
  exact Nat.le_of_mul_le_mul_right this hk
 have hjc:j≤c:=by omega
 have hval:(execOp (Go.Proofs.YtdilpodccjlkgaaGreatDoor.ev ρ) (Oper.mk (some d) (.slice t x none (some y) none) ty pos af none)).run P w=.ok (.value (.slice (adr b) j c)) w:=by
  have:(if c=0 then adr b else (adr b).map (·.add (0*k)))=adr b:=by
   split
   ·rfl
   ·cases b<;>simp[adr,Addr.add]
  simp[execOp,Instr.sliceAt,Instr.slice,Instr.sliceBounds,Instr.sliceBound,asIntOf,Sem.run_bind,run_underlying ht,hs,e2,h4,hjc]
  simpa using this
 obtain ⟨L',h8,h9⟩:=hback (qf I) (A':=A) ⟨b,c,j,vs.take (j*k),e1,hvs.take _,fun u hu=>hvc u (List.mem_of_mem_take hu),by rw[w7];omega,by omega,by
  rcases h7 with h7|⟨b2,junk,e4,e5,e6⟩
  ·exact .inl ⟨h7.1,h7.2.1,h7.2.2⟩
  ·exact .inr ⟨b2,vs.drop (j*k)++junk,e4,by rw[←qv,List.take_append_drop];exact e5,by rw[←qv,List.take_append_drop];exact e6⟩⟩
 exact bZ.val hval (kk I F _ w (h1.upd d ⟨b,c,e1,rfl⟩) ⟨htop,L',h8,hS.perm ((h9.trans hp.symm).append_right F)⟩)
theorem az.cutLast {i k m j:Nat} {a:Int} {T:TypeId} {A row:List AV} (ht:P.underlying t=some (.slice e)) (hs:∀w,(sizeOf e).run P w=.ok k w) (hx:aV env x=.own i m) (hy:aV env y=.int .i64 a) (hi:a=(j:Int)) (hO:fR O i (.grow k T (A++row)) (.grow k T A) O')
  (hk:0<k) (hA:A.length=j*k)
  (kk:az P E ops K rest (bq env d (.own i j)) O'):az P E ops K (Oper.mk (some d) (.slice t x none (some y) none) ty pos af none::rest) env O:=
 az.cutTo ht hs hx hy hi (hO.cast (by rw[←hA,List.take_left])) hk (by rw[qz];omega) kk
end
end Go.Proofs.YtdilpodccjlkgaaGreatDoor
namespace Go.Proofs.YtdilpodccjlkgaaGreatDoor
open Go.Proofs.Tryz
open Go.Sort (Holds putRow putCells onCells)
theorem uq {zs ys:List Int} {junk:List Value} (hl:ys.length=zs.length):putCells (Value.int .i64) 0 ys.toArray (zs.map (Value.int .i64)++junk).toArray=(ys.map (Value.int .i64)++junk).toArray:=by
 unfold putCells
 apply Array.ext_getElem?
 intro k
 simp only[Array.getElem?_mapIdx,List.getElem?_toArray,qw,true_and,Nat.zero_add,Nat.sub_zero,List.size_toArray]
 by_cases hk:k<ys.length
 ·rw[List.getElem?_append_left (by rw[w1];omega),List.getElem?_append_left (by rw[w1];omega),w2,w2,qt hk,qt (by omega:k<zs.length)]
  simp[hk]
 ·rw[List.getElem?_append_right (by rw[w1];omega),List.getElem?_append_right (by rw[w1];omega),w1,w1,hl]
  rw[hl] at hk
  simp only[hk,if_false]
  cases junk[k - zs.length]?<;>rfl
theorem SL.turned {I:bD} {O:List (Nat × Obj)} {E w:World} {b n:Nat} {zs ys:List Int} {junk:List Value} {T:TypeId} {os:Array Obj} (hl:ys.length=zs.length) (h:SL I ((b,.cells (zs.map (Value.int .i64)++junk).toArray T (0,0))::O) E w) :
  SL I ((b,.cells (ys.map (Value.int .i64)++junk).toArray T (0,0))::O) E (Go.Sort.grow (putRow (Value.int .i64) (Go.Sort.ahead w n) b 0 ys.toArray) os):=by
 have hb:=h.own _ (.head _)
 simp only at hb
 have hlt:=dR hb
 have h1:SL I ((b,.cells (ys.map (Value.int .i64)++junk).toArray T (0,0))::O) E (putRow (Value.int .i64) (Go.Sort.ahead w n) b 0 ys.toArray):=by
  refine h.turn Z Z Z ?_ fun k hk=>?_
  ·show (w.heap.modify b (onCells (putCells (Value.int .i64) 0 ys.toArray)))[b]?=_
   rw[Array.getElem?_modify,if_pos rfl,hb]
   simp only[Option.map_some,onCells,uq hl]
  ·show (w.heap.modify b (onCells (putCells (Value.int .i64) 0 ys.toArray)))[k]?=_
   rw[Array.getElem?_modify,if_neg (fun e=>hk e.symm)]
 exact h1.more rfl rfl rfl fun k hk=>Go.Sort.heap_grow_old _ _ hk
theorem aY.turned {E:World} {P:Program} {f:FuncId} {fn:Func} {c:Code} {g:List Int→List Int} {B:Nat} (hf:P.funcs[f]?=some fn) (hb:fn.body=some c) (hn:fn.name≠"runtime.NumGoroutine") (hg:∀l,(g l).length=l.length)
  (hC:∀(blk cap:Nat) (zs:List Int) (w:World),Holds (Value.int .i64) w blk 0 zs.toArray→blk<w.heap.size→zs.length<B →
   Calls P f #[.slice (some ⟨blk,0,none⟩) zs.length cap] w fun e w'=>e=.returned (.tuple #[])∧∃n os,w'=Go.Sort.grow (putRow (Value.int .i64) (Go.Sort.ahead w n) blk 0 (g zs).toArray) os)
  (hN:∀(cap:Nat) (w:World),Calls P f #[.slice none 0 cap] w fun e w'=>e=.returned (.tuple #[])∧w'=w)
  {l:List Int} {i n:Nat} {T:TypeId} (hl:l.length=n) (hB:n<B):aY P E f [.own i n] [(i,.grow 1 T (cI l))] fun r O=>r=.tup []∧O=[(i,.grow 1 T (cI (g l)))]:=fun I F w vs h1 h2=>by
 obtain ⟨v,us,rfl,⟨b,c,e1,rfl⟩,h3⟩:=h1
 have h3:us=[]:=h3
 subst h3
 obtain ⟨ht,L,⟨A,B',e2,⟨b',c',n',ws,e3,h4,h5,h6⟩,h7⟩,hS⟩:=h2
 have h7:B'=[]:=h7
 subst h7
 rw[w6] at e2
 subst e2
 simp only at e3
 rw[e1] at e3
 simp only[Option.some.injEq,Prod.mk.injEq] at e3
 obtain ⟨rfl,rfl⟩:=e3
 have h4:=FN h4
 subst h4
 refine Fn.ofCalls hf hb hn ?_
 obtain ⟨g1,g2,g3⟩:=h6
 rw[w1,Nat.mul_one] at g1
 have hnn:n'=n:=by omega
 subst hnn
 rcases g3 with ⟨ea,rfl,rfl⟩|⟨b2,junk,ea,rfl,hj⟩
 ·have h0:n'=0:=by omega
  subst h0
  have hl0:l=[]:=List.eq_nil_of_length_eq_zero hl
  subst hl0
  have hg0:g []=[]:=List.eq_nil_of_length_eq_zero (hg [])
  rw[ea]
  refine (hN 0 w).mono fun e w' ⟨he,hw⟩=>⟨_,he,I,.tup [],_,.refl _,⟨[],Z,Z⟩,?_,Z,Z⟩
  subst hw
  rw[hg0]
  exact ⟨ht,[],⟨[],[],rfl,⟨b,0,0,[],e1,rfl,by simp,by rw[ea];exact fS.nil 1 T⟩,rfl⟩,hS⟩
 ·rw[ea]
  have hS2:SL I.k ((b2,.cells (l.map (Value.int .i64)++junk).toArray T (0,0))::F) E w:=hS
  have hH:Holds (Value.int .i64) w b2 0 l.toArray:=fun j hjl=>by
   have hj2:j<l.length:=by simpa using hjl
   have hbk:=hS2.own _ (.head _)
   simp only at hbk
   refine ⟨?_,?_⟩
   ·rw[hS2.cell_own,Nat.zero_add,List.getElem?_toArray,List.getElem?_append_left (by rw[w1];exact hj2),w2,qt hj2]
    simp[hj2]
   ·simp[World.frozen?,hbk]
  have:=hC b2 c l w hH (dR (hS2.own _ (.head _))) (by omega)
  rw[hl] at this
  refine this.mono fun e w' ⟨he,k,os,hw⟩=>⟨_,he,I,.tup [],_,.refl _,⟨[],Z,Z⟩,?_,Z,Z⟩
  subst hw
  refine ⟨ht,[(b2,.cells ((g l).map (Value.int .i64)++junk).toArray T (0,0))],⟨_,[],by simp,⟨b,c,n',(g l).map (Value.int .i64),e1,Az I (g l),fun u hu=>by obtain ⟨x,_,rfl⟩:=List.mem_map.1 hu;rfl,by rw[w1,hg,hl,Nat.mul_one],g2,.inr ⟨b2,junk,ea,rfl,by rw[qz,w1,hg] ;rw[qz,w1] at hj;exact hj⟩⟩,rfl⟩,?_⟩
  exact SL.turned (hg l) hS2
end Go.Proofs.YtdilpodccjlkgaaGreatDoor
namespace Go.Proofs.YtdilpodccjlkgaaGreatDoor
open Go.Proofs.Tryz
variable {α:Type}
theorem fh.inv {c:fV α} {e:TypeId} {r:List α} {rs:List (List α)} {hs:List Value} {L:List (Nat × Obj)} (h:fh c e (r::rs) hs L) :
  ∃a n cap hs' A B,hs=.slice a n cap::hs'∧L=A++B∧fS c.k e a n cap (c.vs r) A∧fh c e rs hs' B:=by
 cases h with
 |cons h1 h2=>exact ⟨_,_,_,_,_,_,rfl,rfl,h1,h2⟩
def yK (c:fV α) (T e:TypeId) (b:Nat) (rows:List (List α)) (k:Nat):bA:=.heap fun L=>∃(hs:List Value) (B:List (Nat × Obj)),L=(b,.cells hs.toArray T (0,0))::B∧hs.length=rows.length∧fh c e (rows.drop k) (hs.drop k) B
section
variable {E:World} {P:Program} {ops:Array Oper} {K:aR→OL→Prop} {env:aR} {O O' O'':OL} {rest:List Oper} {n:Nat}
variable {d ty:Nat} {pos:String} {af:Array Edge} {x y z:Operand} {t u e T:TypeId}
theorem aS.nestTail {c:fV α} {b m:Nat} {rows:List (List α)} (hO:fR O m (dv c T e b rows) (yK c T e b rows 0) O'):aS E env O env O':=fun I F ρ w h1 h2=>by
 obtain ⟨htop,L,hL,hS⟩:=h2
 obtain ⟨A,B,hp,⟨hs,B0,rfl,hN⟩,hback⟩:=hO.rep hL
 obtain ⟨L',h5,h6⟩:=hback (qf I) (A':=(b,.cells hs.toArray T (0,0))::B0) ⟨hs,B0,rfl,hN.len,hN⟩
 exact ⟨I,.refl _,h1,htop,L',h5,hS.perm ((h6.trans hp.symm).append_right F)⟩
theorem az.nestShift {c:fV α} {b k m:Nat} {rows:List (List α)} {r:List α} (ha:∀w,(isAgg t).run P w=.ok false w) (hx:aV env x=Em b k) (hr:rows[k]?=some r)
  (hO:fR O m (yK c T e b rows k) (yK c T e b rows (k+1)) O') (kk:∀i,az P E ops K rest (bq env d (.own i r.length)) ((i,.grow c.k e (c.av r))::O')) :
  az P E ops K (Oper.mk (some d) (.load t x) ty pos af none::rest) env O:=fun I F ρ w h1 h2=>by
 obtain ⟨i,hi⟩:=h2.name
 obtain ⟨htop,L,hL,hS⟩:=h2
 have hx:=fB h1 hx
 obtain ⟨A,B,hp,⟨hs,B0,rfl,hl,hN⟩,hback⟩:=hO.rep hL
 obtain ⟨hlt,hrk⟩:=List.getElem?_eq_some_iff.1 hr
 rw[List.drop_eq_getElem_cons hlt,hrk] at hN
 obtain ⟨a,n,cap,hs',A1,B1,g0,rfl,g2,g3⟩:=hN.inv
 have hlt2:k<hs.length:=by omega
 have g0':=g0
 rw[List.drop_eq_getElem_cons hlt2] at g0'
 simp only[List.cons.injEq] at g0'
 obtain ⟨g1,rfl⟩:=g0'
 have g1:hs[k]?=some (.slice a n cap):=by rw[qt hlt2,g1]
 obtain ⟨b1,rfl⟩:=g2.adr
 have hn:n=r.length:=by have:=g2.1;rw[c.vs_len] at this;exact (Nat.eq_of_mul_eq_mul_right c.pos this).symm
 subst hn
 obtain ⟨J,e1,hle,e2,htop'⟩:=hi (b1,cap)
 have hS2:SL I.k ((b,.cells hs.toArray T (0,0))::(A1++B1++(B++F))) E w:=hS.perm (by
  have:=hp.append_right F
  simpa using this.symm)
 obtain ⟨L',h5,h6⟩:=hback hle (A':=(b,.cells hs.toArray T (0,0))::B1) ⟨hs,B1,rfl,hl,g3⟩
 refine bZ.load1 (I:=I.k) (O:=(b,.cells hs.toArray T (0,0))::(A1++B1++(B++F))) ha hS2 hx (.inr ⟨_,_,_,.head _,by rw[List.getElem?_toArray];exact g1⟩) ?_
 refine q6 (fun _ _=>q7 hle) _ _ _ (kk i J F _ _ ((h1.mono hle).upd d ⟨b1,cap,e2,Z⟩) ⟨htop',A1++L',⟨A1,L',Z,⟨b1,cap,_,c.vs r,e2,by rw[c.av_eq];exact eK J _,c.vs_one r,g2⟩,h5⟩,?_⟩)
 rw[e1]
 refine hS2.perm ?_
 have h7:(A1++L'++F).Perm (A1++((b,Obj.cells hs.toArray T (0,0))::(B1++B))++F):=(h6.append_left A1).append_right F
 refine h7.trans ?_
 simp only[qv,List.cons_append]
 exact List.perm_middle
end
end Go.Proofs.YtdilpodccjlkgaaGreatDoor
namespace Go.Proofs.YtdilpodccjlkgaaGreatDoor
open Go.Proofs.Tryz
variable {α:Type}
def kv (k:Int):Value:=.int .i64 k
theorem o5 (k:Int):MapKept.IsKey (.int .i64) (kv k):=rfl
theorem Ci (k k':Int):Instr.sameNow (.int .i64) (kv k) (kv k')=some (decide (k=k')):=by
 simp[Instr.sameNow,kv];by_cases h:k=k'<;>simp[h]
def gm (arr:Array MapEntry):List (Value × Value):=arr.toList.map fun e=>(e.key,e.val)
section
variable {E:World} {P:Program} {ops:Array Oper} {K:aR→OL→Prop} {env:aR} {O O' O'':OL} {rest:List Oper} {n:Nat}
variable {d ty:Nat} {pos:String} {af:Array Edge} {x y z:Operand} {t u e T kt:TypeId} {b:Nat}
end
end Go.Proofs.YtdilpodccjlkgaaGreatDoor
namespace Go.Proofs.YtdilpodccjlkgaaGreatDoor
open Go.Proofs.Tryz
abbrev fJ:=Int × Int
def FP:Int:=-9223372036854775808
def FQ:Int:=9223372036854775807
def bB (x:Int):Prop:=-9223372036854775808≤x∧x≤9223372036854775807
instance (x:Int):Decidable (bB x):=by unfold bB;infer_instance
def mu (r:fJ):Prop:=bB r.1∧bB r.2
def D8:fJ:=(1,0)
def ur (lo hi:Int):fJ:=if hi<lo then D8 else (lo,hi)
def Cj (a b:Int):Int:=if b<a then b else a
def Ck (a b:Int):Int:=if a<b then b else a
def gn (a b:fJ):fJ:=if a.2<a.1 then ur b.1 b.2 else if b.2<b.1 then a else (Cj a.1 b.1,Ck a.2 b.2)
def iu (k:Nat) (x y:Int):Int:=if k=0 then x+y else if k=1 then x - y else x*y
def dk (k:Nat) (x y:Int):Prop:=bB (iu k x y)
instance (k:Nat) (x y:Int):Decidable (dk k x y):=by unfold dk;infer_instance
def o6 (k:Nat) (x y:Int):Int:=if (if k=2 then decide (x<0) != decide (y<0) else decide (x<0)) then FP else FQ
def sZ (k:Nat) (x y:Int):Int:=if dk k x y then iu k x y else o6 k x y
def yL (n:Int):fJ:=(n,n)
def FR (k:Nat) (a b:fJ):fJ:=gn (gn (gn (gn D8 (yL (sZ k a.1 b.1))) (yL (sZ k a.1 b.2))) (yL (sZ k a.2 b.1))) (yL (sZ k a.2 b.2))
def kg (k:Nat) (a b:fJ):Prop:=dk k a.1 b.1∧dk k a.1 b.2∧dk k a.2 b.1∧dk k a.2 b.2
instance (k:Nat) (a b:fJ):Decidable (kg k a b):=by unfold kg;infer_instance
def ut (a b:Int):fJ:=if b<a then (b,a) else (a,b)
def Cl (a b:fJ):fJ:=(if b.1<a.1 then b.1 else a.1,if a.2<b.2 then b.2 else a.2)
def FS (k:Nat) (a b:fJ):fJ:=Cl (ut (sZ k a.1 b.1) (sZ k a.1 b.2)) (ut (sZ k a.2 b.1) (sZ k a.2 b.2))
theorem wI (p:Int):gn D8 (yL p)=(p,p):=by
 unfold gn yL D8 ur
 rw[if_pos (by decide)]
 rw[if_neg (by dsimp only;omega)]
theorem m6 {lo hi:Int} (h:lo≤hi) (q:Int):gn (lo,hi) (yL q)=(Cj lo q,Ck hi q)∧Cj lo q≤Ck hi q:=by
 unfold gn yL
 rw[if_neg (by dsimp only;omega),if_neg (by dsimp only;omega)]
 refine ⟨Z,?_⟩
 unfold Cj Ck;split<;>split<;>omega
theorem Ho (p q r s:Int):gn (gn (gn (gn D8 (yL p)) (yL q)) (yL r)) (yL s)=Cl (ut p q) (ut r s):=by
 obtain ⟨e2,h2⟩:=m6 (Int.le_refl p) q
 obtain ⟨e3,h3⟩:=m6 h2 r
 obtain ⟨e4,_⟩:=m6 h3 s
 rw[wI,e2,e3,e4]
 unfold ut Cl Cj Ck
 rw[Prod.ext_iff]
 by_cases c1:q<p<;>by_cases c2:s<r<;>simp only[c1,c2,if_true,if_false]<;>constructor<;>(repeat' split)<;>omega
theorem En (k:Nat) (a b:fJ):FR k a b=FS k a b:=Ho _ _ _ _
theorem Eo {x y:Nat} (hy:0<y) (l:Nat):x≤l / y↔x*y≤l:=Nat.le_div_iff_mul_le hy
theorem rA (a b:Int) (l:Nat):a.natAbs≤l / b.natAbs↔(b=0∧a=0)∨(b≠0∧(a*b).natAbs≤l):=by
 by_cases hb:b=0
 ·subst hb;simp
 ·rw[Eo (by omega),Int.natAbs_mul];simp[hb]
theorem Cm {a b:Int} (ha:a≠0) (hb:b≠0):(0<a*b↔((a<0)↔(b<0)))∧a*b≠0:=by
 refine ⟨?_,Int.mul_ne_zero ha hb⟩
 rcases Int.lt_or_gt_of_ne ha with h1|h1<;>rcases Int.lt_or_gt_of_ne hb with h2|h2
 ·have:=Int.mul_pos_of_neg_of_neg h1 h2;simp[this,h1,h2]
 ·have:=Int.mul_neg_of_neg_of_pos h1 h2
  constructor
  ·intro h;omega
  ·intro h;have:=h.1 h1;omega
 ·have:=Int.mul_neg_of_pos_of_neg h1 h2
  constructor
  ·intro h;omega
  ·intro h;have:=h.2 h2;omega
 ·have:=Int.mul_pos h1 h2
  constructor
  ·intro _;constructor<;>intro h<;>omega
  ·intro _;exact this
theorem Ge (a b:Int) (ha:a≠0) (hb:b≠0):(a.natAbs≤(if decide (a<0)=decide (b<0) then 9223372036854775807 else 9223372036854775808) / b.natAbs)↔dk 2 a b:=by
 have hs:=Cm ha hb
 rw[rA]
 unfold dk bB
 have e:iu 2 a b=a*b:=rfl
 rw[e]
 simp only[hb,false_and,false_or,ne_eq,not_false_eq_true,true_and]
 by_cases h:decide (a<0)=decide (b<0)
 ·rw[if_pos h]
  have:(a<0)↔(b<0):=by simpa using h
  have h1:=hs.1.2 this
  omega
 ·rw[if_neg h]
  have:¬((a<0)↔(b<0)):=by simpa using h
  have h1:¬0<a*b:=fun h2=>this (hs.1.1 h2)
  omega
end Go.Proofs.YtdilpodccjlkgaaGreatDoor
namespace Go.Proofs.YtdilpodccjlkgaaGreatDoor
open Go.Proofs.Tryz
def Hp (r s:fJ):Prop:=r.2<r.1∨(s.1≤r.1∧r.2≤s.2)
def Hq (x a b:Int):Prop:=(a≤x∧x≤b)∨(b≤x∧x≤a)
theorem Hr {k:Nat} {x a b y:Int} (h1:a≤x) (h2:x≤b):Hq (iu k x y) (iu k a y) (iu k b y):=by
 unfold iu Hq
 split
 ·omega
 ·split
  ·omega
  ·rcases Int.le_total 0 y with hy|hy
   ·exact .inl ⟨Int.mul_le_mul_of_nonneg_right h1 hy,Int.mul_le_mul_of_nonneg_right h2 hy⟩
   ·exact .inr ⟨Int.mul_le_mul_of_nonpos_right h2 hy,Int.mul_le_mul_of_nonpos_right h1 hy⟩
theorem FT {k:Nat} {x a b y:Int} (h1:a≤y) (h2:y≤b):Hq (iu k x y) (iu k x a) (iu k x b):=by
 unfold iu Hq
 split
 ·omega
 ·split
  ·omega
  ·rcases Int.le_total 0 x with hx|hx
   ·exact .inl ⟨Int.mul_le_mul_of_nonneg_left h1 hx,Int.mul_le_mul_of_nonneg_left h2 hx⟩
   ·exact .inr ⟨Int.mul_le_mul_of_nonpos_left hx h2,Int.mul_le_mul_of_nonpos_left hx h1⟩
theorem wJ {k:Nat} {a b a' b':fJ} (na:a.1≤a.2) (nb:b.1≤b.2) (sa:a'.1≤a.1∧a.2≤a'.2) (sb:b'.1≤b.1∧b.2≤b'.2) (h:kg k a' b'):kg k a b:=by
 obtain ⟨h1,h2,h3,h4⟩:=h
 have key:∀x y,a'.1≤x→x≤a'.2→b'.1≤y→y≤b'.2→dk k x y:=fun x y g1 g2 g3 g4=>by
  have e1:=FT (k:=k) (x:=a'.1) g3 g4
  have e2:=FT (k:=k) (x:=a'.2) g3 g4
  have e3:=Hr (k:=k) (y:=y) g1 g2
  unfold dk bB at *
  unfold Hq at e1 e2 e3
  omega
 exact ⟨key _ _ (by omega) (by omega) (by omega) (by omega),key _ _ (by omega) (by omega) (by omega) (by omega),key _ _ (by omega) (by omega) (by omega) (by omega),key _ _ (by omega) (by omega) (by omega) (by omega)⟩
end Go.Proofs.YtdilpodccjlkgaaGreatDoor
namespace Go.Proofs.YtdilpodccjlkgaaGreatDoor
open Go.Proofs.Tryz
end Go.Proofs.YtdilpodccjlkgaaGreatDoor
namespace Go.Proofs.YtdilpodccjlkgaaGreatDoor
open Go.Proofs.Tryz
end Go.Proofs.YtdilpodccjlkgaaGreatDoor
namespace Go.Proofs.YtdilpodccjlkgaaGreatDoor
open Go.Proofs.Tryz
def ra (rs:List fJ) (i:Nat):fJ:=(rs[i]?).getD (0,0)
end Go.Proofs.YtdilpodccjlkgaaGreatDoor
namespace Go.Proofs.YtdilpodccjlkgaaGreatDoor
open Go.Proofs.Tryz
def oe (h:fJ × Bool) (n:Int) (fits:Bool) (e:Int):fJ × Bool:=(gn h.1 (yL (if fits then n else e)),h.2||!fits)
def h4 (h:fJ × Bool) (a b:fJ) (n:Int→Int→Int) (fit:Int→Int→Bool) (e:Int→Int→Int):fJ × Bool:=
 oe (oe (oe (oe h (n a.1 b.1) (fit a.1 b.1) (e a.1 b.1)) (n a.1 b.2) (fit a.1 b.2) (e a.1 b.2)) (n a.2 b.1) (fit a.2 b.1) (e a.2 b.1)) (n a.2 b.2) (fit a.2 b.2) (e a.2 b.2)
instance (k:Nat) (x y:Int):Decidable (dk k x y):=by unfold dk bB;infer_instance
instance (k:Nat) (a b:fJ):Decidable (kg k a b):=by unfold kg;infer_instance
def yM (k:Nat) (a b:fJ):fJ × Bool:=h4 (D8,false) a b (iu k) (fun x y=>decide (dk k x y)) (o6 k)
theorem uv (k:Nat) (a b:fJ):yM k a b=(FS k a b,!decide (kg k a b)):=by
 rw[←En]
 unfold yM h4 oe FR kg sZ
 simp only[Bool.false_or,wg]
 refine Prod.ext Z ?_
 dsimp only
 by_cases h1:dk k a.1 b.1<;>by_cases h2:dk k a.1 b.2<;>by_cases h3:dk k a.2 b.1<;>by_cases h4:dk k a.2 b.2<;>simp[h1,h2,h3,h4]
end Go.Proofs.YtdilpodccjlkgaaGreatDoor
namespace Go.Proofs.YtdilpodccjlkgaaGreatDoor
open Go.Proofs.Tryz
open Go.Proofs
theorem mv {z:Int} (h:bB z):IntKind.i64.wrap z=z:=by
 unfold bB at h
 unfold IntKind.wrap;simp[IntKind.bits,IntKind.signed];omega
def go (a:fJ) (i:Nat):Int:=if i=0 then a.1 else a.2
theorem Cn {a:fJ} (h:mu a) (i:Nat):bB (go a i):=by unfold go;split;exact h.1;exact h.2
theorem yN {a:fJ} {i:Nat} (h:i<2):([AV.int .i64 a.1,AV.int .i64 a.2]:List AV)[i]?=some (.int .i64 (go a i)):=by
 rcases (by omega:i=0∨i=1) with rfl|rfl<;>rfl
def Hs (n:Int→Int→Int) (fit:Int→Int→Bool) (e:Int→Int→Int) (h0:fJ × Bool) (a b:fJ):Nat→fJ × Bool
 |0=>h0
 |m+1=>oe (Hs n fit e h0 a b m) (n (go a (m / 2)) (go b (m % 2))) (fit (go a (m / 2)) (go b (m % 2))) (e (go a (m / 2)) (go b (m % 2)))
theorem Co {n:Int→Int→Int} {fit:Int→Int→Bool} {e:Int→Int→Int} {h0:fJ × Bool} {a b:fJ} (i:Nat) {j:Nat} (hj:j<2) :
  Hs n fit e h0 a b (2*i+(j+1))=oe (Hs n fit e h0 a b (2*i+j)) (n (go a i) (go b j)) (fit (go a i) (go b j)) (e (go a i) (go b j)):=by
 rw[←Nat.add_assoc,Hs,show (2*i+j) / 2=i by omega,show (2*i+j) % 2=j by omega]
theorem o7 {h:fJ × Bool} {n n':Int} {fits:Bool} {e e':Int} (h1:fits=true→n=n') (h2:e=e'):oe h n fits e=oe h n' fits e':=by
 cases fits
 ·unfold oe;simp[h2]
 ·rw[h1 rfl,h2]
theorem Ep {x y:Int}:decide (dk 0 x y)=true→IntKind.i64.wrap (x+y)=iu 0 x y:=fun h=>mv (wd h)
theorem Eq {x y:Int}:decide (dk 1 x y)=true→IntKind.i64.wrap (x - y)=iu 1 x y:=fun h=>mv (wd h)
theorem Cp {x y:Int}:decide (dk 2 x y)=true→IntKind.i64.wrap (x*y)=iu 2 x y:=fun h=>mv (wd h)
theorem Ip {x y:Int} (hx:bB x) (hy:bB y):(!(decide (x<0) == decide (y<0))||(decide (IntKind.i64.wrap (x+y)<0) == decide (x<0)))=decide (dk 0 x y):=by
 have hw:IntKind.i64.wrap (x+y)=(if x+y < -9223372036854775808 then x+y+18446744073709551616 else if 9223372036854775807<x+y then x+y - 18446744073709551616 else x+y):=by
  unfold bB at hx hy
  unfold IntKind.wrap;simp[IntKind.bits,IntKind.signed];(repeat' split)<;>omega
 rw[hw,w3,wg]
 show _↔bB (x+y)
 unfold bB at *
 simp only[Bool.or_eq_true,Bool.not_eq_true',beq_eq_false_iff_ne,beq_iff_eq,decide_eq_decide,ne_eq]
 (repeat' split)<;>omega
theorem Iq {x y:Int} (hx:bB x) (hy:bB y):((decide (x<0) == decide (y<0))||(decide (IntKind.i64.wrap (x - y)<0) == decide (x<0)))=decide (dk 1 x y):=by
 have hw:IntKind.i64.wrap (x - y)=(if x - y < -9223372036854775808 then x - y+18446744073709551616 else if 9223372036854775807<x - y then x - y - 18446744073709551616 else x - y):=by
  unfold bB at hx hy
  unfold IntKind.wrap;simp[IntKind.bits,IntKind.signed];(repeat' split)<;>omega
 rw[hw,w3,wg]
 show _↔bB (x - y)
 unfold bB at *
 simp only[Bool.or_eq_true,beq_iff_eq,decide_eq_decide]
 (repeat' split)<;>omega
theorem kH {x:Int} (h:bB x):(if x<0 then IntKind.u64.wrap (0 - IntKind.u64.wrap x) else IntKind.u64.wrap x)=((x.natAbs:Nat):Int):=by
 unfold bB at h
 unfold IntKind.wrap;simp[IntKind.bits,IntKind.signed];split<;>omega
theorem Cq {x:Int} (h:bB x):x.natAbs<18446744073709551616:=by unfold bB at h;omega
theorem Ir {x y:Int}:(decide (((x.natAbs*y.natAbs / 18446744073709551616:Nat):Int)=0)&&decide (((x.natAbs*y.natAbs % 18446744073709551616:Nat):Int)≤(if (!(decide (x<0) == decide (y<0)))=true then 9223372036854775808 else 9223372036854775807)))=decide (dk 2 x y):=by
 have hm:=Int.natAbs_mul x y
 rw[w3,wg (p:=dk 2 x y)]
 show _↔bB (x*y)
 unfold bB
 rw[←hm]
 have hs:(x<0↔y<0)→0≤x*y:=fun h=>by
  by_cases hx:x<0
  ·exact Int.le_of_lt (Int.mul_pos_of_neg_of_neg hx (h.1 hx))
  ·exact Int.mul_nonneg (by omega) (by have:=mt h.2 hx;omega)
 have hd:¬(x<0↔y<0)→x*y≤0:=fun h=>by
  by_cases hx:x<0
  ·have hy:¬y<0:=fun hy=>h ⟨fun _=>hy,fun _=>hx⟩
   exact Int.mul_nonpos_of_nonpos_of_nonneg (by omega) (by omega)
  ·have hy:y<0:=Classical.byContradiction fun hy=>h ⟨fun h=>absurd h hx,fun h=>absurd h hy⟩
   exact Int.mul_nonpos_of_nonneg_of_nonpos (by omega) (by omega)
 generalize x*y=z at *
 simp only[wa,wg,Bool.not_eq_true',beq_eq_false_iff_ne,decide_eq_decide,ne_eq]
 by_cases c:(x<0↔y<0)
 ·have:=hs c
  rw[if_neg (by simp[c])];omega
 ·have:=hd c
  rw[if_pos c];omega
theorem Gf (x y:Int):(if decide (x<0)=true then FP else FQ)=o6 0 x y:=rfl
theorem Gg (x y:Int):(if decide (x<0)=true then FP else FQ)=o6 1 x y:=rfl
theorem Gh (x y:Int):(if (!(decide (x<0) == decide (y<0)))=true then FP else FQ)=o6 2 x y:=rfl
def m7 (r:fJ):List AV:=[.int .i64 r.1,.int .i64 r.2]
def AA (h:fJ × Bool):List AV:=[.int .i64 h.1.1,.int .i64 h.1.2,.bool h.2]
end Go.Proofs.YtdilpodccjlkgaaGreatDoor
namespace Go.Proofs.YtdilpodccjlkgaaGreatDoor
open Go.Proofs.Tryz
open Go.Proofs
theorem eE (z:Int):IntKind.i64.wrap z=(z+9223372036854775808) % 18446744073709551616 - 9223372036854775808:=by
 unfold IntKind.wrap;simp[IntKind.bits,IntKind.signed];(try split)<;>omega
theorem o8 (z:Int):IntKind.u64.wrap z=z % 18446744073709551616:=by
 unfold IntKind.wrap;simp[IntKind.bits,IntKind.signed]
theorem AB (x y:Int):IntKind.i64.wrap (IntKind.u64.wrap (IntKind.u64.wrap x+IntKind.u64.wrap y))=IntKind.i64.wrap (x+y):=by
 simp only[eE,o8];omega
theorem AC (x y:Int):IntKind.i64.wrap (IntKind.u64.wrap (IntKind.u64.wrap x - IntKind.u64.wrap y))=IntKind.i64.wrap (x - y):=by
 simp only[eE,o8];omega
theorem AD (x y:Int):IntKind.i64.wrap (IntKind.u64.wrap (IntKind.u64.wrap x*IntKind.u64.wrap y))=IntKind.i64.wrap (x*y):=by
 simp only[eE,o8]
 rw[←Int.mul_emod];omega
theorem AE (x:Int):IntKind.i64.wrap (IntKind.u64.wrap (0 - IntKind.u64.wrap x))=IntKind.i64.wrap (x.tdiv (-1)):=by
 rw[show x.tdiv (-1)=-x by rw[Int.tdiv_neg,Int.tdiv_one]]
 simp only[eE,o8];omega
theorem Is {x y:Int} (hx:bB x) (hx0:x≠0) (hy0:y≠0):decide ((x.natAbs:Int)≤IntKind.u64.wrap ((if (decide (x<0) == decide (y<0))=true then 9223372036854775807 else 9223372036854775808:Int).tdiv (y.natAbs:Int)))=decide (dk 2 x y):=by
 rw[decide_eq_decide,←Ge x y hx0 hy0]
 obtain ⟨l,hl⟩:∃l:Nat,(if decide (x<0)=decide (y<0) then 9223372036854775807 else 9223372036854775808)=l:=⟨_,rfl⟩
 have hl2:(if (decide (x<0) == decide (y<0))=true then 9223372036854775807 else 9223372036854775808:Int)=(l:Int):=by
  rw[←hl]
  by_cases h:decide (x<0)=decide (y<0)
  ·rw[if_pos h,if_pos (by simpa using h)];rfl
  ·rw[if_neg h,if_neg (by simpa using h)];rfl
 have hll:l≤9223372036854775808:=by rw[←hl];split<;>omega
 rw[hl,hl2,show ((l:Int)).tdiv (y.natAbs:Int)=((l / y.natAbs:Nat):Int) from rfl,o8]
 have h3:=Nat.div_le_self l y.natAbs
 generalize l / y.natAbs=q at h3 ⊢
 omega
theorem uw {k:Nat} (hk:k≤2) {x y:Int} (h:dk k x y):IntKind.i64.wrap (iu k x y)=iu k x y:=mv h
end Go.Proofs.YtdilpodccjlkgaaGreatDoor
namespace Go.Proofs.YtdilpodccjlkgaaGreatDoor
open Go.Proofs.Tryz
open Go.Proofs
section
variable {E:World} {P:Program} {ops:Array Oper} {K:aR→OL→Prop} {env:aR} {O O' O'':OL} {rest:List Oper} {n:Nat}
variable {d ty:Nat} {pos:String} {af:Array Edge} {x y z:Operand} {t u e T:TypeId}
end
end Go.Proofs.YtdilpodccjlkgaaGreatDoor
namespace Go.Proofs.YtdilpodccjlkgaaGreatDoor
open Go.Proofs.Tryz
open Go.Proofs
end Go.Proofs.YtdilpodccjlkgaaGreatDoor
namespace Go.Proofs.YtdilpodccjlkgaaGreatDoor
open Go.Proofs.Tryz
open Go.Proofs
theorem Gi {I:G} {F:List (Nat × Obj)} {E w:World} {i:Nat} {T:TypeId} {cs:List AV} (h:gG I [(i,.cells T cs)] F E w) :
  ∃J L,I.le J∧bw I [(i,.cells T cs)] L∧SL I.k (L++F) E w∧(∀y∈L,J.k y.1=some y.2)∧gG J [] F E w∧∀v,bp I (.po i 0) v→bp J (.pf cs) v:=by
 obtain ⟨ht,L,hL,hS⟩:=h
 have hL0:=hL
 obtain ⟨A,B,hp,⟨b,c,vs,e1,hvs,hvc,hA⟩,hB⟩:=hL
 have hB:B=[]:=hB
 simp only at e1
 rw[hB,w6] at hp
 subst hp
 subst hA
 obtain ⟨hl,hS3⟩:=SL.freeze (by simpa using hS:SL I.k ((b,.cells vs.toArray T (0,0))::F) E w)
 let J:G:=⟨I.k.put b (.cells vs.toArray T (0,0)),I.h⟩
 have hle:I.le J:=⟨hl,fun _ _ h=>h⟩
 have hb:J.k b=some (.cells vs.toArray T (0,0)):=bD.put_same _ _ _
 refine ⟨J,_,hle,hL0,hS,fun y hy=>(by rw[List.mem_singleton.1 hy];exact hb),⟨ht,[],Z,by simpa using hS3⟩,?_⟩
 rintro v ⟨b2,c2,e2,rfl⟩
 rw[e1] at e2
 simp only[Option.some.injEq,Prod.mk.injEq] at e2
 obtain ⟨rfl,rfl⟩:=e2
 exact ⟨b,0,vs,rfl,ql hle _ _ hvs,fun j u hj=>⟨_,_,_,hb,by rw[Nat.zero_add,List.getElem?_toArray];exact hj⟩⟩
theorem aY.lendP {P:Program} {E:World} {f:FuncId} {rest:List AV} {x:AV} {i:Nat} {T:TypeId} {cs:List AV} (hx:∀(I J:G) v,bp J x v→bp I x v)
  (h:aM P E f (.pf cs::rest) x):aY P E f (.po i 0::rest) [(i,.cells T cs)] fun y O=>y=x∧O=[(i,.cells T cs)]:=fun I F w vs h1 h2=>by
 obtain ⟨J,L,hle,hL,hS,hf,hJ,hv⟩:=Gi h2
 obtain ⟨v1,us,rfl,r1,r2⟩:=h1
 refine (h J F w _ ⟨v1,us,Z,hv v1 r1,ql hle _ _ r2⟩ hJ).mono fun v w' ⟨J2,y,O',a,b,c,d⟩=>?_
 have d:y=x:=d
 subst d
 obtain ⟨_,L',_,hS'⟩:=c
 refine ⟨I,y,_,.refl _,hx I J2 v b,⟨h2.1,L,hL,?_⟩,Z,Z⟩
 refine ⟨hS'.os,hS'.output,hS'.tape,fun b o hb=>hS'.pers b o (a.k b o (hle.k b o hb)),fun z hz=>?_,hS.nodup,hS.apart,hS.base,hS.flat,hS.oflat⟩
 rcases List.mem_append.1 hz with hz|hz
 ·exact hS'.pers _ _ (a.k _ _ (hf z hz))
 ·exact hS'.own z (List.mem_append_right _ hz)
theorem iO {I J:G} {b:Bool} {v:Value} (h:bp J (.bool b) v):bp I (.bool b) v:=h
theorem ux {I J:G} {k:IntKind} {n:Int} {b:Bool} {v:Value} (h:bp J (.tup [.int k n,.bool b]) v):bp I (.tup [.int k n,.bool b]) v:=by
 obtain ⟨vs,rfl,a,_,rfl,h1,b,_,rfl,h2,h3⟩:=h
 exact ⟨_,rfl,a,_,rfl,h1,b,_,rfl,h2,h3⟩
theorem az.storeGN {E:World} {P:Program} {ops:Array Oper} {K:aR→OL→Prop} {env:aR} {O O':OL} {rest:List Oper} {ty:Nat} {pos:String} {af:Array Edge} {x y:Operand} {t:TypeId} {i off k:Nat} {T:TypeId} {v:AV} {cs new:List AV} (hs:∀w,(sizeOf t).run P w=.ok 1 w) (hx:aV env x=.po i off) (hy:aV env y=v) (hv:v.sto=true) (hl:v.cs=[v]) (hl1:v.cell=true)
  (hO:fR O i (.grow k T cs) (.grow k T new) O') (hb:off<cs.length) (hnew:cs.set off v=new) (kk:az P E ops K rest env O'):az P E ops K (Oper.mk none (.store t x y) ty pos af none::rest) env O:=by
 subst hnew;exact az.storeG1 hs hx hy hv hl hl1 hO hb kk
end Go.Proofs.YtdilpodccjlkgaaGreatDoor
namespace Go.Proofs.YtdilpodccjlkgaaGreatDoor
open Go.Proofs.Tryz
open Go.Proofs
theorem aY.lendAll {P:Program} {E:World} {f:FuncId} {ars ars':List AV} {x:AV} {O:OL}
  (has:∀(I J:G) (L:List (Nat × Obj)),I.le J→bw I O L→(∀y∈L,J.k y.1=some y.2)→∀vs,RepL I ars vs→RepL J ars' vs) (hx:∀(I J:G) v,bp J x v→bp I x v)
  (h:aM P E f ars' x):aY P E f ars O fun y O'=>y=x∧O'=O:=fun I F w vs h1 h2=>by
 obtain ⟨ht,L,hL,hS⟩:=id h2
 obtain ⟨K,h3,h4,hf⟩:=SL.freezeAllN hS
 let J:G:=⟨K,I.h⟩
 have hle:I.le J:=⟨h3,fun _ _ h=>h⟩
 refine (h J F w vs (has I J L hle hL hf vs h1) ⟨ht,[],Z,by simpa using h4⟩).mono fun v w' ⟨J2,y,O',a,b,c,d⟩=>?_
 have d:y=x:=d
 subst d
 obtain ⟨_,L',_,hS'⟩:=c
 refine ⟨I,y,_,.refl _,hx I J2 v b,⟨ht,L,hL,?_⟩,Z,Z⟩
 refine ⟨hS'.os,hS'.output,hS'.tape,fun b o hb=>hS'.pers b o (a.k b o (hle.k b o hb)),fun z hz=>?_,hS.nodup,hS.apart,hS.base,hS.flat,hS.oflat⟩
 rcases List.mem_append.1 hz with hz|hz
 ·exact hS'.pers _ _ (a.k _ _ (hf z hz))
 ·exact hS'.own z (List.mem_append_right _ hz)
section
variable {I J:G} {L:List (Nat × Obj)} {O O':OL} {i k m:Nat} {T:TypeId}
theorem r3 (hL:bw I O L) {o:bA} (hp:dA O i o O'):∃A,ml I (i,o) A∧∀y∈A,y∈L:=by
 obtain ⟨A,B,hperm,hA,_⟩:=hp.rep hL
 exact ⟨A,hA,fun y hy=>hperm.mem_iff.2 (List.mem_append_left _ hy)⟩
theorem o9 {cs cs':List AV} (hL:bw I O L) (hf:∀y∈L,J.k y.1=some y.2) (hp:dA O i (.cells T cs) O') (hc:∀vs,RepL I cs vs→RepL J cs' vs) (v:Value) (h:bp I (.po i 0) v):bp J (.pf cs') v:=by
 obtain ⟨A,hA,hin⟩:=r3 hL hp
 obtain ⟨b,c,vs,e1,hvs,_,rfl⟩:=hA
 simp only at e1
 obtain ⟨b2,c2,e2,rfl⟩:=h
 rw[e1] at e2
 simp only[Option.some.injEq,Prod.mk.injEq] at e2
 obtain ⟨rfl,rfl⟩:=e2
 have hb:J.k b=some (.cells vs.toArray T (0,0)):=hf _ (hin _ (List.mem_singleton.2 rfl))
 exact ⟨b,0,vs,rfl,hc vs hvs,fun j u hj=>⟨_,_,_,hb,by rw[Nat.zero_add,List.getElem?_toArray];exact hj⟩⟩
theorem r4 {rows:List (List AV)} (hle:I.le J) (hL:bw I O L) (hf:∀y∈L,J.k y.1=some y.2) (hp:dA O i (.grow k T rows.flatten) O') (hk:∀r∈rows,r.length=k) (hk0:0<k) (hm:rows.length=m) (v:Value) (h:bp I (.own i m) v):bp J (.fro k rows) v:=by
 obtain ⟨A,hA,hin⟩:=r3 hL hp
 obtain ⟨b,c,n,vs,e1,hvs,hvc,hown⟩:=hA
 simp only at e1
 obtain ⟨b2,c2,e2,rfl⟩:=h
 rw[e1] at e2
 simp only[Option.some.injEq,Prod.mk.injEq] at e2
 obtain ⟨rfl,rfl⟩:=e2
 have hflat:rows.flatten.length=rows.length*k:=by
  clear hvs hm hp
  induction rows with
  |nil=>simp
  |cons r rows ih=>simp only[List.flatten_cons,qz,List.length_cons,ih (fun r h=>hk r (by simp[h])),hk r (by simp),Nat.add_mul];omega
 have hnm:n=m:=by
  have h5:=hown.1
  have h6:=hvs.length
  have:n*k=m*k:=by rw[←hm];omega
  exact Nat.eq_of_mul_eq_mul_right hk0 this
 subst hnm
 obtain ⟨h5,h6,h7⟩:=hown
 rcases h7 with ⟨ea,rfl,rfl⟩|⟨b',junk,ea,rfl,hj⟩
 ·have h0:rows=[]:=List.eq_nil_of_length_eq_zero (by omega)
  subst h0
  exact ⟨adr b,n,0,rfl,hm.symm,h6,fun _=>rfl,trivial⟩
 ·cases b with
  |none=>simp[adr] at ea
  |some b=>
   simp[adr] at ea
   subst ea
   have hb:J.k b=some (.cells (vs++junk).toArray T (0,0)):=hf _ (hin _ (List.mem_singleton.2 rfl))
   refine ⟨adr (some b),n,c,Z,hm.symm,h6,fun h=>by simp[adr] at h,RepR.of_flat hb rows vs 0 hk (ql hle _ _ hvs) fun i u hu=>?_⟩
   rw[Nat.zero_mul,Nat.zero_add,List.getElem?_toArray,List.getElem?_append_left (List.getElem?_eq_some_iff.1 hu).1]
   exact hu
theorem cW {x y:AV} {xs ys:List AV} (h:∀v,bp I x v→bp J y v) (hs:∀vs,RepL I xs vs→RepL J ys vs):∀vs,RepL I (x::xs) vs→RepL J (y::ys) vs:=fun vs ⟨v,us,e,h1,h2⟩=>⟨v,us,e,h v h1,hs us h2⟩
theorem uy:∀vs,RepL I [] vs→RepL J [] vs:=fun _ h=>h
theorem fC (hle:I.le J) (x:AV):∀v,bp I x v→bp J x v:=fun v h=>bp.mono hle x v h
theorem wK (hle:I.le J) (xs:List AV):∀vs,RepL I xs vs→RepL J xs vs:=fun vs h=>ql hle xs vs h
theorem pa (x:AV):∀v,bp I x v→bp J .any v:=fun _ _=>trivial
end
end Go.Proofs.YtdilpodccjlkgaaGreatDoor
namespace Go.Proofs.YtdilpodccjlkgaaGreatDoor
open Go.Proofs.Tryz
open Go.Proofs
theorem Cr {α:Type} [Inhabited α] (c:fV α):∀(l:List α) (t:Nat),t<l.length*c.k→(c.vs l)[t]?=some (c.val l[t / c.k]!)[t % c.k]!
 |[],t,h=>by simp at h
 |x::l,t,h=>by
  have e:c.vs (x::l)=c.val x++c.vs l:=by unfold fV.vs;rw[List.flatMap_cons]
  rw[e]
  by_cases ht:t<c.k
  ·rw[List.getElem?_append_left (by rw[c.len];exact ht),Nat.div_eq_of_lt ht,Nat.mod_eq_of_lt ht,List.getElem!_cons_zero,qt (by rw[c.len];exact ht),getElem!_pos (c.val x) t (by rw[c.len];exact ht)]
  ·obtain ⟨s,rfl⟩:∃s,t=s+c.k:=⟨t - c.k,by omega⟩
   rw[List.getElem?_append_right (by rw[c.len];omega),c.len,Nat.add_sub_cancel,Nat.add_div_right _ c.pos,Nat.add_mod_right,List.getElem!_cons_succ]
   exact Cr c l s (by rw[List.length_cons,Nat.add_mul,Nat.one_mul] at h;omega)
theorem uz (zl:List Value) (m:Nat) (h0:0<zl.length) (h1:∀u∈zl,u.oneCell'=true):madeCells zl.toArray (m*zl.length)=(List.replicate m zl).flatten.toArray:=by
 let c:fV Unit:=⟨zl.length,fun _=>zl,h0,fun _=>rfl,fun _=>h1⟩
 have e:(List.replicate m zl).flatten=c.vs (List.replicate m ()):=by
  show _=(List.replicate m ()).flatMap fun _=>zl
  rw[List.flatMap,List.map_replicate]
 rw[e]
 apply Array.ext_getElem?
 intro t
 have e3:(c.vs (List.replicate m ())).toArray[t]?=(c.vs (List.replicate m ()))[t]?:=List.getElem?_toArray
 rw[e3]
 by_cases ht:t<m*zl.length
 ·rw[Cr c _ t (by rw[List.length_replicate];exact ht)]
  unfold madeCells
  rw[Array.getElem?_map,Array.getElem?_range,if_pos ht]
  show some (zl.toArray[t % zl.toArray.size]!)=some (zl[t % zl.length]!)
  simp
 ·rw[Array.getElem?_eq_none (by rw[size_madeCells];omega),List.getElem?_eq_none (by rw[c.vs_len,List.length_replicate];show m*zl.length≤t;omega)]
section
variable {E:World} {P:Program} {ops:Array Oper} {K:aR→OL→Prop} {env:aR} {O:OL} {rest:List Oper} {d ty:Nat} {pos:String} {af:Array Edge} {x y:Operand} {t e:TypeId}
theorem az.makeZ {i:TypeInfo} {zv:Value} {m:Nat} {k1 k2:IntKind} {l l':Int} (zl:List Value) (ht:P.underlying t=some (.slice e)) (hi:P.info? e=some i) (hz:i.zero=some zv) (hzc:zv.cells=zl.toArray) (hk:i.size=zl.length) (h0:0<zl.length) (h1:∀u∈zl,u.oneCell'=true) (hx:aV env x=.int k1 l) (hy:aV env y=.int k2 l')
  (hl:l=(m:Int)) (hl':l'=(m:Int)) (hb:(i.bytes:Int)*(m:Int)≤281474976710656) (hm:m≤281474976710656) (kk:∀j,az P E ops K rest (bq env d (.own j m)) ((j,.grow zl.length e (List.replicate m (zl.map lit)).flatten)::O)) :
  az P E ops K (Oper.mk (some d) (.makeSlice t x y) ty pos af none::rest) env O:=fun I F ρ w g1 g2=>by
 obtain ⟨L,hL,hS⟩:=g2.2
 obtain ⟨j,hj⟩:=g2.name
 have hx:=fK g1 hx
 have hy:=fK g1 hy
 refine qn Z ?_
 unfold jH
 subst hl hl'
 have hrun:=run_make (P:=P) w t e i zv ht hi hz k1 k2 m m (by omega) (by omega) hb (by omega)
 rw[hzc,hk,Int.toNat_natCast,uz zl m h0 h1] at hrun
 have hrun:(execOp (Go.Proofs.YtdilpodccjlkgaaGreatDoor.ev ρ) (Oper.mk (some d) (.makeSlice t x y) ty pos af none)).run P w=.ok (.value (.slice (some ⟨w.heap.size,0,none⟩) m m)) (w.alloc (.cells (List.replicate m zl).flatten.toArray e)):=by
  simp[execOp,hx,hy,hrun]
 rw[hrun]
 obtain ⟨J,e1,hle,e2,htop⟩:=hj (some w.heap.size,m)
 have hrep:RepL J (List.replicate m (zl.map lit)).flatten (List.replicate m zl).flatten:=by
  have:=eK J (List.replicate m zl).flatten
  rwa [List.map_flatten,List.map_replicate] at this
 have hS':=hS.alloc (.cells (List.replicate m zl).flatten.toArray e)
 refine q6 (fun _ _=>q7 hle) _ _ _ (kk j J F _ _ ((g1.mono hle).upd d ⟨_,m,e2,rfl⟩) ⟨htop,_,⟨[(w.heap.size,.cells (List.replicate m zl).flatten.toArray e (0,0))],L,rfl,⟨some w.heap.size,m,m,_,e2,hrep,(fun u hu=>by
  obtain ⟨r,hr,hu⟩:=List.mem_flatten.1 hu
  rw[List.eq_of_mem_replicate hr] at hu
  exact h1 u hu),fS.made (by simp[Nat.mul_comm])⟩,hL.mono hle⟩,by rw[e1];exact hS'⟩)
end
theorem uA {α:Type} {k:Nat}:∀{rows:List (List α)} {j:Nat} {r:List α},(∀x∈rows,x.length=k)→j<rows.length→r.length=k→rows.flatten.take (j*k)++r++rows.flatten.drop (j*k+k)=(rows.set j r).flatten
 |[],j,r,_,h,_=>by simp at h
 |x::rows,0,r,hk,_,hr=>by
  have:=hk x (.head _)
  rw[List.set_cons_zero,List.flatten_cons,List.flatten_cons]
  rw[Nat.zero_mul,List.take_zero,List.nil_append,Nat.zero_add,←this,List.drop_left]
 |x::rows,j+1,r,hk,h,hr=>by
  have hx:=hk x (.head _)
  have ih:=uA (rows:=rows) (j:=j) (r:=r) (fun y hy=>hk y (.tail _ hy)) (by simpa using h) hr
  rw[List.set_cons_succ,List.flatten_cons,List.flatten_cons,←ih,Nat.add_mul,Nat.one_mul]
  have e1:(x++rows.flatten).take (j*k+k)=x++rows.flatten.take (j*k):=by
   rw[List.take_append,List.take_of_length_le (by omega),hx,Nat.add_sub_cancel]
  have e2:(x++rows.flatten).drop (j*k+k+k)=rows.flatten.drop (j*k+k):=by
   rw[List.drop_append,List.drop_eq_nil_of_le (by omega),hx,List.nil_append];congr 1;omega
  rw[e1,e2]
  simp only[qv]
end Go.Proofs.YtdilpodccjlkgaaGreatDoor
namespace Go.Proofs.YtdilpodccjlkgaaGreatDoor
open Go.Proofs.Tryz
def AF (b:Nat) (T:TypeId) (vs:List Value):bA:=.heap fun L=>L=[(b,.cells vs.toArray T (0,0))]
def Er (b off n c:Nat):AV:=.raw (.slice (some ⟨b,off,none⟩) n c)
section
variable {E:World} {P:Program} {ops:Array Oper} {K:aR→OL→Prop} {env:aR} {O O' O'':OL} {rest:List Oper}
variable {d ty:Nat} {pos:String} {af:Array Edge} {x y z:Operand} {t u e T:TypeId}
theorem az.makeRow {i:TypeInfo} {zv z1:Value} {m:Nat} {k1 k2:IntKind} {l l':Int} (ht:P.underlying t=some (.slice e)) (hi:P.info? e=some i) (hz:i.zero=some zv) (hzc:zv.cells=#[z1]) (hk:i.size=1) (hx:aV env x=.int k1 l) (hy:aV env y=.int k2 l')
  (hl:l=(m:Int)) (hl':l'=(m:Int)) (hb:(i.bytes:Int)*(m:Int)≤281474976710656) (hm:m≤281474976710656) (kk:∀b,az P E ops K rest (bq env d (Er b 0 m m)) ((0,AF b e (List.replicate m z1))::O)) :
  az P E ops K (Oper.mk (some d) (.makeSlice t x y) ty pos af none::rest) env O:=fun I F ρ w h1 h2=>by
 obtain ⟨htop,L,hL,hS⟩:=h2
 refine bZ.make1 ht hi hz hzc hk (fK h1 hx) (fK h1 hy) hl hl' hb hm hS fun b w' hS'=>?_
 exact kk b I F _ _ (h1.upd d rfl) ⟨htop,_,⟨[(b,.cells (List.replicate m z1).toArray e (0,0))],L,rfl,rfl,hL⟩,by simpa using hS'⟩
theorem Gv.rowLo {b n c j:Nat} {a:Int} (ht:P.underlying t=some (.slice e)) (hs:∀w,(sizeOf e).run P w=.ok 1 w) (hx:aV env x=Er b 0 n c) (hy:aV env y=.int .i64 a) (hi:a=(j:Int)) (hj:j≤n) (hc:j<c) (hnc:n≤c) :
  Gv P env O (Oper.mk (some d) (.slice t x (some y) none none) ty pos af none) (Er b j (n - j) (c - j)):=Gv.ofEv fun I ρ h=>by
 have h1:=fB h hx
 have h2:=fK h hy
 subst hi
 refine ⟨_,Z,fun w=>?_⟩
 have hcj:¬c=j:=by omega
 simp[execOp,Instr.sliceAt,Instr.slice,Instr.sliceBounds,Instr.sliceBound,asIntOf,Sem.run_bind,run_underlying ht,hs,h1,h2,hcj,hj,dz]
theorem Gv.rowHi {b n c j:Nat} {a:Int} (ht:P.underlying t=some (.slice e)) (hs:∀w,(sizeOf e).run P w=.ok 1 w) (hx:aV env x=Er b 0 n c) (hy:aV env y=.int .i64 a) (hi:a=(j:Int)) (hc:j≤c) :
  Gv P env O (Oper.mk (some d) (.slice t x none (some y) none) ty pos af none) (Er b 0 j c):=Gv.ofEv fun I ρ h=>by
 have h1:=fB h hx
 have h2:=fK h hy
 subst hi
 refine ⟨_,Z,fun w=>?_⟩
 simp[execOp,Instr.sliceAt,Instr.slice,Instr.sliceBounds,Instr.sliceBound,asIntOf,Sem.run_bind,run_underlying ht,hs,h1,h2,hc,dz]
theorem Gv.lenRow {b off m c:Nat} (ht:P.underlying t=some (.slice T)) (hx:aV env x=Er b off m c):Gv P env O (Oper.mk (some d) (.call { callee:=.builtin .len,args:=#[x],argTypes:=#[t] }) ty pos af none) (.int .i64 m):=Gv.ofEv fun I ρ h=>by
 have h1:=fB h hx
 exact ⟨_,rfl,fun w=>by simp[execOp,resolve,h1,invoke,builtin,Builtin.len_,run_underlying ht,goInt]⟩
theorem az.copyRow {b off dl dc sl q:Nat} {vs cs:List Value} {ty2:TypeId} (ht:P.underlying t=some (.slice e)) (hs:(P.info? e).map (·.size)=some 1) (hx:aV env x=Er b off dl dc)
  (hq:cs.length=q) (hmin:q=Nat.min sl dl) (hO:fR O 0 (AF b T vs) (AF b T (vs.take off++cs++vs.drop (off+q))) O') (hfit:off+q≤vs.length) (h1c:∀v∈cs,v.oneCell'=true)
  (hy:∀I F ρ w,eC I env ρ→gG I O F E w→∃a sc,ev ρ y=.slice (some a) sl sc∧∀j v,cs[j]?=some v→w.cell? (a.add j)=some v)
  (kk:az P E ops K rest (bq env d (.int .i64 q)) O') :
  az P E ops K (Oper.mk (some d) (.call { callee:=.builtin .copy,args:=#[x,y],argTypes:=#[t,ty2] }) ty pos af none::rest) env O:=fun I F ρ w h1 h2=>by
 obtain ⟨a,sc,ey,hsrc⟩:=hy I F ρ w h1 h2
 obtain ⟨htop,L,hL,hS⟩:=h2
 have ex:=fB h1 hx
 obtain ⟨A,B,hp,hA,hback⟩:=hO.rep hL
 have hA:A=[(b,.cells vs.toArray T (0,0))]:=hA
 subst hA
 have hS2:SL I.k ((b,.cells vs.toArray T (0,0))::(B++F)) E w:=hS.perm ((hp.append_right F).symm)
 have hrun:=run_copy_row (P:=P) w t ty2 ty e b off dl dc a sl sc vs.toArray T cs ht hs (hS2.own _ (.head _)) (by rw[hq,hmin]) hsrc (by simpa [hq] using hfit) h1c
 rw[hq] at hrun
 obtain ⟨L',h5,h6⟩:=hback (qf I) (A':=[(b,.cells (vs.take off++cs++vs.drop (off+q)).toArray T (0,0))]) rfl
 refine qn Z ?_
 unfold jH
 have hex:(execOp (Go.Proofs.YtdilpodccjlkgaaGreatDoor.ev ρ) (Oper.mk (some d) (.call { callee:=.builtin .copy,args:=#[x,y],argTypes:=#[t,ty2] }) ty pos af none)).run P w=.ok (.value (goInt q)) (w.setRow b (vs.take off++cs++vs.drop (off+q)).toArray):=by
  simp only[execOp,resolve]
  simp at hrun
  simp[invoke,builtin,ex,ey,hrun]
 rw[hex]
 refine kk I F _ _ (h1.upd d Z) ⟨htop,L',h5,?_⟩
 exact (hS2.turn1).perm (h6.append_right F)
theorem dJ.rowOwn {t b m:Nat} {vs:List Value} {O1:OL} {c:Code} {Q:Exit→aR→OL→Prop} {n:Nat} (hv:env t=Er b 0 m m) (hO:dA O 0 (AF b T vs) O1) (hm:vs.length=m) (hc:∀u∈vs,u.oneCell'=true)
  (h:∀i,dJ P E n c Q (bq env t (.own i m)) ((i,.grow 1 T (vs.map lit))::O1)):dJ P E n c Q env O:=fun I F ρ w h1 h2=>by
 obtain ⟨i,hi⟩:=h2.name
 obtain ⟨J,e1,hle,e2,htop⟩:=hi (some b,m)
 obtain ⟨_,L,hL,hS⟩:=h2
 obtain ⟨A,B,hp,hA,hB⟩:=hO.rep hL
 have hA:A=[(b,.cells vs.toArray T (0,0))]:=hA
 subst hA
 refine (h i J F ρ w (fun q=>?_) ⟨htop,_,⟨[(b,.cells vs.toArray T (0,0))],B,Z,⟨some b,m,m,vs,e2,eK J vs,hc,fS.made (by rw[hm,Nat.mul_one])⟩,hB.mono hle⟩,by rw[e1];exact hS.perm (hp.symm.append_right F)⟩).mono fun _ _ _=>mn.up hle
 unfold bq
 cases hb:Nat.beq q t with
 |false=>exact bp.mono hle _ _ (h1 q)
 |true=>
  have:q=t:=Nat.eq_of_beq_eq_true hb
  subst this
  have h4:=h1 q
  rw[hv] at h4
  exact ⟨some b,m,e2,h4⟩
end
end Go.Proofs.YtdilpodccjlkgaaGreatDoor
namespace Go.Proofs.YtdilpodccjlkgaaGreatDoor
open Go.Proofs.Tryz
section
variable {E:World} {P:Program} {env:aR} {O O' O'':OL}
theorem aS.knowIC {j off i m:Nat} {T T':TypeId} {cs:List AV} {l:List Int} (hO:dA O i (.grow 1 T (cI l)) O') (hP:fR O' j (.cells T' cs) (.cells T' (cs.set off (.fro 1 (l.map fun x=>[.int .i64 x])))) O'') (hc:cs[off]?=some (.own i m)) (hm:l.length=m):aS E env O env O'':=
 aS.knowC (rows:=l.map fun x=>[.int .i64 x]) (by rw[oF];exact hO) hP hc (fun r hr=>by obtain ⟨_,_,rfl⟩:=List.mem_map.1 hr;rfl) (by decide) (by rw[w1];exact hm)
theorem aS.nestBackN {α:Type} {c:fV α} {b j m i n:Nat} {T e:TypeId} {rows:List (List α)} {r:List α} (hn:r.length=n) (hP:dA O i (.grow c.k e (c.av r)) O') (hO:fR O' m (yJ c T e b rows j n i) (dv c T e b (rows.set j r)) O''):aS E env O env O'':=by subst hn;exact aS.nestBack hP hO
theorem aY.weak {f:FuncId} {args:List AV} {R:AV→OL→Prop} {y:AV} (h:aY P E f args [] R) (hr:∀x O,R x O→O=[]∧∀I v,bp I x v→bp I y v):aM P E f args y:=fun I F w vs h1 h2=>
 (h I F w vs h1 h2).mono fun v w' ⟨J,x,O',a,b,c,d⟩=>by
  obtain ⟨e,hv⟩:=hr x O' d
  subst e
  exact ⟨J,y,[],a,hv _ _ b,c,rfl⟩
theorem kh {tp te:TypeId} {j:TypeInfo} (a:Addr) (hp:P.underlying tp=some (.pointer te)) (hte:P.info? te=some j) (w:World) :
  (binOp .neq tp (.pointer (some a)) (.pointer none)).run P w=.ok (.bool true) w:=by
 have h:∀d:Nat,(Op.equalIn (d+1) tp (.pointer (some a)) (.pointer none)).run P w=.ok false w:=fun d=>by
  simp[Op.equalIn,run_underlying hp,sizeOf,typeInfo,hte]
 simp only[binOp]
 simp[Op.equal,Op.maxDepth,h 9999]
theorem og {tp te:TypeId} {j:TypeInfo} (a:Addr) (hp:P.underlying tp=some (.pointer te)) (hte:P.info? te=some j) (w:World) :
  (binOp .eql tp (.pointer (some a)) (.pointer none)).run P w=.ok (.bool false) w:=by
 have h:∀d:Nat,(Op.equalIn (d+1) tp (.pointer (some a)) (.pointer none)).run P w=.ok false w:=fun d=>by
  simp[Op.equalIn,run_underlying hp,sizeOf,typeInfo,hte]
 simp only[binOp]
 simp[Op.equal,Op.maxDepth,h 9999]
variable {d ty:Nat} {pos:String} {af:Array Edge} {x y z:Operand} {t u e T:TypeId}
theorem Gv.neqPf {cs:List AV} {j:TypeInfo} (hp:P.underlying t=some (.pointer e)) (hte:P.info? e=some j) (hx:aV env x=.pf cs):Gv P env O (Oper.mk (some d) (.binOp .neq t x (.const (.pointer none)) u) ty pos af none) (.bool true):=Gv.ofEv fun I ρ h=>by
 have h1:=h.ev x
 rw[hx] at h1
 obtain ⟨b,off,vs,e1,_⟩:=h1
 exact ⟨_,rfl,fun w=>by
  have e2:Go.Proofs.YtdilpodccjlkgaaGreatDoor.ev ρ (.const (.pointer none))=.pointer none:=rfl
  simp only[execOp,e1,e2];simp[eqGuard,kh _ hp hte]⟩
theorem Gv.neqPo {i off:Nat} {j:TypeInfo} (hp:P.underlying t=some (.pointer e)) (hte:P.info? e=some j) (hx:aV env x=.po i off):Gv P env O (Oper.mk (some d) (.binOp .neq t x (.const (.pointer none)) u) ty pos af none) (.bool true):=Gv.ofEv fun I ρ h=>by
 have h1:=h.ev x
 rw[hx] at h1
 obtain ⟨b,c,_,e1⟩:=h1
 exact ⟨_,rfl,fun w=>by
  have e2:Go.Proofs.YtdilpodccjlkgaaGreatDoor.ev ρ (.const (.pointer none))=.pointer none:=rfl
  simp only[execOp,e1,e2];simp[eqGuard,kh _ hp hte]⟩
theorem Gv.eqlPo {i off:Nat} {j:TypeInfo} (hp:P.underlying t=some (.pointer e)) (hte:P.info? e=some j) (hx:aV env x=.po i off):Gv P env O (Oper.mk (some d) (.binOp .eql t x (.const (.pointer none)) u) ty pos af none) (.bool false):=Gv.ofEv fun I ρ h=>by
 have h1:=h.ev x
 rw[hx] at h1
 obtain ⟨b,c,_,e1⟩:=h1
 exact ⟨_,rfl,fun w=>by
  have e2:Go.Proofs.YtdilpodccjlkgaaGreatDoor.ev ρ (.const (.pointer none))=.pointer none:=rfl
  simp only[execOp,e1,e2];simp[eqGuard,og _ hp hte]⟩
end
end Go.Proofs.YtdilpodccjlkgaaGreatDoor
namespace Go.Proofs.YtdilpodccjlkgaaGreatDoor
open Go.Proofs.Tryz
open Go.Proofs Go.Lib Go.Shelf Go.RowKit
theorem Ht:dB prog 261 #[(0,1),(1,1)] [.bool false,.int .i64 0]:=⟨_,_,Yw,zeroValue261,fun w=>by kernel_rfl,rfl⟩
variable {E:World}
set_option maxRecDepth 20000
def b8 (q:fI):List AV:=[.int .i64 q.a,.int .i64 q.b,.int .i64 q.c]
def fW (o:Option Int):List AV:=[.bool o.isSome,.int .i64 (o.getD 0)]
def yO (n:Nat) (l:List fI) (y:AV):AV:=.pf [.int .i64 n,.fro 3 (l.map b8),y]
theorem lg (n:Nat) (z y:AV) (a:Int):aM prog E 108 [.pf [.int .i64 n,z,y],.int .i64 a] (.bool (decide (0≤a∧a<n))):=by
 refine zp func108 Z (by decide) Z<|ai<|ab Z<|z6<|ai<|za (fc Z)<|za (Gv.neqPf underlying71 type136 Z)<|aj Z<|z8 Z Z Z<|aa Z<|z8 Z Z Z<|za (q5 Z Z)<|aw Z Z Z<|aj Z<|zq (s:=11) Z (fun c1=>?_) (fun c1=>?_)
 ·refine z8 Z Z c1<|aa Z<|z8 Z Z c1<|za (fc Z)<|z8 Z Z c1<|za (yk Z)<|z8 Z Z c1<|au Zn Z wz Z Z<|z8 Z Z c1<|aA j6 Z<|z8 Z Z c1<|ay Z Z<|aw Z c1 Z<|ab Z<|z6<|zg<|zn (x:=.bool _) Z ?_
  exact congrArg AV.bool (by simp_all<;>omega)
 ·refine z7 Z Z c1<|z7 Z Z c1<|z7 Z Z c1<|z7 Z Z c1<|z7 Z Z c1<|z7 Z Z c1<|ax Z c1 Z<|ab Z<|z6<|zg<|zn (x:=.bool _) Z ?_
  exact congrArg AV.bool (by simp_all<;>omega)
theorem iP (r:List (Option Int)):∀x∈r.map fW,x.length=2:=fun x hx=>by obtain ⟨o,_,rfl⟩:=List.mem_map.1 hx;rfl
theorem AG (l:List fI):∀x∈l.map b8,x.length=3:=fun x hx=>by obtain ⟨o,_,rfl⟩:=List.mem_map.1 hx;rfl
theorem Es (r:List (Option Int)):(r.map fW).flatten.length=r.length*2:=by
 induction r with
 |nil=>rfl
 |cons o r ih=>rw[List.map_cons,List.flatten_cons,qz,ih,List.length_cons];show 2+_=_;omega
theorem Et (r:List (Option Int)):(r.map fW).flatten.all AV.cell=true:=by
 induction r with
 |nil=>rfl
 |cons o r ih=>rw[List.map_cons,List.flatten_cons,List.all_append,ih];rfl
theorem pb {α:Type} {k:Nat}:∀{rows:List (List α)} {j i:Nat} {r:List α},(∀x∈rows,x.length=k)→rows[j]?=some r→i<k→rows.flatten[j*k+i]?=r[i]?
 |x::rows,0,i,r,hk,h,hi=>by
  cases h
  rw[List.flatten_cons,Nat.zero_mul,Nat.zero_add,List.getElem?_append_left (by rw[hk x (.head _)];exact hi)]
 |x::rows,j+1,i,r,hk,h,hi=>by
  have h1:=hk x (.head _)
  rw[List.flatten_cons,List.getElem?_append_right (by rw[h1,Nat.succ_mul];omega),h1,show (j+1)*k+i - k=j*k+i by rw[Nat.succ_mul];omega]
  exact pb (fun y hy=>hk y (.tail _ hy)) h hi
theorem yP {α:Type} {l:List α} {i:Nat} {a:α} (h:l[i]?=some a):l.drop i=a::l.drop (i+1):=by
 obtain ⟨h1,h2⟩:=List.getElem?_eq_some_iff.1 h
 rw[←h2];exact List.drop_eq_getElem_cons h1
theorem wM {r:List (Option Int)} {v:Int} {n:Nat} (hr:r.length=n) (hv:oD n v):r[v.toNat]?=some (jn r v):=by
 unfold oD at hv
 unfold jn
 rw[qt (by omega)];rfl
theorem FU {r:List (Option Int)} {v:Int} {n:Nat} (hr:r.length=n) (hv:oD n v):(r.map fW)[v.toNat]?=some (fW (jn r v)):=by rw[w2,wM hr hv];rfl
def s5 (l:List fI) (now:List (Option Int)) (g:Nat):List (Option Int) × Bool:=(l.take g).foldl (ru now) (now,false)
theorem Eu (l:List fI) (now:List (Option Int)) (g:Nat):(s5 l now g).1.length=now.length:=by unfold s5;rw[oT,oC]
theorem uB {l:List fI} {now:List (Option Int)} {g:Nat} {q:fI} (h:l[g]?=some q):s5 l now (g+1)=ru now (s5 l now g) q:=by unfold s5;rw[List.take_add_one,h,List.foldl_append];rfl
theorem Cs {k:Nat} (hk:k≤5) {r:List (Option Int)} (h:ob k r) (v:Int):-5764607523034234880≤(jn r v).getD 0∧(jn r v).getD 0≤5764607523034234880:=by
 cases e:jn r v with
 |none=>exact ⟨by decide,by decide⟩
 |some m=>
  have:=h v m e
  have h2:(k:Int)*bL≤5*bL:=Int.mul_le_mul_of_nonneg_right (by omega) (by decide)
  have e5:(5:Int)*bL=5764607523034234880:=by decide
  show -5764607523034234880≤m∧m≤5764607523034234880
  omega
theorem Ct {now next:List (Option Int)} {q:fI} (h:m0 now next q=true):∃s,jn now q.b=some s:=by
 unfold m0 at h
 cases e:jn now q.b with
 |none=>rw[e] at h;cases h
 |some s=>exact ⟨s,rfl⟩
theorem wN {now next:List (Option Int)} {q:fI} {u:Bool} (h:u=((jn now q.b).isSome&&(!(jn next q.a).isSome||decide ((jn now q.b).getD 0+q.c<(jn next q.a).getD 0)))):u=m0 now next q:=by
 rw[h]
 unfold m0
 cases jn now q.b with
 |none=>rfl
 |some s=>
  cases jn next q.a with
  |none=>rfl
  |some m=>simp
theorem AH (n:Nat) (l:List fI) (y:AV) (now:List (Option Int)) (k:Nat) (hk:k≤5) (hn:now.length=n) (hnn:n≤2000) (hl:∀q∈l,Cb n q∧(-bL≤q.c∧q.c≤bL)) (hll:l.length≤10000) (hs:ob k now) :
  aM prog E 187 [yO n l y,.fro 2 (now.map fW)] (.tup [.fro 2 ((oQ l now).map fW),.bool (Ao l now).2]):=by
 unfold yO
 refine zp func187 Z (by decide) Z<|ai<|za (jI Z)<|ab Z<|z6<|ai<|yj (k:=2) Yj type261<|fun i12=>be Z<|yu (k:=2) Yj type261 Z Z Z Z Z (fun _=>.head) (by simp) (by decide) (Et _) (by show (_+_)*16≤_;simp<;>omega) (by simp<;>omega)<|fun i14=>za (eD Z)<|ab Z<|z6<|zd<|ai<|za (fc Z)<|za (yk Z)<|au Zn Z Xg Z Z<|aI isAgg134 Z<|aq X4 Z<|aa Z<|z6<|zm<|y8 (γ:=Nat) [1,6,18,19] (fun g=>[(20,.int .i64 g),(7,.bool (s5 l now g).2)]) (fun g=>[(i14,.grow 2 261 ((s5 l now g).1.map fW).flatten)]) (fun g=>g≤l.length) (fun g=>l.length - g) 0 eo aH (qw _) ?_
 rintro g hg
 refine ai<|ay Z Z<|z6<|zd<|zt Z (fun cg=>?_) (fun cg=>?_)
 ·have hg2:g<l.length:=by simp at cg;omega
  obtain ⟨q,hq⟩:∃q,l[g]=q:=⟨_,rfl⟩
  have hgq:l[g]?=some q:=by rw[qt hg2,hq]
  have hqm:q∈l:=w4 hgq
  obtain ⟨⟨hqa,hqb⟩,hqc⟩:=hl q hqm
  have hfl:=Eu l now g
  have hrb:=FU hn hqb
  have hra:=FU (hfl.trans hn) hqa
  have hqa2:=hqa
  have hqb2:=hqb
  unfold oD at hqa2 hqb2
  have hcl:((s5 l now g).1.map fW).flatten.length=n*2:=by rw[Es,hfl,hn]
  have hs0:-5764607523034234880≤(jn now q.b).getD 0∧(jn now q.b).getD 0≤5764607523034234880:=Cs hk hs _
  unfold bL at hqc
  refine zi<|zd<|zm<|ai<|za (bv g X4 sizeOf180 Z Z Z hgq)<|ae isAgg180 sizeOf180 Z Z<|y7 (cs:=[.int .i64 0,.int .i64 0,.int .i64 0]) zeroValue180 Z Z<|fun i9=>y1 sizeOf180 Z Z Z Z Z Z .head Z<|z6<|ai<|be Z<|za (zf Xb Z wz (by decide) Z Z)<|za (zo (c:=.int _ _) j6 Z ⟨_,.head⟩ Z)<|za (bv q.b.toNat Yj X9 Z Z (by omega) (wM hn hqb))<|ae isAgg261 X9 Z Z<|y7 (cs:=[.bool false,.int .i64 0]) zeroValue261 Z Z<|fun i10=>y1 X9 Z Z Z Z Z Z .head Z<|z6<|ai<|za (zf Yw Z Z5 (by decide) Z Z)<|za (zo (c:=.int _ _) Zx Z ⟨_,.head⟩ Z)<|za (zf Xb Z Z5 (by decide) Z Z)<|za (zo (c:=.int _ _) Zx Z ⟨_,.t1⟩ Z)<|aE Z Z<|ao Z<|z6<|zd<|ye (γ:=Bool) [1,6,7,9,11,18,19,20] (fun u=>[(54,.bool u)]) (fun u=>[(i10,.cells 261 (fW (jn now q.b))),(i9,.cells 180 (b8 q)),(i14,.grow 2 261 ((s5 l now g).1.map fW).flatten)]) (fun u=>u=m0 now (s5 l now g).1 q) ?_ (fun _ _ h=>h) ?_
  ·refine aW<|za (zf Yw Z Z6 (by decide) Z Z)<|za (zo (c:=.bool _) Ym Z ⟨_,.head⟩ Z)<|aj Z<|zq (s:=36) Z (fun c2=>?_) (fun c2=>?_)
   ·refine z8 Z Z c2<|za (im Z)<|z8 Z Z c2<|za (zf Xb Z wz (by decide) Z Z)<|z8 Z Z c2<|za (zo (c:=.int _ _) j6 Z ⟨_,.t1⟩ Z)<|z8 Z Z c2<|za (Gv.idxO (j:=q.a.toNat) Yj X9 Z Z (by omega) ⟨_,.t2⟩ (fun h=>by rw[h] at hcl;simp at hcl;omega) (by rw[w1];omega))<|z8 Z Z c2<|za (zf Yw Z Z6 (by decide) Z Z)<|z8 Z Z c2<|za (Gv.load1G (c:=_) Ym Z ⟨_,.t2⟩ (yP (pb (i:=0) (iP _) hra (by decide))))<|z8 Z Z c2<|aC Z<|z8 Z Z c2<|aj Z<|zq (s:=44) Z (fun c3=>?_) (fun c3=>?_)
    ·refine z7 Z Z c3<|z7 Z Z c3<|z7 Z Z c3<|z7 Z Z c3<|z7 Z Z c3<|z7 Z Z c3<|z7 Z Z c3<|z7 Z Z c3<|z8 Z Z c2<|aw Z c3 Z<|aw Z c2 Z<|z6 ?_
     exact ⟨_,wH,aK,aH,wN (by simp_all)⟩
    ·refine z8 Z Z c3<|aa Z<|z8 Z Z c3<|za (im Z)<|z8 Z Z c3<|za (zf Xb Z wz (by decide) Z Z)<|z8 Z Z c3<|za (zo (c:=.int _ _) j6 Z ⟨_,.t1⟩ Z)<|z8 Z Z c3<|za (Gv.idxO (j:=q.a.toNat) Yj X9 Z Z (by omega) ⟨_,.t2⟩ (fun h=>by rw[h] at hcl;simp at hcl;omega) (by rw[w1];omega))<|z8 Z Z c3<|za (zf Yw Z Z5 (by decide) Z Z)<|z8 Z Z c3<|za (Gv.load1G (c:=_) Zx Z ⟨_,.t2⟩ (yP (pb (i:=1) (iP _) hra (by decide))))<|z8 Z Z c3<|ay Z Z<|z8 Z Z c2<|ax Z c3 Z<|aw Z c2 Z<|z6 ?_
     exact ⟨_,wH,aK,aH,wN (by simp_all)⟩
   ·refine z7 Z Z c2<|z7 Z Z c2<|z7 Z Z c2<|z7 Z Z c2<|z7 Z Z c2<|z7 Z Z c2<|z7 Z Z c2<|z7 Z Z c2<|zk Z Z<|zk Z Z<|zk Z Z<|zk Z Z<|zk Z Z<|zk Z Z<|zk Z Z<|zk Z Z<|z7 Z Z c2<|ax Z c2 Z<|z6 ?_
    exact ⟨_,wH,aK,aH,wN (by simp_all)⟩
  ·rintro u hu
   refine zy Z (fun cu=>?_) (fun cu=>?_)
   ·have hch:m0 now (s5 l now g).1 q=true:=by rw[←hu];exact cu
    obtain ⟨s0,hs0e⟩:=Ct hch
    have hnx:s5 l now (g+1)=((s5 l now g).1.set q.a.toNat (some ((jn now q.b).getD 0+q.c)),true):=by
     rw[uB hgq]
     unfold ru
     rw[Ef hs0e hch,hch,Bool.or_true,hs0e];rfl
    refine aW<|za (im Z)<|za (zf Xb Z wz (by decide) Z Z)<|za (zo (c:=.int _ _) j6 Z ⟨_,.t1⟩ Z)<|aa Z<|za (y3 (cps:=[(0,[_]),(1,[_])]) (rs:=[_,_]) Ht Z Z Z)<|za (Gv.idxO (j:=q.a.toNat) Yj X9 Z Z (by omega) ⟨_,.t2⟩ (fun h=>by rw[h] at hcl;simp at hcl;omega) (by rw[w1];omega))<|az.storeG (l:=[_,_]) (new:=((s5 l now (g+1)).1.map fW).flatten) X9 Z Z Z Z Z Z .t2 (by rw[hcl];show q.a.toNat*2+2≤_;omega) (by decide) (by rw[hnx,List.map_set];exact uA (iP _) (by rw[w1];omega) rfl)<|ab Z<|z6<|aW<|aE Z Z<|aa Z<|z6 ?_
    exact ⟨g+1,gH,⟨rfl,by rw[hnx];rfl,trivial⟩,⟨_,(.drop (.drop (.refl _))),rfl⟩,hg2,by omega⟩
   ·have hch:m0 now (s5 l now g).1 q=false:=by rw[←hu];simpa using cu
    have hnx:s5 l now (g+1)=s5 l now g:=by
     rw[uB hgq]
     unfold ru
     rw[wE hch,hch,Bool.or_false]
    refine zi<|aW<|aE Z Z<|aa Z<|z6 ?_
    exact ⟨g+1,gH,⟨rfl,by rw[hnx];rfl,trivial⟩,⟨_,(.drop (.drop (.refl _))),by rw[hnx]⟩,hg2,by omega⟩
 ·obtain rfl:g=l.length:=by simp at cg;omega
  have he:s5 l now l.length=Ao l now:=by unfold s5 Ao;rw[qy]
  have hf:=(sT l now).1
  rw[he,hf]
  refine y6<|ai<|za (im Z)<|aj Z<|za (eD Z)<|ab Z<|z6<|zg ?_
  repeat (first|refine gO ?_|refine fA ?_)
  refine y9 (aS.know (t:=4) (rows:=(oQ l now).map fW) Z .head (by exact iP _) (by decide) (by rw[w1];unfold oQ;rw[oC];simp))<|qd (x:=.fro _ _) (y:=.bool _) Z Z ?_
  rfl
set_option linter.defProp false
def yb:=@az.makeNest
def yd:=@aS.knowP
def yi:=@Gv.idxI
def yy:=@az.storeI
def yz:=@Gv.loadI
def qb:=@az.storeB
def qc:=@az.nestTake
def qg:=@az.makeI
def qp:=@Gv.idxN
def qq:=@az.nestPut
end Go.Proofs.YtdilpodccjlkgaaGreatDoor
