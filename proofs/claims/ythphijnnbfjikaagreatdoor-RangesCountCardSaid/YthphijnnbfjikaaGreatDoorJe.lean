/- Go's own turning of a slice of numbers in its place (sorted, reversed), told of what is owned. No conditions but bounds. -/
import Derived.Test.YthphijnnbfjikaaGreatDoorJd
import Derived.MapKept
import Derived.WideMake
import Derived.Laws.Cover4
import Derived.WideLaws
import Derived.Lib.AppendZeros
import Derived.Lib.Builder
import Derived.Lib.AppendStr
import Derived.Lib.UnsafeStr
import Derived.Laws.Externs
import Derived.Sort.Grow
set_option linter.unusedVariables false
set_option linter.unusedSimpArgs false
set_option linter.unusedSectionVars false
namespace Go.Proofs.YthphijnnbfjikaaGreatDoor
section
def iH (s:ByteArray):List (ByteArray × Int)→Option Int
 |[]=>none
 |(k,v)::es=>if s=k then some v else iH s es
def mD (s:ByteArray) (v:Int):List (ByteArray × Int)→List (ByteArray × Int)
 |[]=>[(s,v)]
 |(k,u)::es=>if s=k then (k,v)::es else (k,u)::mD s v es
def l5 (p:ByteArray × Int):Value × Value:=(.string p.1,.int .i64 p.2)
def H9 (b:Nat) (es:List (ByteArray × Int)) (L:List (Nat × Obj)):Prop:=∃(arr:Array MapEntry) (clock:Nat),L=[(b,.map arr clock)]∧arr.toList.map (fun e=>(e.key,e.val))=es.map l5
def yP (b:Nat) (es:List (ByteArray × Int)):bm:=.heap (H9 b es)
def gE (b:Nat):AV:=.raw (.map (some b))
theorem gS {s:ByteArray}:∀{l:List MapEntry} {es:List (ByteArray × Int)} {i:Nat},l.map (fun e=>(e.key,e.val))=es.map l5→iH s es=none→Instr.findNow .string (.string s) l i=some none
 |[],[],_,_,_=>rfl
 |[],_::_,_,h,_=>by cases h
 |_::_,[],_,h,_=>by cases h
 |e::l,(k,v)::es,i,h,hg=>by
  simp only[List.map_cons,List.cons.injEq,l5,Prod.mk.injEq] at h
  obtain ⟨⟨h1,_⟩,h2⟩:=h
  simp only[iH] at hg
  split at hg
  ·cases hg
  ·rename_i hne
   unfold Instr.findNow
   rw[h1]
   have:(s == k)=false:=Bool.eq_false_iff.2 fun h=>hne ((MapKept.bytes_beq s k).1 h)
   simp only[Instr.sameNow,this]
   exact gS h2 hg
theorem gT {s:ByteArray} {u:Int}:∀{l:List MapEntry} {es:List (ByteArray × Int)} {i:Nat},l.map (fun e=>(e.key,e.val))=es.map l5→iH s es=some u →
  ∃j,Instr.findNow .string (.string s) l i=some (some (i+j,.int .i64 u))∧(∃e,l[j]?=some e∧e.key=.string s)∧∀v,es.set j (s,v)=mD s v es
 |[],[],_,_,hg=>by cases hg
 |[],_::_,_,h,_=>by cases h
 |_::_,[],_,h,_=>by cases h
 |e::l,(k,v)::es,i,h,hg=>by
  simp only[List.map_cons,List.cons.injEq,l5,Prod.mk.injEq] at h
  obtain ⟨⟨h1,h3⟩,h2⟩:=h
  simp only[iH] at hg
  unfold Instr.findNow
  rw[h1]
  split at hg
  ·rename_i heq
   subst heq
   cases hg
   refine ⟨0,?_,⟨e,Z,h1⟩,fun v=>?_⟩
   ·have hss:(s == s)=true:=(MapKept.bytes_beq s s).2 rfl
    simp only[Instr.sameNow,hss]
    rw[h3];rfl
   ·simp[mD]
  ·rename_i hne
   have hb:(s == k)=false:=Bool.eq_false_iff.2 fun h=>hne ((MapKept.bytes_beq s k).1 h)
   obtain ⟨j,g1,g2,g3⟩:=gT (i:=i+1) h2 hg
   refine ⟨j+1,?_,by simpa using g2,fun v=>?_⟩
   ·simp only[Instr.sameNow,hb,g1]
    congr 3;omega
   ·simp[mD,hne,g3]
section
variable {E:World} {P:Program} {n:Nat} {ops:Array Oper} {K:aH→OL→Prop} {env:aH} {O O':OL} {rest:List Oper}
variable {d ty:Nat} {pos:String} {af:Array Edge} {t e kt:TypeId} {x y z:Operand} {b i:Nat} {es:List (ByteArray × Int)}
theorem ai.makeMap (k:∀b,ai P E ops K rest (bp env d (gE b)) ((0,yP b [])::O)):ai P E ops K (Oper.mk (some d) (.makeMap t none) ty pos af none::rest) env O:=fun I F ρ w h1 ⟨ht,L,hL,hS⟩=>by
 refine qi Z ?_
 unfold dQ
 have:(execOp (Go.Proofs.YthphijnnbfjikaaGreatDoor.ev ρ) (Oper.mk (some d) (.makeMap t none) ty pos af none)).run P w=.ok (.value (.map (some w.heap.size))) (w.alloc (.map #[] 0)):=by
  simp only[execOp,Option.map_none]
  rw[Sem.run_bind,run_makeMap_plain];rfl
 rw[this]
 exact k w.heap.size I F _ _ (h1.upd d rfl) ⟨ht,(w.heap.size,.map #[] 0)::L,⟨[_],L,rfl,⟨#[],0,rfl,rfl⟩,hL⟩,hS.alloc _⟩
theorem Fp {I:G} {L:List (Nat × Obj)} (hO:o6 O i (yP b es)) (hL:bH I O L):∃(arr:Array MapEntry) (clock:Nat),(b,Obj.map arr clock)∈L∧arr.toList.map (fun e=>(e.key,e.val))=es.map l5:=by
 obtain ⟨O',hO⟩:=hO
 obtain ⟨A,B,hp,⟨arr,clock,rfl,h2⟩,_⟩:=hO.rep hL
 exact ⟨arr,clock,hp.mem_iff.2 (by simp),h2⟩
theorem ai.mapSet {s:ByteArray} {v:Int} (ht:P.underlying t=some (.map kt e)) (hk:P.underlying kt=some .string) (hx:aP env x=gE b) (hy:aP env y=.str s) (hz:aP env z=.int .i64 v) (hO:eR O i (yP b es) (yP b (mD s v es)) O')
  (k:ai P E ops K rest env O'):ai P E ops K (Oper.mk none (.mapUpdate t x y z) ty pos af none::rest) env O:=fun I F ρ w h1 ⟨htop,L,hL,hS⟩=>by
 have hx:=fA h1 hx
 have hy:=Fc h1 hy
 have hz:=fz h1 hz
 obtain ⟨A,B,hp,⟨arr,clock,rfl,he⟩,hback⟩:=hO.rep hL
 have hS2:SL I.k ((b,.map arr clock)::(B++F)) E w:=hS.perm ((hp.append_right F).symm)
 have hb:=hS2.own _ (.head _)
 simp only at hb
 have hc:(Instr.checkKey false 10000 kt (.string s)).run P w=.ok () w:=MapKept.run_checkKey (k:=.string s) hk (by simp[MapKept.IsKey]) false 9999
 have fin:∀(arr':Array MapEntry) (clock':Nat),arr'.toList.map (fun e=>(e.key,e.val))=(mD s v es).map l5 →
   (execOp (Go.Proofs.YthphijnnbfjikaaGreatDoor.ev ρ) (Oper.mk none (.mapUpdate t x y z) ty pos af none)).run P w=.ok .skip { w with heap:=w.heap.setIfInBounds b (.map arr' clock') }→bx P ops (eS I F E K) (Oper.mk none (.mapUpdate t x y z) ty pos af none::rest) ρ w:=fun arr' clock' he' hrun=>by
  refine qi Z ?_
  unfold dQ
  rw[hrun]
  obtain ⟨L',h7,h8⟩:=hback (G.le.refl I) (A':=[(b,.map arr' clock')]) ⟨arr',clock',rfl,he'⟩
  have hh:=MapKept.heap_set (o':=.map arr' clock') hb
  have hS3:SL I.k ((b,.map arr' clock')::(B++F)) E { w with heap:=w.heap.setIfInBounds b (.map arr' clock') }:=hS2.turn rfl rfl rfl hh.1 hh.2
  exact k I F ρ _ h1 ⟨htop,L',h7,hS3.perm (h8.append_right F)⟩
 cases hg:iH s es with
 |none=>
  have hf:=gS (i:=0) he hg
  refine fin (arr.push { key:=.string s,val:=.int .i64 v,born:=clock }) (clock+1) ?_ ?_
  ·have hset:∀es:List (ByteArray × Int),iH s es=none→mD s v es=es++[(s,v)]:=fun es=>by
    induction es with
    |nil=>intro _;rfl
    |cons x es ih=>
     obtain ⟨k,u⟩:=x
     intro hg
     simp only[iH] at hg
     split at hg
     ·cases hg
     ·rename_i hne;simp[mD,hne,ih hg]
   rw[hset es hg]
   simp[he,l5]
  ·simp[execOp,hx,hy,hz,Instr.mapUpdate,run_underlying ht,MapKept.run_getObj_map hb,hc,MapKept.run_findKey hk hf,MapKept.run_setObj_map _ hb,Result.andThen]
 |some u=>
  obtain ⟨j,hf,⟨e0,hj,hkey⟩,hset⟩:=gT (i:=0) he hg
  rw[Nat.zero_add] at hf
  have hj':arr[j]?=some e0:=by rw[←Array.getElem?_toList];exact hj
  refine fin (arr.modify j fun e=>{ e with key:=.string s,val:=.int .i64 v }) clock ?_ ?_
  ·rw[←hset v,List.map_set]
   have hjl:j<arr.toList.length:=(List.getElem?_eq_some_iff.1 hj).1
   have:(arr.modify j fun e=>{ e with key:=.string s,val:=.int .i64 v }).toList=arr.toList.set j { e0 with key:=.string s,val:=.int .i64 v }:=by
    apply List.ext_getElem?
    intro q
    rw[Array.getElem?_toList,Array.getElem?_modify]
    by_cases hq:j=q
    ·subst hq
     rw[if_pos rfl,hj',List.getElem?_set_self hjl];rfl
    ·rw[if_neg hq,List.getElem?_set_ne hq,Array.getElem?_toList]
   rw[this,List.map_set,he];rfl
  ·have hkeep:(Instr.keyThatStays (.string s) (.string s)).run P w=.ok (.string s) w:=by
    have hss:(s == s)=true:=(MapKept.bytes_beq s s).2 rfl
    simp[Instr.keyThatStays,Instr.sameBits,hss]
   simp[execOp,hx,hy,hz,Instr.mapUpdate,run_underlying ht,MapKept.run_getObj_map hb,hc,MapKept.run_findKey hk hf,MapKept.run_setObj_map _ hb,Result.andThen,hj',hkey,hkeep]
end
end
section
section
variable {E:World} {P:Program} {n:Nat} {ops:Array Oper} {K:aH→OL→Prop} {env:aH} {O O':OL} {rest:List Oper} {R:AV→OL→Prop}
variable {d ty:Nat} {pos:String} {af:Array Edge} {t e:TypeId} {x y:Operand}
theorem re {b off n:Nat} {vs:List Value} {T:TypeId} {old:List Value} {w:World} (hn:vs.length=n) (h1c:∀u∈vs,u.oneCell'=true) (hb:off+n≤old.length) (hown:w.heap[b]?=some (.cells old.toArray T (0,0))) :
  (storeCells (⟨b,off,none⟩:Addr) vs 0).run P w=.ok () (w.setRow b (old.take off++vs++old.drop (off+n)).toArray):=by
 rw[run_storeCells_at (P:=P) b off T vs 0 old.toArray w hown (by simp;omega) h1c]
 simp[hn]
end
end
section
section
variable {E:World} {P:Program} {env:aH} {O:OL} {d ty:Nat} {pos:String} {af:Array Edge} {x:Operand} {t u:TypeId}
end
end
section
section
variable {E:World} {P:Program} {ops:Array Oper} {K:aH→OL→Prop} {env:aH} {O O' O'':OL} {rest:List Oper} {n:Nat}
variable {d ty:Nat} {pos:String} {af:Array Edge} {x y z:Operand} {t u e:TypeId}
theorem yQ {A row:List AV} {j:Nat} {c:AV} (h:row[j]?=some c):(A++row).drop (A.length+j)=c::row.drop (j+1):=by
 obtain ⟨hj,rfl⟩:=List.getElem?_eq_some_iff.1 h
 rw[List.drop_append,List.drop_eq_nil_of_le (by omega),Nat.add_sub_cancel_left,List.nil_append]
 exact List.drop_eq_getElem_cons hj
theorem Gv.loadL {i off j k:Nat} {T:TypeId} {c:AV} {A row:List AV} (ha:∀w,(isAgg t).run P w=.ok false w) (hx:aP env x=.po i off) (hoff:off=A.length+j) (hO:o6 O i (.grow k T (A++row))) (hv:row[j]?=some c) :
  Gv P env O (Oper.mk (some d) (.load t x) ty pos af none) c:=Gv.load1G ha hx hO (by subst hoff;exact yQ hv)
theorem ai.storeL {i off j m k:Nat} {T:TypeId} {v:AV} {A row l new:List AV} (hs:∀w,(sizeOf t).run P w=.ok m w) (hx:aP env x=.po i off) (hoff:off=A.length+j) (hy:aP env y=v) (hv:v.sto=true) (hl:v.cs=l) (hl1:l.all AV.cell=true) (hn:l.length=m)
  (hO:eR O i (.grow k T (A++row)) (.grow k T (A++new)) O') (hb:Nat.ble (j+m) row.length=true) (hm:Nat.ble 1 m=true) (hnew:row.take j++l++row.drop (j+m)=new) (kk:ai P E ops K rest env O'):ai P E ops K (Oper.mk none (.store t x y) ty pos af none::rest) env O:=
 ai.storeG hs hx hy hv hl hl1 hn hO (by have:=Nat.le_of_ble_eq_true hb;rw[qp];omega) (Nat.le_of_ble_eq_true hm) (by
  have:=Nat.le_of_ble_eq_true hb
  subst hoff hnew
  rw[List.take_append,List.take_of_length_le (by omega:A.length≤A.length+j),Nat.add_sub_cancel_left,List.drop_append,List.drop_eq_nil_of_le (by omega:A.length≤A.length+j+m),Nat.add_assoc,Nat.add_sub_cancel_left]
  simp) kk
theorem Gv.idxOL {i n k j r:Nat} {a:Int} {T:TypeId} {cs:List AV} (ht:P.underlying t=some (.slice e)) (hs:∀w,(sizeOf e).run P w=.ok k w) (hx:aP env x=.own i n) (hy:aP env y=.int .i64 a) (hi:a=(j:Int)) (hO:o6 O i (.grow k T cs)) (hne:cs≠[]) (hj:j<n) (hr:j*k=r) :
  Gv P env O (Oper.mk (some d) (.indexAddr t x y) ty pos af none) (.po i r):=hr▸Gv.idxO ht hs hx hy hi hO hne hj
end
section
variable {P:Program} {E:World} {l:List Oper} {W:Nat→Bool} {fuel:Nat} {listed:Array Bool} {d ty:Nat} {op:Op} {pos:String} {af:Array Edge}
end
theorem aN.knowP {E:World} {env:aH} {O O':OL} {t i:Nat} {T:TypeId} {cs:List AV} (hv:env t=.po i 0) (hO:cz O i (.cells T cs) O'):aN E env O (bp env t (.pf cs)) O':=fun I F ρ w h1 ⟨ht,L,hL,hS⟩=>by
 obtain ⟨A,B,hp,⟨b,c,vs,e1,hvs,hvc,rfl⟩,hB⟩:=hO.rep hL
 simp only at e1
 have hS2:SL I.k ((b,.cells vs.toArray T (0,0))::(B++F)) E w:=hS.perm ((hp.append_right F).symm)
 obtain ⟨hl,hS3⟩:=SL.freeze hS2
 let J:G:=⟨I.k.put b (.cells vs.toArray T (0,0)),I.h⟩
 have hle:I.le J:=⟨hl,fun _ _ h=>h⟩
 refine ⟨J,hle,fun s=>?_,ht,B,hB.mono hle,hS3⟩
 unfold bp
 cases hb:Nat.beq s t with
 |false=>exact br.mono hle _ _ (h1 s)
 |true=>
  have:s=t:=Nat.eq_of_beq_eq_true hb
  subst this
  have h2:=h1 s
  rw[hv] at h2
  obtain ⟨b2,c2,e2,e3⟩:=h2
  rw[e1] at e2
  simp only[Option.some.injEq,Prod.mk.injEq] at e2
  obtain ⟨rfl,rfl⟩:=e2
  exact ⟨b,0,vs,e3,RepL.mono hle _ _ hvs,fun j u hj=>⟨_,_,_,aC.put_same _ _ _,by rw[Nat.zero_add,List.getElem?_toArray];exact hj⟩⟩
end
section
section
variable {E:World} {P:Program} {ops:Array Oper} {K:aH→OL→Prop} {env:aH} {O O':OL} {rest:List Oper}
variable {d ty:Nat} {pos:String} {af:Array Edge} {x y z:Operand} {t u e:TypeId}
end
end
section
section
variable {P:Program} {env:aH} {O:OL}
variable {d ty:Nat} {pos:String} {af:Array Edge} {x y:Operand}
theorem Gv.maxI {ts:Array TypeId} {k:IntKind} {a b:Int} (hx:aP env x=.int k a) (hy:aP env y=.int k b):Gv P env O (Oper.mk (some d) (.call { callee:=.builtin .max,args:=#[x,y],argTypes:=ts }) ty pos af none) (.int k (if b>a then b else a)):=qb fun I ρ h=>⟨_,rfl,fun w=>by
 simp[execOp,resolve,fz h hx,fz h hy,invoke,builtin,Builtin.max_,Builtin.max2,Result.andThen]⟩
theorem Gv.minI {ts:Array TypeId} {k:IntKind} {a b:Int} (hx:aP env x=.int k a) (hy:aP env y=.int k b):Gv P env O (Oper.mk (some d) (.call { callee:=.builtin .min,args:=#[x,y],argTypes:=ts }) ty pos af none) (.int k (if b<a then b else a)):=qb fun I ρ h=>⟨_,rfl,fun w=>by
 simp[execOp,resolve,fz h hx,fz h hy,invoke,builtin,Builtin.min_,Builtin.min2,Result.andThen]⟩
end
end
section
open Go.Lib
section
variable {P:Program} {ops:Array Oper} {K:bG→World→Prop} {ρ:bG} {w:World} {rest:List Oper}
variable {d ty:Nat} {pos:String} {af:Array Edge} {x y z:Operand} {t u e:TypeId}
variable {I:aC} {O A:List (Nat × Obj)} {E:World}
end
section
variable {E:World} {P:Program} {ops:Array Oper} {K:aH→OL→Prop} {env:aH} {O O':OL} {rest:List Oper}
variable {d ty:Nat} {pos:String} {af:Array Edge} {x y z:Operand} {t u e:TypeId}
end
section
variable {E:World} {P:Program} {env:aH} {O:OL} {d ty:Nat} {pos:String} {af:Array Edge} {t e kt:TypeId} {x y:Operand} {b i:Nat} {es:List (ByteArray × Int)}
theorem Gv.lookup1S {s:ByteArray} (ht:P.underlying t=some (.map kt e)) (hk:P.underlying kt=some .string) (hz:∀w,(zeroValue e).run P w=.ok (.int .i64 0) w) (hx:aP env x=gE b) (hy:aP env y=.str s) (hO:o6 O i (yP b es)) :
  Gv P env O (Oper.mk (some d) (.lookup t x y false) ty pos af none) (.int .i64 ((iH s es).getD 0)):=fun I L E ρ h1 hL=>by
 obtain ⟨arr,clock,hm,he⟩:=Fp hO hL
 have hx:=fA h1 hx
 have hy:=Fc h1 hy
 refine ⟨.int .i64 ((iH s es).getD 0),Z,fun w J L' hl hS hin=>?_⟩
 have hb:=hS.own _ (hin _ hm)
 simp only at hb
 have hc:(Instr.checkKey arr.isEmpty 10000 kt (.string s)).run P w=.ok () w:=MapKept.run_checkKey (k:=.string s) hk (by simp[MapKept.IsKey]) _ 9999
 cases hg:iH s es with
 |none=>
  have hf:=gS (i:=0) he hg
  simp[execOp,Instr.lookup,run_underlying ht,hx,hy,MapKept.run_getObj_map hb,hc,MapKept.run_findKey hk hf,hz,Result.andThen]
 |some u=>
  obtain ⟨j,hf,_⟩:=gT (i:=0) he hg
  simp[execOp,Instr.lookup,run_underlying ht,hx,hy,MapKept.run_getObj_map hb,hc,MapKept.run_findKey hk hf,Result.andThen]
end
theorem sT (s v:ByteArray) (n:Int):∀es:List (ByteArray × Int),iH s (mD v n es)=if s=v then some n else iH s es
 |[]=>by simp only[mD,iH]
 |(k,u)::es=>by
  simp only[mD]
  split
  ·rename_i h;subst h;simp only[iH];split<;>rfl
  ·rename_i h
   simp only[iH,sT s v n es]
   split
   ·rename_i h2;subst h2;rw[if_neg (fun e=>h e.symm)]
   ·rfl
end
section
inductive Tr (α:Type) where
 |lf
 |nd (v:Option α) (l r:Tr α)
 deriving Inhabited
section
variable {α:Type}
inductive Pa where
 |e
 |l (p:Pa)
 |r (p:Pa)
 deriving DecidableEq
noncomputable def lb (n:Nat):Nat→Pa:=Nat.rec (motive:=fun _=>Nat→Pa) (fun _=>.e) (fun _ ih k=>Bool.rec (Bool.rec (.r (ih (Nat.sub (Nat.div k 2) 1))) (.l (ih (Nat.div k 2))) (Nat.beq (Nat.mod k 2) 1)) .e (Nat.beq k 0)) n
noncomputable def uQ (k:Nat):Pa:=lb (Nat.succ k) k
noncomputable def Tr.getP (p:Pa):Tr α→Option α:=Pa.rec (motive:=fun _=>Tr α→Option α) (fun t=>Tr.rec none (fun v _ _ _ _=>v) t) (fun _ ih t=>Tr.rec none (fun _ l _ _ _=>ih l) t) (fun _ ih t=>Tr.rec none (fun _ _ r _ _=>ih r) t) p
noncomputable def Tr.setP (p:Pa):Tr α→Option α→Tr α:=Pa.rec (motive:=fun _=>Tr α→Option α→Tr α) (fun t v=>Tr.rec (.nd v .lf .lf) (fun _ l r _ _=>.nd v l r) t) (fun _ ih t v=>Tr.rec (.nd none (ih .lf v) .lf) (fun u l r _ _=>.nd u (ih l v) r) t) (fun _ ih t v=>Tr.rec (.nd none .lf (ih .lf v)) (fun u l r _ _=>.nd u l (ih r v)) t) p
noncomputable def Tr.get (t:Tr α) (k:Nat):Option α:=Tr.getP (uQ k) t
noncomputable def Tr.set (t:Tr α) (k:Nat) (v:Option α):Tr α:=Tr.setP (uQ k) t v
theorem wg {β:Type} (a b:Nat) (x y:β):(bif Nat.beq a b then x else y)=if a=b then x else y:=by
 by_cases h:a=b
 ·rw[if_pos h,h,show Nat.beq b b=true from Nat.beq_refl b];rfl
 ·rw[if_neg h,show Nat.beq a b=false from by cases e:Nat.beq a b<;>simp_all];rfl
def Pa.val:Pa→Nat
 |.e=>0
 |.l p=>2*p.val+1
 |.r p=>2*p.val+2
theorem lL:∀(n k:Nat),k<n→(lb n k).val=k
 |0,_,h=>absurd h (Nat.not_lt_zero _)
 |n+1,k,h=>by
  have e:lb (n+1) k=bif Nat.beq k 0 then Pa.e else bif Nat.beq (k % 2) 1 then Pa.l (lb n (k / 2)) else Pa.r (lb n (k / 2 - 1)):=by
   show (Bool.rec (Bool.rec (Pa.r (lb n (k / 2 - 1))) (Pa.l (lb n (k / 2))) (Nat.beq (k % 2) 1)) Pa.e (Nat.beq k 0):Pa)=_
   cases Nat.beq k 0<;>cases Nat.beq (k % 2) 1<;>rfl
  rw[e,wg,wg]
  by_cases h0:k=0
  ·rw[if_pos h0,h0];rfl
  ·rw[if_neg h0]
   by_cases h1:k % 2=1
   ·rw[if_pos h1]
    show 2*(lb n (k / 2)).val+1=k
    rw[lL n _ (by omega)];omega
   ·rw[if_neg h1]
    show 2*(lb n (k / 2 - 1)).val+2=k
    rw[lL n _ (by omega)];omega
theorem n5 (k:Nat):(uQ k).val=k:=lL (k+1) k (Nat.lt_succ_self k)
theorem Tr.getP_lf:∀p:Pa,Tr.getP p (Tr.lf:Tr α)=none
 |.e=>rfl
 |.l _=>rfl
 |.r _=>rfl
theorem Tr.get_lf (k:Nat):(Tr.lf:Tr α).get k=none:=Tr.getP_lf _
theorem Tr.getP_set:∀(p q:Pa) (t:Tr α) (v:Option α),Tr.getP q (Tr.setP p t v)=if q=p then v else Tr.getP q t
 |.e,.e,t,v=>by rw[if_pos rfl];cases t<;>rfl
 |.e,.l q,t,v=>by
  rw[if_neg (by simp)]
  cases t with
  |lf=>exact Tr.getP_lf q
  |nd=>rfl
 |.e,.r q,t,v=>by
  rw[if_neg (by simp)]
  cases t with
  |lf=>exact Tr.getP_lf q
  |nd=>rfl
 |.l p,.e,t,v=>by rw[if_neg (by simp)];cases t<;>rfl
 |.r p,.e,t,v=>by rw[if_neg (by simp)];cases t<;>rfl
 |.l p,.r q,t,v=>by
  rw[if_neg (by simp)]
  cases t with
  |lf=>exact Tr.getP_lf q
  |nd=>rfl
 |.r p,.l q,t,v=>by
  rw[if_neg (by simp)]
  cases t with
  |lf=>exact Tr.getP_lf q
  |nd=>rfl
 |.l p,.l q,t,v=>by
  have e:(Pa.l q=Pa.l p)=(q=p):=by simp
  simp only[e]
  cases t with
  |lf=>exact (Tr.getP_set p q .lf v).trans (by rw[Tr.getP_lf];rfl)
  |nd u l r=>exact Tr.getP_set p q l v
 |.r p,.r q,t,v=>by
  have e:(Pa.r q=Pa.r p)=(q=p):=by simp
  simp only[e]
  cases t with
  |lf=>exact (Tr.getP_set p q .lf v).trans (by rw[Tr.getP_lf];rfl)
  |nd u l r=>exact Tr.getP_set p q r v
theorem Tr.get_set (t:Tr α) (k:Nat) (v:Option α) (j:Nat):(t.set k v).get j=if j=k then v else t.get j:=by
 unfold Tr.get Tr.set
 rw[Tr.getP_set]
 by_cases h:j=k
 ·rw[if_pos h,if_pos (by rw[h])]
 ·rw[if_neg h,if_neg fun e=>h (by rw[←n5 j,←n5 k,e])]
end
inductive Cp where
 |ex (m:Nat)
 |en
 |un
inductive EV where
 |u
 |b (x:Bool)
 |i (k:IntKind) (n:Int)
 |s (x:ByteArray)
 |np
 |p (b off:Nat)
 |ns
 |sl (b off n k:Nat) (c:Cp)
 |ag (l:List EV)
 |tu (l:List EV)
 |fn (f:Nat) (a c:List EV)
 |nf
 |ifc (t:Nat) (v:EV)
 |ni
 |m (b:Nat)
 |nm
 |vr (b:Nat)
instance:Inhabited EV:=⟨.u⟩
structure lu where
 r:Nat
 sh:Nat
 κ:Nat
abbrev b7:=Nat→Option lu
def lu.num (q:lu):Int:=(q.r:Int) - (q.sh:Int)
def lu.ofI (n:Int):lu:=⟨n.toNat,(-n).toNat,0⟩
theorem lu.num_ofI (n:Int):(lu.ofI n).num=n:=by unfold lu.num lu.ofI;dsimp only;omega
def b7.le (φ ψ:b7):Prop:=∀b q,φ b=some q→ψ b=some q
theorem b7.le.refl (φ:b7):φ.le φ:=fun _ _ h=>h
theorem b7.le.trans {φ ψ χ:b7} (h:φ.le ψ) (k:ψ.le χ):φ.le χ:=fun b q e=>k b q (h b q e)
def b7.put (φ:b7) (b:Nat) (q:lu):b7:=fun x=>if x=b then some q else φ x
theorem b7.put_same (φ:b7) (b:Nat) (q:lu):φ.put b q b=some q:=if_pos rfl
theorem b7.le_put {φ:b7} {b:Nat} (h:φ b=none) (q:lu):φ.le (φ.put b q):=fun x q' e=>by
 unfold b7.put;split
 ·rename_i e';subst e';rw[h] at e;cases e
 ·exact e
def GL (q:lu) (off k:Nat):Cp→Nat→Prop
 |.ex m,cap=>cap=m
 |.en,cap=>q.sh+off+cap*k=q.κ
 |.un,_=>True
mutual
def aS (φ:b7):EV→Value→Prop
 |.u,_=>True
 |.b x,v=>v=.bool x
 |.i k n,v=>v=.int k n
 |.s x,v=>v=.string x
 |.np,v=>v=.pointer none
 |.p b off,v=>∃q,φ b=some q∧v=.pointer (some ⟨q.r,q.sh+off,none⟩)
 |.ns,v=>v=.slice none 0 0
 |.sl b off n k c,v=>∃q o cap,φ b=some q∧v=.slice (some ⟨q.r,o,none⟩) n cap∧n≤cap∧(cap≠0→o=q.sh+off)∧GL q off k c cap
 |.ag l,v=>∃vs:List Value,v=.agg vs.toArray∧RelVs φ l vs
 |.tu l,v=>∃vs:List Value,v=.tuple vs.toArray∧RelVs φ l vs
 |.fn f a c,v=>∃vs us:List Value,v=.func (.func f) vs.toArray us.toArray∧RelVs φ a vs∧RelVs φ c us
 |.nf,v=>v=.nilFunc
 |.ifc t x,v=>∃u,v=.iface t u∧aS φ x u
 |.ni,v=>v=.nilIface
 |.m b,v=>∃q,φ b=some q∧v=.map (some q.r)
 |.nm,v=>v=.map none
 |.vr b,v=>∃q,φ b=some q∧v=.int .i64 q.num
def RelVs (φ:b7):List EV→List Value→Prop
 |[],vs=>vs=[]
 |x::xs,vs=>∃v us,vs=v::us∧aS φ x v∧RelVs φ xs us
end
mutual
theorem aS.mono {φ ψ:b7} (h:φ.le ψ):∀(x:EV) (v:Value),aS φ x v→aS ψ x v
 |.u,_,_=>trivial
 |.b _,_,e=>e
 |.i _ _,_,e=>e
 |.s _,_,e=>e
 |.np,_,e=>e
 |.p _ _,_,⟨q,a,e⟩=>⟨q,h _ _ a,e⟩
 |.ns,_,e=>e
 |.sl _ _ _ _ _,_,⟨q,o,cap,a,e⟩=>⟨q,o,cap,h _ _ a,e⟩
 |.ag l,_,⟨vs,e,k⟩=>⟨vs,e,RelVs.mono h l vs k⟩
 |.tu l,_,⟨vs,e,k⟩=>⟨vs,e,RelVs.mono h l vs k⟩
 |.fn _ a c,_,⟨vs,us,e,k1,k2⟩=>⟨vs,us,e,RelVs.mono h a vs k1,RelVs.mono h c us k2⟩
 |.nf,_,e=>e
 |.ifc _ x,_,⟨u,e,k⟩=>⟨u,e,aS.mono h x u k⟩
 |.ni,_,e=>e
 |.m _,_,⟨q,a,e⟩=>⟨q,h _ _ a,e⟩
 |.nm,_,e=>e
 |.vr _,_,⟨q,a,e⟩=>⟨q,h _ _ a,e⟩
theorem RelVs.mono {φ ψ:b7} (h:φ.le ψ):∀(x:List EV) (v:List Value),RelVs φ x v→RelVs ψ x v
 |[],_,e=>e
 |x::xs,_,⟨v,us,e,h1,h2⟩=>⟨v,us,e,aS.mono h x v h1,RelVs.mono h xs us h2⟩
end
section
variable {φ ψ:b7}
theorem RelVs.length:∀{xs:List EV} {vs:List Value},RelVs φ xs vs→vs.length=xs.length
 |[],_,e=>by simp[RelVs] at e;simp[e]
 |x::xs,_,⟨v,us,e,_,h2⟩=>by subst e;simp[RelVs.length h2]
theorem RelVs.get:∀{xs:List EV} {vs:List Value},RelVs φ xs vs→∀{j:Nat} {x:EV},xs[j]?=some x→∃v,vs[j]?=some v∧aS φ x v
 |[],_,_,j,x,hj=>by simp at hj
 |y::ys,_,⟨v,us,e,h1,h2⟩,j,x,hj=>by
  subst e
  cases j with
  |zero=>simp at hj;subst hj;exact ⟨v,rfl,h1⟩
  |succ j=>simp at hj;simpa using RelVs.get h2 hj
theorem RelVs.take:∀{xs:List EV} {vs:List Value},RelVs φ xs vs→∀n,RelVs φ (xs.take n) (vs.take n)
 |[],_,e,n=>by simp[RelVs] at e;simp[e,RelVs]
 |y::ys,_,⟨v,us,e,h1,h2⟩,n=>by
  subst e
  cases n with
  |zero=>simp[RelVs]
  |succ n=>exact ⟨v,us.take n,by simp,h1,RelVs.take h2 n⟩
theorem RelVs.drop:∀{xs:List EV} {vs:List Value},RelVs φ xs vs→∀n,RelVs φ (xs.drop n) (vs.drop n)
 |[],_,e,n=>by simp[RelVs] at e;simp[e,RelVs]
 |y::ys,_,⟨v,us,e,h1,h2⟩,n=>by
  subst e
  cases n with
  |zero=>exact ⟨v,us,rfl,h1,h2⟩
  |succ n=>simpa using RelVs.drop h2 n
theorem RelVs.append:∀{xs ys:List EV} {vs us:List Value},RelVs φ xs vs→RelVs φ ys us→RelVs φ (xs++ys) (vs++us)
 |[],_,_,_,e,h=>by simp[RelVs] at e;simpa [e] using h
 |y::ys,_,_,_,⟨v,us,e,h1,h2⟩,h=>by subst e;exact ⟨v,_,rfl,h1,RelVs.append h2 h⟩
theorem RelVs.one {x:EV} {v:Value} (h:aS φ x v):RelVs φ [x] [v]:=⟨v,[],rfl,h,rfl⟩
def EV.cell:EV→Bool
 |.u | .ag _ | .tu _=>false
 |_=>true
theorem EV.cell_rel {x:EV} {v:Value} (h:aS φ x v) (hc:x.cell=true):v.oneCell'=true:=by
 cases x<;>simp only[aS,EV.cell] at h hc
 all_goals first
  |(cases hc;done)
  |(subst h;rfl)
  |(obtain ⟨_,_,_,_,e,_⟩:=h;subst e;rfl)
  |(obtain ⟨_,_,e,_⟩:=h;subst e;rfl)
  |(obtain ⟨_,e,_⟩:=h;subst e;rfl)
  |(obtain ⟨_,_,e⟩:=h;subst e;rfl)
theorem EV.cells_rel {xs:List EV} {vs:List Value} (h:RelVs φ xs vs) (hc:xs.all EV.cell=true):∀u∈vs,u.oneCell'=true:=by
 intro u hu
 obtain ⟨j,hj⟩:=List.getElem?_of_mem hu
 have hlt:=(List.getElem?_eq_some_iff.1 hj).1
 rw[h.length] at hlt
 obtain ⟨v,hv,hr⟩:=h.get (qj hlt)
 rw[hj] at hv;cases hv
 exact EV.cell_rel hr (List.all_eq_true.1 hc _ (qn hlt))
def EV.cs:EV→List EV
 |.ag l=>l
 |x=>[x]
def EV.sto:EV→Bool
 |.u | .tu _=>false
 |_=>true
theorem EV.cs_rel {x:EV} {v:Value} (h:aS φ x v) (hs:x.sto=true):RelVs φ x.cs v.cells.toList:=by
 cases x<;>simp only[EV.sto] at hs
 all_goals first
  |(cases hs;done)
  |(obtain ⟨vs,rfl,h2⟩:=h;simpa [EV.cs,Value.cells] using h2)
  |skip
 all_goals (
  have hc:=EV.cell_rel h rfl
  have hv:v.cells=#[v]:=by cases v<;>first|rfl|(simp[Value.oneCell'] at hc)
  rw[hv];exact RelVs.one h)
end
inductive VO where
 |cells (ex:Bool) (cs:List EV)
 |kn (cs:List EV)
 |it (s:ByteArray) (p:Nat)
 |mp (es:List (EV × EV))
abbrev Hp:=Tr VO
def cR (φ:b7):List (EV × EV)→List MapEntry→Prop
 |[],es=>es=[]
 |x::xs,es=>∃e r,es=e::r∧aS φ x.1 e.key∧aS φ x.2 e.val∧cR φ xs r
theorem cR.mono {φ ψ:b7} (h:φ.le ψ):∀{x:List (EV × EV)} {v:List MapEntry},cR φ x v→cR ψ x v
 |[],_,e=>e
 |_::_,_,⟨e,r,a,b,c,d⟩=>⟨e,r,a,b.mono h,c.mono h,cR.mono h d⟩
def mE (ms:List MapEntry):Prop:=∀(j:Nat) (e:MapEntry),ms[j]?=some e→e.born=j
def ft (I:aC) (φ:b7) (k:Nat) (o:VO) (A:List (Nat × Obj)):Prop:=
 match o with
 |.cells ex cs=>∃q T vs junk,φ k=some q∧q.sh=0∧RelVs φ cs vs∧(∀u∈vs++junk,u.oneCell'=true)∧(vs++junk).length=q.κ∧(ex=true→junk=[])∧A=[(q.r,.cells (vs++junk).toArray T (0,0))]
 |.kn cs=>∃q vs,φ k=some q∧RelVs φ cs vs∧(∀u∈vs,u.oneCell'=true)∧(∀(j:Nat) u,vs[j]?=some u→xU I q.r (q.sh+j) u)∧A=[]
 |.it s p=>∃q,φ k=some q∧q.sh=0∧A=[(q.r,.stringIter s p)]
 |.mp es=>∃q ms,φ k=some q∧(cR φ es ms∧mE ms)∧A=[(q.r,.map ms.toArray ms.length)]
theorem ft.mono {I J:aC} {φ ψ:b7} (hI:I.le J) (h:φ.le ψ) {k:Nat} {o:VO} {A:List (Nat × Obj)} (hb:ft I φ k o A):ft J ψ k o A:=by
 cases o<;>simp only[ft] at *
 ·obtain ⟨q,T,vs,junk,h1,h2,h3,h4⟩:=hb;exact ⟨q,T,vs,junk,h _ _ h1,h2,h3.mono h,h4⟩
 ·obtain ⟨q,vs,h1,h2,h3,h4,h5⟩:=hb;exact ⟨q,vs,h _ _ h1,h2.mono h,h3,fun j u e=>(h4 j u e).mono hI,h5⟩
 ·obtain ⟨q,h1,h2⟩:=hb;exact ⟨q,h _ _ h1,h2⟩
 ·obtain ⟨q,ms,h1,h2,h3⟩:=hb;exact ⟨q,ms,h _ _ h1,⟨h2.1.mono h,h2.2⟩,h3⟩
theorem ft.phi {I:aC} {φ:b7} {k:Nat} {o:VO} {A:List (Nat × Obj)} (hb:ft I φ k o A):∃q,φ k=some q:=by
 cases o<;>simp only[ft] at hb
 ·obtain ⟨q,T,vs,junk,h1,_⟩:=hb;exact ⟨q,h1⟩
 ·obtain ⟨q,vs,h1,_⟩:=hb;exact ⟨q,h1⟩
 ·obtain ⟨q,h1,_⟩:=hb;exact ⟨q,h1⟩
 ·obtain ⟨q,ms,h1,_⟩:=hb;exact ⟨q,h1⟩
def fV (I:aC) (φ:b7):List (Nat × VO)→List (Nat × Obj)→Prop
 |[],L=>L=[]
 |x::xs,L=>∃A B,L=A++B∧ft I φ x.1 x.2 A∧fV I φ xs B
theorem fV.mono {I J:aC} {φ ψ:b7} (hI:I.le J) (h:φ.le ψ):∀{M:List (Nat × VO)} {L:List (Nat × Obj)},fV I φ M L→fV J ψ M L
 |[],_,e=>e
 |_::_,_,⟨A,B,e,h1,h2⟩=>⟨A,B,e,h1.mono hI h,fV.mono hI h h2⟩
theorem fV.perm {I:aC} {φ:b7} {M M':List (Nat × VO)} (h:M.Perm M'):∀{L},fV I φ M L→∃L',fV I φ M' L'∧L.Perm L':=by
 induction h with
 |nil=>exact fun h=>⟨_,h,.refl _⟩
 |cons x _ ih=>
  rintro L ⟨A,B,rfl,h1,h2⟩
  obtain ⟨B',h3,h4⟩:=ih h2
  exact ⟨A++B',⟨A,B',rfl,h1,h3⟩,h4.append_left A⟩
 |swap x y _=>
  rintro L ⟨A,B,rfl,h1,C,D,rfl,h2,h3⟩
  exact ⟨C++(A++D),⟨C,A++D,rfl,h2,A,D,rfl,h1,h3⟩,by
   rw[←ql,←ql]
   exact List.perm_append_comm.append_right D⟩
 |trans _ _ ih1 ih2=>
  intro L h
  obtain ⟨L1,h1,p1⟩:=ih1 h
  obtain ⟨L2,h2,p2⟩:=ih2 h1
  exact ⟨L2,h2,p1.trans p2⟩
theorem fV.phi {I:aC} {φ:b7}:∀{M:List (Nat × VO)} {L:List (Nat × Obj)},fV I φ M L→∀x∈M,∃q,φ x.1=some q
 |_::_,_,⟨_,_,_,h1,h2⟩,x,hx=>by
  rcases List.mem_cons.1 hx with rfl|hx
  ·exact h1.phi
  ·exact fV.phi h2 x hx
def o8 (I:aC) (φ:b7) (H:Hp) (k:Nat) (L:List (Nat × Obj)):Prop:=
 ∃M,(M.map (·.1)).Nodup∧(∀j o,(j,o)∈M↔j≠k∧H.get j=some o)∧fV I φ M L
structure cT (I:aC) (φ:b7) (H:Hp) (nx:Nat) (F:List (Nat × Obj)) (E w:World):Prop where
 top:∀j,nx≤j→φ j=none
 ex:∃M L,(M.map (·.1)).Nodup∧(∀j o,(j,o)∈M↔H.get j=some o)∧fV I φ M L∧SL I (L++F) E w
section
variable {I J:aC} {φ ψ:b7} {H:Hp} {nx:Nat} {F:List (Nat × Obj)} {E w:World} {k:Nat} {o:VO} {L A:List (Nat × Obj)}
theorem o8.mono (hI:I.le J) (h:φ.le ψ) (hr:o8 I φ H k L):o8 J ψ H k L:=let ⟨M,a,b,c⟩:=hr;⟨M,a,b,c.mono hI h⟩
theorem cT.pick (h:cT I φ H nx F E w) (hk:H.get k=some o):∃A L,ft I φ k o A∧o8 I φ H k L∧SL I (A++(L++F)) E w:=by
 obtain ⟨M,L,hn,hm,hr,hS⟩:=h.ex
 have hmem:=(hm k o).2 hk
 obtain ⟨M1,M2,rfl⟩:=List.append_of_mem hmem
 obtain ⟨L',hr',hp⟩:=hr.perm (M':=(k,o)::(M1++M2)) List.perm_middle
 obtain ⟨A,B,rfl,h1,h2⟩:=hr'
 have hn2:(((k,o)::(M1++M2)).map (·.1)).Nodup:=((List.perm_middle (a:=(k,o)) (l₁:=M1) (l₂:=M2)).map (·.1)).nodup_iff.1 hn
 simp only[List.map_cons,List.nodup_cons] at hn2
 refine ⟨A,B,h1,⟨M1++M2,hn2.2,fun j o'=>?_,h2⟩,hS.perm ?_⟩
 ·rw[←hm j o']
  constructor
  ·intro hj
   refine ⟨fun e=>hn2.1 (List.mem_map.2 ⟨(j,o'),hj,e⟩),?_⟩
   rw[(List.perm_middle (a:=(k,o)) (l₁:=M1) (l₂:=M2)).mem_iff]
   exact List.mem_cons_of_mem _ hj
  ·rintro ⟨hne,hj⟩
   rw[(List.perm_middle (a:=(k,o)) (l₁:=M1) (l₂:=M2)).mem_iff] at hj
   rcases List.mem_cons.1 hj with e|hj
   ·cases e;exact absurd rfl hne
   ·exact hj
 ·rw[←ql];exact (hp.append_right F).symm
theorem cT.close (hr:o8 I φ H k L) (hb:ft I φ k o A) (hS:SL I (A++(L++F)) E w) (ht:∀j,nx≤j→φ j=none):cT I φ (H.set k (some o)) nx F E w:=by
 obtain ⟨M,hn,hm,hr⟩:=hr
 refine ⟨ht,(k,o)::M,A++L,?_,fun j o'=>?_,⟨A,L,Z,hb,hr⟩,by rw[ql];exact hS⟩
 ·simp only[List.map_cons,List.nodup_cons]
  refine ⟨fun hk=>?_,hn⟩
  obtain ⟨x,hx,e⟩:=List.mem_map.1 hk
  exact ((hm x.1 x.2).1 hx).1 e
 ·rw[Tr.get_set,List.mem_cons,hm j o']
  by_cases e:j=k
  ·rw[if_pos e];subst e;simp[eq_comm]
  ·rw[if_neg e];simp[e]
theorem cT.gone (hr:o8 I φ H k L) (hS:SL I (L++F) E w) (ht:∀j,nx≤j→φ j=none):cT I φ (H.set k none) nx F E w:=by
 obtain ⟨M,hn,hm,hr⟩:=hr
 refine ⟨ht,M,L,hn,fun j o'=>?_,hr,hS⟩
 rw[Tr.get_set,hm j o']
 by_cases e:j=k
 ·rw[if_pos e];simp[e]
 ·rw[if_neg e];simp[e]
theorem cT.mono (h:cT I φ H nx F E w) {n':Nat} (hn:nx≤n'):cT I φ H n' F E w:=⟨fun j hj=>h.top j (Nat.le_trans hn hj),h.ex⟩
theorem cT.drew (h:cT I φ H nx F E w):cT I φ H nx F E w.drew:=let ⟨M,L,a,b,c,d⟩:=h.ex;⟨h.top,M,L,a,b,c,d.drew⟩
theorem cT.sl (h:cT I φ H nx F E w):SL I F E w:=let ⟨_,_,_,_,_,d⟩:=h.ex;d.dropAll
def VO.cs?:VO→Option (List EV)
 |.cells _ cs=>some cs
 |.kn cs=>some cs
 |_=>none
theorem cT.read (h:cT I φ H nx F E w) (hk:H.get k=some o) {cs:List EV} (hc:o.cs?=some cs) {q:lu} (hq:φ k=some q) :
  ∃vs,RelVs φ cs vs∧(∀u∈vs,u.oneCell'=true)∧∀(j:Nat) v,vs[j]?=some v→w.cell? ⟨q.r,q.sh+j,none⟩=some v:=by
 obtain ⟨A,L,hb,_,hS⟩:=h.pick hk
 cases o<;>simp only[VO.cs?] at hc
 ·cases hc
  obtain ⟨q',T,vs,junk,h1,h2,h3,h4,h5,h6,rfl⟩:=hb
  rw[hq] at h1;cases h1
  refine ⟨vs,h3,fun u hu=>h4 u (List.mem_append_left _ hu),fun j v hj=>?_⟩
  rw[SL.cell_own (c:=(vs++junk).toArray) (T:=T) (f:=(0,0)) (O:=L++F) hS,h2,Nat.zero_add,List.getElem?_toArray,List.getElem?_append_left (List.getElem?_eq_some_iff.1 hj).1]
  exact hj
 ·cases hc
  obtain ⟨q',vs,h1,h2,h3,h4,rfl⟩:=hb
  rw[hq] at h1;cases h1
  exact ⟨vs,h2,h3,fun j v hj=>hS.at_ ((h4 j v hj).at_ _)⟩
 ·cases hc
 ·cases hc
end
def eA (φ:b7) (g:Nat→EV) (ρ:bG):Prop:=∀t,aS φ (g t) (ρ t)
theorem eA.mono {φ ψ:b7} (h:φ.le ψ) {g:Nat→EV} {ρ:bG} (hr:eA φ g ρ):eA ψ g ρ:=fun t=>(hr t).mono h
end
section
structure TI where
 d:TypeDesc
 size:Nat
 bytes:Nat
 z:List EV
 v:EV
 g:Bool
 q:Bool
 ms:String→Option Nat
 mi:Array (String × TypeId)→Bool
def BB:TypeDesc→Bool
 |.struct _=>true
 |.array _ _=>true
 |_=>false
structure rf (P:Program) (t:TypeId) (i:TI):Prop where
 und:P.underlying t=some i.d
 inf:∃f zv,P.info? t=some f∧f.size=i.size∧f.bytes=i.bytes∧f.zero=some zv∧(∀φ,RelVs φ i.z zv.cells.toList)∧∀φ,aS φ i.v zv
 z1:i.z.all EV.cell=true
 zl:i.z.length=i.size
 gd:i.g=true→P.eqGuardType P.depth t=false
 qd:i.q=true→P.stoodInHeld t=false∧∀fs,i.d=.struct fs→∀f∈fs.toList,f.name≠"_"
 mt:∀nm f,i.ms nm=some f→∀(k:Nat) (v:Value) (w:World),(method (k+1) t v nm).run P w=.ok (f,v) w
 md:∃f,P.info? t=some f∧∀want,(Instr.missingMethod want f.methods).isNone=i.mi want
abbrev TT:=Nat→Option TI
def cJ (P:Program) (T:TT):Prop:=∀t i,T t=some i→rf P t i
section
variable {P:Program} {t:TypeId} {i:TI} (h:rf P t i)
include h
theorem rf.sz (w:World):(sizeOf t).run P w=.ok i.size w:=by
 obtain ⟨f,zv,h1,h2,_⟩:=h.inf
 simp[sizeOf,typeInfo,h1,h2]
theorem rf.agg (w:World):(isAgg t).run P w=.ok (BB i.d) w:=by
 unfold isAgg
 rw[Sem.run_bind,run_underlying h.und]
 cases i.d<;>rfl
theorem rf.zero:∃zv,(∀w,(zeroValue t).run P w=.ok zv w)∧(∀φ,RelVs φ i.z zv.cells.toList)∧zv.cells.size=i.size:=by
 obtain ⟨f,zv,h1,h2,h3,h4,h5⟩:=h.inf
 refine ⟨zv,fun w=>by simp[zeroValue,typeInfo,h1,h4],h5.1,?_⟩
 have:=(h5.1 (fun _=>none)).length
 rw[h.zl] at this
 simpa using this
theorem rf.zeroV:∃zv,(∀w,(zeroValue t).run P w=.ok zv w)∧∀φ,aS φ i.v zv:=by
 obtain ⟨f,zv,h1,h2,h3,h4,h5⟩:=h.inf
 exact ⟨zv,fun w=>by simp[zeroValue,typeInfo,h1,h4],h5.2⟩
end
section
variable {φ:b7}
theorem RelVs.r1 {x:EV} {a:Value} (h:RelVs φ [x] [a]):aS φ x a:=by
 obtain ⟨v,us,e,h1,h2⟩:=h;cases e;exact h1
end
def rg (a b:ByteArray):Bool:=beqL a.data.toList b.data.toList
where
 beqL:List UInt8→List UInt8→Bool
  |[],[]=>true
  |x::l,y::m=>Nat.beq x.toNat y.toNat&&beqL l m
  |_,_=>false
theorem wh:∀(a b:List UInt8),rg.beqL a b=decide (a=b)
 |[],[]=>rfl
 |[],_::_=>rfl
 |_::_,[]=>rfl
 |x::l,y::m=>by
  unfold rg.beqL
  rw[wh l m]
  by_cases h:x=y
  ·subst h
   rw[show Nat.beq x.toNat x.toNat=true from Nat.beq_refl _]
   by_cases h2:l=m<;>simp[h2]
  ·have:Nat.beq x.toNat y.toNat=false:=by
    cases e:Nat.beq x.toNat y.toNat with
    |false=>rfl
    |true=>exact absurd (UInt8.toNat_inj.1 (Nat.eq_of_beq_eq_true e)) h
   rw[this];simp[h]
theorem jU (a b:ByteArray):rg a b=decide (a=b):=by
 unfold rg
 rw[wh]
 rw[decide_eq_decide]
 constructor
 ·intro h;cases a;cases b;simp only[ByteArray.mk.injEq];exact Array.toList_inj.1 h
 ·intro h;rw[h]
noncomputable def BC (op:BinOp) (k:IntKind) (a b:Int):Option EV:=
 match op with
 |.add=>some (.i k (k.wrap (a+b)))
 |.sub=>some (.i k (k.wrap (a - b)))
 |.mul=>some (.i k (k.wrap (a*b)))
 |.quo=>if b=0 then none else some (.i k (k.wrap (a.tdiv b)))
 |.rem=>if b=0 then none else some (.i k (a.tmod b))
 |.and=>some (.i k (k.wrap (BitVec.ofInt k.bits a &&& BitVec.ofInt k.bits b).toNat))
 |.or=>some (.i k (k.wrap (BitVec.ofInt k.bits a ||| BitVec.ofInt k.bits b).toNat))
 |.xor=>some (.i k (k.wrap (BitVec.ofInt k.bits a ^^^ BitVec.ofInt k.bits b).toNat))
 |.andNot=>some (.i k (k.wrap (BitVec.ofInt k.bits a &&& ~~~BitVec.ofInt k.bits b).toNat))
 |.eql=>some (.b (a == b))
 |.neq=>some (.b (a != b))
 |.lss=>some (.b (decide (a<b)))
 |.leq=>some (.b (decide (a≤b)))
 |.gtr=>some (.b (decide (b<a)))
 |.geq=>some (.b (decide (b≤a)))
 |.shl | .shr=>none
noncomputable def DD (op:BinOp) (k:IntKind) (a b:Int):Option EV:=
 if b<0 then none else
 match op with
 |.shl=>some (.i k (k.wrap (a*2 ^ min b.toNat k.bits)))
 |.shr=>some (.i k (a.fdiv (2 ^ min b.toNat k.bits)))
 |_=>none
noncomputable def BD (op:BinOp) (a b:ByteArray):Option EV:=
 match op with
 |.eql=>some (.b (rg a b))
 |.neq=>some (.b (!rg a b))
 |.add=>if Nat.ble (a.data.toList.length+b.data.toList.length) 1000000 then some (.s ⟨(a.data.toList++b.data.toList).toArray⟩) else none
 |_=>none
noncomputable def pM (d:TypeDesc) (x y:EV):Option Bool:=
 match d,x,y with
 |.pointer _,.np,.np=>some true
 |.pointer _,.p _ _,.np=>some false
 |.slice _,.ns,.ns=>some true
 |.slice _,.sl _ _ _ _ _,.ns=>some false
 |.map _ _,.nm,.nm=>some true
 |.map _ _,.m _,.nm=>some false
 |_,_,_=>none
noncomputable def wi (T:TT) (op:BinOp) (t:TypeId) (o:Operand) (x y:EV):Option EV:=
 match x,y with
 |.i k a,.i k' b=>match op with
  |.shl=>DD .shl k a b
  |.shr=>DD .shr k a b
  |_=>if k=k' then BC op k a b else none
 |.s a,.s b=>BD op a b
 |.b a,.b b=>match op,(T t).map (·.d) with
  |.eql,some TypeDesc.bool=>some (.b (a == b))
  |.neq,some TypeDesc.bool=>some (.b (!(a == b)))
  |_,_=>none
 |x,y=>match op,T t with
  |.eql,some i=>(pM i.d x y).map EV.b
  |.neq,some i=>(pM i.d x y).map fun z=>.b (!z)
  |_,_=>none
noncomputable def DE (op:UnOp) (x:EV):Option EV:=
 match op,x with
 |.not,.b a=>some (.b (!a))
 |.neg,.i k a=>some (.i k (k.wrap (0 - a)))
 |_,_=>none
section
variable {P:Program} {φ:b7} {ρ:bG} {w:World} {T:TT} {o:Oper} {t:TypeId}
theorem BE {op:BinOp} {k:IntKind} {a b:Int} {x:EV} (h:BC op k a b=some x):∃v,(binOp op t (.int k a) (.int k b)).run P w=.ok v w∧aS φ x v:=by
 cases op<;>simp only[BC] at h
 case quo=>split at h<;>first|(cases h;done)|(cases h;rename_i hb;exact ⟨_,by simp[binOp,Op.intDiv,hb],rfl⟩)
 case rem=>split at h<;>first|(cases h;done)|(cases h;rename_i hb;exact ⟨_,by simp[binOp,Op.intDiv,hb],rfl⟩)
 case shl=>cases h
 case shr=>cases h
 case add=>cases h;exact ⟨_,by rw[show binOp .add t (.int k a) (.int k b)=Op.intArith .add k a b by simp[binOp]];rfl,rfl⟩
 case sub=>cases h;exact ⟨_,by rw[show binOp .sub t (.int k a) (.int k b)=Op.intArith .sub k a b by simp[binOp]];rfl,rfl⟩
 case mul=>cases h;exact ⟨_,by rw[show binOp .mul t (.int k a) (.int k b)=Op.intArith .mul k a b by simp[binOp]];rfl,rfl⟩
 case and=>cases h;exact ⟨_,by rw[binOp_and];rfl,rfl⟩
 case or=>cases h;exact ⟨_,by rw[binOp_or];rfl,rfl⟩
 case xor=>cases h;exact ⟨_,by rw[binOp_xor];rfl,rfl⟩
 case andNot=>cases h;exact ⟨_,by rw[binOp_andNot];rfl,rfl⟩
 case eql=>cases h;exact ⟨_,by rw[binOp_eql];rfl,rfl⟩
 case neq=>cases h;exact ⟨_,by rw[binOp_neq];rfl,rfl⟩
 case lss=>cases h;exact ⟨_,by rw[binOp_lss];rfl,rfl⟩
 case leq=>cases h;exact ⟨_,by rw[binOp_leq];rfl,rfl⟩
 case gtr=>cases h;exact ⟨_,by rw[binOp_gtr];rfl,rfl⟩
 case geq=>cases h;exact ⟨_,by rw[binOp_geq];rfl,rfl⟩
theorem wj {op:BinOp} {k k':IntKind} {a b:Int} {x:EV} (ho:op=.shl∨op=.shr) (h:DD op k a b=some x):∃v,(binOp op t (.int k a) (.int k' b)).run P w=.ok v w∧aS φ x v:=by
 unfold DD at h
 split at h
 ·cases h
 ·rename_i hb
  rcases ho with rfl|rfl<;>(cases h;exact ⟨_,by simp[binOp,Op.shift,hb],rfl⟩)
theorem yR (a b:ByteArray):(⟨(a.data.toList++b.data.toList).toArray⟩:ByteArray)=a++b:=by
 have:(a++b).data=a.data++b.data:=ByteArray.data_append
 cases hab:a++b with
 |mk d=>
  rw[hab] at this
  simp only at this
  rw[this];congr 1;simp
theorem BF {op:BinOp} {a b:ByteArray} {x:EV} (h:BD op a b=some x):∃v,(binOp op t (.string a) (.string b)).run P w=.ok v w∧aS φ x v:=by
 cases op<;>simp only[BD] at h
 case add=>
  split at h
  ·rename_i hl
   cases h
   have hl:=Nat.le_of_ble_eq_true hl
   refine ⟨.string (a++b),?_,by rw[yR];rfl⟩
   have h2:¬((a.size+b.size:Nat):Int)>IntKind.i64.max:=by
    have e1:a.size=a.data.toList.length:=by rw[Array.length_toList];rfl
    have e2:b.size=b.data.toList.length:=by rw[Array.length_toList];rfl
    have:IntKind.i64.max=9223372036854775807:=by decide
    rw[this];omega
   simp only[binOp,Op.stringOp]
   rw[if_neg h2];rfl
  ·cases h
 case eql=>cases h;refine ⟨.bool (a.toList == b.toList),by rw[binOp_string_eql];rfl,?_⟩;show Value.bool _=Value.bool _;rw[kN,jU]
 case neq=>cases h;refine ⟨.bool (!a.toList == b.toList),by rw[binOp_string_neq];rfl,?_⟩;show Value.bool _=Value.bool _;rw[kN,jU]
 all_goals cases h
theorem sU {d:TypeDesc} {x y:EV} {a c:Value} {b:Bool} {op:BinOp} {p q:Operand} (h:pM d x y=some b) (hd:P.underlying t=some d) (hx:aS φ x a) (hy:aS φ y c) :
  (eqGuard op t p q a c).run P w=.ok () w∧(binOp .eql t a c).run P w=.ok (.bool b) w∧(binOp .neq t a c).run P w=.ok (.bool (!b)) w:=by
 unfold pM at h
 split at h
 case h_1 e=>
  have hx:a=.pointer none:=hx
  have hy:c=.pointer none:=hy
  have hp:P.pointee t=e:=by unfold Program.pointee;rw[hd]
  cases h;subst hx hy
  exact ⟨ic,run_eql_pointer_nil w t none (by rw[hp];exact hd),run_neq_pointer_nil w t none (by rw[hp];exact hd)⟩
 case h_2 e _ _=>
  obtain ⟨_,_,rfl⟩:=hx
  have hy:c=.pointer none:=hy
  have hp:P.pointee t=e:=by unfold Program.pointee;rw[hd]
  cases h;subst hy
  exact ⟨ic,run_eql_pointer_nil w t _ (by rw[hp];exact hd),run_neq_pointer_nil w t _ (by rw[hp];exact hd)⟩
 case h_3 e=>
  have hx:a=.slice none 0 0:=hx
  have hy:c=.slice none 0 0:=hy
  cases h;subst hx hy
  exact ⟨gq,Lib.run_eql_slice_nil w t e none 0 0 0 0 hd,run_neq_slice_nil_any w t e none 0 0 0 0 hd⟩
 case h_4 e _ _ _ _ _=>
  obtain ⟨_,_,_,_,rfl,_⟩:=hx
  have hy:c=.slice none 0 0:=hy
  cases h;subst hy
  exact ⟨gq,Lib.run_eql_slice_nil w t e _ _ _ 0 0 hd,run_neq_slice_nil_any w t e _ _ _ 0 0 hd⟩
 case h_5 k e=>
  have hx:a=.map none:=hx
  have hy:c=.map none:=hy
  cases h;subst hx hy
  exact ⟨by unfold eqGuard;cases op<;>rfl,run_eql_map_nil w t k e none hd,Go.run_neq_map_nil w t k e none hd⟩
 case h_6 k e _=>
  obtain ⟨_,_,rfl⟩:=hx
  have hy:c=.map none:=hy
  cases h;subst hy
  exact ⟨by unfold eqGuard;cases op<;>rfl,run_eql_map_nil w t k e _ hd,Go.run_neq_map_nil w t k e _ hd⟩
 case h_7=>cases h
theorem BG (hT:cJ P T) {op:BinOp} {p q:Operand} {x y z:EV} {a c:Value} (h:wi T op t q x y=some z) (hx:aS φ x a) (hy:aS φ y c) :
  ∃v,(do eqGuard op t p q a c;binOp op t a c:Sem Value).run P w=.ok v w∧aS φ z v:=by
 unfold wi at h
 split at h
 ·rename_i k a' k' b'
  have hx:a=.int k a':=hx
  have hy:c=.int k' b':=hy
  subst hx hy
  have hg:(eqGuard op t p q (.int k a') (.int k' b')).run P w=.ok () w:=by unfold eqGuard;cases op<;>rfl
  rw[Sem.run_bind,hg]
  split at h
  ·exact wj (.inl rfl) h
  ·exact wj (.inr rfl) h
  ·split at h
   ·rename_i e;subst e;exact BE h
   ·cases h
 ·rename_i a' b'
  have hx:a=.string a':=hx
  have hy:c=.string b':=hy
  subst hx hy
  rw[Sem.run_bind,fM]
  exact BF h
 ·rename_i a' b'
  have hx:a=.bool a':=hx
  have hy:c=.bool b':=hy
  subst hx hy
  rw[Sem.run_bind,gK]
  split at h
  ·rename_i hd
   cases h
   cases hi:T t with
   |none=>rw[hi] at hd;cases hd
   |some i=>
    rw[hi] at hd
    have hd2:=(hT t i hi).und
    simp only[Option.map_some,Option.some.injEq] at hd
    rw[hd] at hd2
    exact ⟨_,run_eql_bool w t a' b' hd2,rfl⟩
  ·rename_i hd
   cases h
   cases hi:T t with
   |none=>rw[hi] at hd;cases hd
   |some i=>
    rw[hi] at hd
    have hd2:=(hT t i hi).und
    simp only[Option.map_some,Option.some.injEq] at hd
    rw[hd] at hd2
    exact ⟨_,run_neq_bool w t a' b' hd2,rfl⟩
  ·cases h
 ·split at h
  ·rename_i i hi
   cases hn:pM i.d x y with
   |none=>rw[hn] at h;cases h
   |some b=>
    rw[hn] at h;cases h
    obtain ⟨h1,h2,_⟩:=sU (op:=.eql) (p:=p) (q:=q) (w:=w) hn (hT t i hi).und hx hy
    rw[Sem.run_bind,h1]
    exact ⟨_,h2,rfl⟩
  ·rename_i i hi
   cases hn:pM i.d x y with
   |none=>rw[hn] at h;cases h
   |some b=>
    rw[hn] at h;cases h
    obtain ⟨h1,_,h2⟩:=sU (op:=.neq) (p:=p) (q:=q) (w:=w) hn (hT t i hi).und hx hy
    rw[Sem.run_bind,h1]
    exact ⟨_,h2,rfl⟩
  ·cases h
theorem DF {op:UnOp} {x z:EV} {a:Value} (h:DE op x=some z) (hx:aS φ x a):∃v,(Op.unary op a).run P w=.ok v w∧aS φ z v:=by
 unfold DE at h
 split at h
 ·have hx:a=.bool _:=hx
  cases h;subst hx;exact ⟨_,rfl,rfl⟩
 ·have hx:a=.int _ _:=hx
  cases h;subst hx;exact ⟨_,by simp[Op.unary,Op.intArith],rfl⟩
 ·cases h
end
noncomputable def n6 (T:TT) (H:Hp) (t b off:Nat):Option EV:=
 match T t,(H.get b).bind VO.cs? with
 |some i,some cs=>bif BB i.d then (bif Nat.ble (off+i.size) cs.length then some (.ag ((cs.drop off).take i.size)) else none) else cs[off]?
 |_,_=>none
noncomputable def dG (T:TT) (t:TypeId) (cs:List EV) (off:Nat):Option EV:=
 match T t with
 |some i=>bif BB i.d then some (.ag ((cs.drop off).take i.size)) else cs[off]?
 |none=>none
def rh (T:TT) (t f:Nat):Option Field:=
 match T t with
 |some i=>match i.d with
  |.struct fs=>fs[f]?
  |_=>none
 |none=>none
noncomputable def mU (T:TT) (t f b off:Nat):Option EV:=
 match rh T t f with
 |some fd=>match T fd.type with
  |some i=>bif Nat.beq i.size 0 then none else some (.p b (off+fd.offset))
  |none=>none
 |none=>none
noncomputable def mV (T:TT) (t f:Nat) (cs:List EV):Option EV:=
 match rh T t f with
 |some fd=>dG T fd.type cs fd.offset
 |none=>none
def je (n:Int):Option Nat:=
 match n with
 |.ofNat j=>some j
 |_=>none
noncomputable def ri (T:TT) (t:Nat) (x:EV) (n:Int):Option EV:=
 match T t,je n with
 |some i,some j=>match i.d,x with
  |.slice e,.sl b off len _ _=>match T e with
   |some ie=>bif Nat.blt j len then some (.p b (off+j*ie.size)) else none
   |none=>none
  |.array len e,.p b off=>match T e with
   |some ie=>bif Nat.blt j len then some (.p b (off+j*ie.size)) else none
   |none=>none
  |_,_=>none
 |_,_=>none
noncomputable def wk (T:TT) (t:Nat) (x:EV) (n:Int):Option EV:=
 match T t,je n with
 |some i,some j=>match i.d,x with
  |.string,.s s=>(s.data.toList[j]?).map fun c=>.i .u8 c.toNat
  |.array len e,.ag cs=>match T e with
   |some ie=>bif Nat.blt j len then dG T e cs (j*ie.size) else none
   |none=>none
  |_,_=>none
 |_,_=>none
section
variable {P:Program} {φ:b7} {w:World} {T:TT} {I:aC} {H:Hp} {nx:Nat} {F:List (Nat × Obj)} {E:World}
theorem pN (hT:cJ P T) (hR:cT I φ H nx F E w) {t b off:Nat} {z:EV} {a:Value} (h:n6 T H t b off=some z) (hx:aS φ (.p b off) a) :
  ∃v,(Instr.loadAt t a).run P w=.ok v w∧aS φ z v:=by
 obtain ⟨q,hq,rfl⟩:=hx
 unfold n6 at h
 split at h
 ·rename_i i cs hi hc
  obtain ⟨o,ho,hoc⟩:=Option.bind_eq_some_iff.1 hc
  have hTi:=hT t i hi
  obtain ⟨vs,h1,h2,h3⟩:=hR.read ho hoc hq
  cases hd:BB i.d with
  |true=>
   rw[hd] at h
   simp only[cond_true] at h
   cases hb:Nat.ble (off+i.size) cs.length with
   |false=>rw[hb] at h;cases h
   |true=>
    rw[hb] at h;cases h
    have hb:=Nat.le_of_ble_eq_true hb
    have hl:((vs.drop off).take i.size).length=i.size:=by rw[List.length_take,List.length_drop,h1.length];omega
    refine ⟨.agg ((vs.drop off).take i.size).toArray,?_,_,Z,(h1.drop off).take i.size⟩
    have hrun:=ig (P:=P) (T:=t) (b:=q.r) (off:=q.sh+off) (cs:=(vs.drop off).take i.size) (w:=w) (fun w=>by rw[hTi.agg,hd]) (fun w=>by rw[hl];exact hTi.sz w) (fun j v hj=>by
     have hjl:=(List.getElem?_eq_some_iff.1 hj).1
     rw[hl] at hjl
     rw[List.getElem?_take_of_lt hjl,List.getElem?_drop] at hj
     rw[Nat.add_assoc];exact h3 _ _ hj)
    simp[Instr.loadAt,Instr.sureAddr,hrun]
  |false=>
   rw[hd] at h
   simp only[cond_false] at h
   obtain ⟨v,hv,hr⟩:=h1.get h
   refine ⟨v,?_,hr⟩
   have hrun:=mw (P:=P) (T:=t) (b:=q.r) (off:=q.sh+off) (v:=v) (w:=w) (fun w=>by rw[hTi.agg,hd]) (h3 _ _ hv)
   simp[Instr.loadAt,Instr.sureAddr,hrun]
 ·cases h
theorem e9 (hT:cJ P T) {t off:Nat} {cs:List EV} {vs:List Value} {z:EV} (h:dG T t cs off=some z) (hx:RelVs φ cs vs):∃v,(part t vs.toArray off).run P w=.ok v w∧aS φ z v:=by
 unfold dG at h
 split at h
 ·rename_i i hi
  have hTi:=hT t i hi
  cases hd:BB i.d with
  |true=>
   rw[hd] at h;cases h
   refine ⟨.agg ((vs.drop off).take i.size).toArray,?_,_,Z,(hx.drop off).take i.size⟩
   simp[part,hTi.agg,hd,hTi.sz]
  |false=>
   rw[hd] at h
   obtain ⟨v,hv,hr⟩:=hx.get h
   exact ⟨v,by simp[part,hTi.agg,hd,hv],hr⟩
 ·cases h
theorem pO (hT:cJ P T) {t f:Nat} {fd:Field} (h:rh T t f=some fd):∃fs,P.underlying t=some (.struct fs)∧fs[f]?=some fd:=by
 unfold rh at h
 split at h
 ·rename_i i hi
  split at h
  ·rename_i fs hd
   exact ⟨fs,hd▸(hT t i hi).und,h⟩
  ·cases h
 ·cases h
theorem uR (hT:cJ P T) {t f b off:Nat} {z:EV} {a:Value} (h:mU T t f b off=some z) (hx:aS φ (.p b off) a):∃v,(Instr.fieldAt t a f).run P w=.ok v w∧aS φ z v:=by
 obtain ⟨q,hq,rfl⟩:=hx
 unfold mU at h
 split at h
 ·rename_i fd hfd
  obtain ⟨fs,h1,h2⟩:=pO hT hfd
  split at h
  ·rename_i i hi
   have hTi:=hT _ i hi
   cases hz:Nat.beq i.size 0 with
   |true=>rw[hz] at h;cases h
   |false=>
    rw[hz] at h;cases h
    have hne:i.size≠0:=fun e=>by rw[e] at hz;cases hz
    refine ⟨.pointer (some ⟨q.r,q.sh+off+fd.offset,none⟩),?_,q,hq,by rw[Nat.add_assoc]⟩
    simp[Instr.fieldAt,run_underlying h1,h2,Instr.sureAddr,fieldPlace,hTi.sz,hne,bo]
  ·cases h
 ·cases h
theorem uS (hT:cJ P T) {t f:Nat} {cs:List EV} {z:EV} {a:Value} (h:mV T t f cs=some z) (hx:aS φ (.ag cs) a):∃v,(Instr.field t a f).run P w=.ok v w∧aS φ z v:=by
 obtain ⟨vs,rfl,hx⟩:=hx
 unfold mV at h
 split at h
 ·rename_i fd hfd
  obtain ⟨fs,h1,h2⟩:=pO hT hfd
  obtain ⟨v,h3,h4⟩:=e9 (w:=w) hT h hx
  refine ⟨v,?_,h4⟩
  simp[Instr.field,run_underlying h1,h2,asAgg,h3]
 ·cases h
theorem fW {n:Int} {j:Nat} (h:je n=some j):n=(j:Int):=by
 unfold je at h
 split at h
 ·cases h;rfl
 ·cases h
theorem yS (hT:cJ P T) {t:Nat} {x:EV} {k:IntKind} {n:Int} {z:EV} {a c:Value} (h:ri T t x n=some z) (hx:aS φ x a) (hy:aS φ (.i k n) c):∃v,(Instr.indexAt t a c).run P w=.ok v w∧aS φ z v:=by
 have hy:c=.int k n:=hy
 subst hy
 unfold ri at h
 split at h
 ·rename_i i j hi hj
  have hj:=fW hj
  subst hj
  have hTi:=hT t i hi
  split at h
  ·rename_i e b off len _ _ hd
   have hu:=hd▸hTi.und
   obtain ⟨q,o,cap,hq,rfl,h1,h2,_⟩:=hx
   split at h
   ·rename_i ie hie
    have hTe:=hT e ie hie
    cases hb:Nat.blt j len with
    |false=>rw[hb] at h;cases h
    |true=>
     rw[hb] at h;cases h
     have hb:j<len:=Nat.le_of_ble_eq_true hb
     have ho:=h2 (by omega)
     subst ho
     refine ⟨.pointer (some ⟨q.r,q.sh+off+j*ie.size,none⟩),?_,q,hq,by rw[Nat.add_assoc]⟩
     simp[Instr.indexAt,asIntOf,run_underlying hu,hTe.sz,hb,bo]
   ·cases h
  ·rename_i len e b off hd
   have hu:=hd▸hTi.und
   obtain ⟨q,hq,rfl⟩:=hx
   split at h
   ·rename_i ie hie
    have hTe:=hT e ie hie
    cases hb:Nat.blt j len with
    |false=>rw[hb] at h;cases h
    |true=>
     rw[hb] at h;cases h
     have hb:j<len:=Nat.le_of_ble_eq_true hb
     refine ⟨.pointer (some ⟨q.r,q.sh+off+j*ie.size,none⟩),?_,q,hq,by rw[Nat.add_assoc]⟩
     by_cases h1:len≤1
     ·simp[Instr.indexAt,asIntOf,run_underlying hu,hTe.sz,hb,bo,Instr.sureAddr,h1]
     ·simp[Instr.indexAt,asIntOf,run_underlying hu,hTe.sz,hb,bo,Instr.sureAddr,h1]
   ·cases h
  ·cases h
 ·cases h
theorem BH (hT:cJ P T) {t:Nat} {x:EV} {k:IntKind} {n:Int} {z:EV} {a c:Value} (h:wk T t x n=some z) (hx:aS φ x a) (hy:aS φ (.i k n) c):∃v,(Instr.index t a c).run P w=.ok v w∧aS φ z v:=by
 have hy:c=.int k n:=hy
 subst hy
 unfold wk at h
 split at h
 ·rename_i i j hi hj
  have hj:=fW hj
  subst hj
  have hTi:=hT t i hi
  split at h
  ·rename_i s hd
   have hu:=hd▸hTi.und
   have hx:a=.string s:=hx
   subst hx
   obtain ⟨c,hc,rfl⟩:=Option.map_eq_some_iff.1 h
   have hv:s.data[j]?=some c:=by rw[←hc];simp
   have hj:s[j]?=some c:=by
    obtain ⟨h1,h2⟩:=Array.getElem?_eq_some_iff.1 hv
    show (if h:j<s.size then some s[j] else none)=some c
    rw[dif_pos (show j<s.size from h1)];exact congrArg some h2
   exact ⟨.int .u8 c.toNat,by simp[Instr.index,asIntOf,run_underlying hu,hj],rfl⟩
  ·rename_i len e cs hd
   have hu:=hd▸hTi.und
   obtain ⟨vs,rfl,hx⟩:=hx
   split at h
   ·rename_i ie hie
    have hTe:=hT e ie hie
    cases hb:Nat.blt j len with
    |false=>rw[hb] at h;cases h
    |true=>
     rw[hb] at h
     have hb:j<len:=Nat.le_of_ble_eq_true hb
     obtain ⟨v,h3,h4⟩:=e9 (w:=w) hT h hx
     refine ⟨v,?_,h4⟩
     simp[Instr.index,asIntOf,run_underlying hu,hb,hTe.sz,h3]
   ·cases h
  ·cases h
 ·cases h
end
end
section
def uT:Option Value→Option Nat→Prop
 |none,none=>True
 |some v,some n=>∃k,v=.int k (n:Int)
 |_,_=>False
theorem eG {P:Program} {w:World} {k:IntKind} {n y:Nat} {c:BoundsCode} (h:n≤y):(Instr.sliceBound (.int k (n:Int)) y c).run P w=.ok n w:=by
 have:(0:Int)≤(n:Int)∧(n:Int)≤(y:Int):=by omega
 simp[Instr.sliceBound,asIntOf,this]
theorem jV {P:Program} {w:World} {s:Bool} {len cap:Nat} {lo hi mx:Option Value} {lo' hi' mx':Option Nat} (h1:uT lo lo') (h2:uT hi hi') (h3:uT mx mx') (hm:mx'.isSome=true→hi'.isSome=true)
  (c1:mx'.getD cap≤cap) (c2:hi'.getD len≤mx'.getD cap) (c3:lo'.getD 0≤hi'.getD len):(Instr.sliceBounds s len cap lo hi mx).run P w=.ok (lo'.getD 0,hi'.getD len,mx'.getD cap) w:=by
 cases mx with
 |some m=>
  cases mx' with
  |none=>exact h3.elim
  |some m'=>
   cases hi' with
   |none=>simp at hm
   |some g=>
    cases hi with
    |none=>exact h2.elim
    |some hv=>
     obtain ⟨k1,rfl⟩:=h3
     obtain ⟨k2,rfl⟩:=h2
     simp only[Option.getD_some] at c1 c2 c3 ⊢
     cases lo with
     |none=>
      cases lo' with
      |none=>simp only[Instr.sliceBounds,Sem.run_bind,eG c1,Result.andThen_ok,eG c2];simp
      |some _=>exact h1.elim
     |some l=>
      cases lo' with
      |none=>exact h1.elim
      |some l'=>
       obtain ⟨k3,rfl⟩:=h1
       simp only[Option.getD_some] at c3 ⊢
       simp only[Instr.sliceBounds,Sem.run_bind,eG c1,Result.andThen_ok,eG c2,eG c3];simp
 |none=>
  cases mx' with
  |some _=>exact h3.elim
  |none=>
   simp only[Option.getD_none] at c1 c2 ⊢
   cases hi with
   |none=>
    cases hi' with
    |some _=>exact h2.elim
    |none=>
     simp only[Option.getD_none] at c2 c3 ⊢
     cases lo with
     |none=>
      cases lo' with
      |none=>simp[Instr.sliceBounds]
      |some _=>exact h1.elim
     |some l=>
      cases lo' with
      |none=>exact h1.elim
      |some l'=>
       obtain ⟨k3,rfl⟩:=h1
       simp only[Option.getD_some] at c3 ⊢
       simp[Instr.sliceBounds,eG c3]
   |some hv=>
    cases hi' with
    |none=>exact h2.elim
    |some g=>
     obtain ⟨k2,rfl⟩:=h2
     simp only[Option.getD_some] at c2 c3 ⊢
     cases lo with
     |none=>
      cases lo' with
      |none=>simp[Instr.sliceBounds,eG c2]
      |some _=>exact h1.elim
     |some l=>
      cases lo' with
      |none=>exact h1.elim
      |some l'=>
       obtain ⟨k3,rfl⟩:=h1
       simp only[Option.getD_some] at c3 ⊢
       simp[Instr.sliceBounds,eG c2,eG c3]
theorem rj (s:ByteArray) (l h:Nat):s.extract l h=⟨((s.data.toList.drop l).take (h - l)).toArray⟩:=by
 have e:(s.extract l h).data=s.data.extract l h:=ByteArray.data_extract
 cases hx:s.extract l h with
 |mk d=>
  rw[hx] at e
  simp only at e
  rw[e];congr 1
  apply Array.toList_inj.1
  simp[List.extract_eq_take_drop]
def EN (k k' l:Nat) (mx:Option Nat) (c:Cp):Cp:=
 match mx,c with
 |some m,_=>.ex (m - l)
 |none,.ex m=>.ex (m - l)
 |none,.en=>bif Nat.beq k k' then .en else .un
 |none,.un=>.un
def n7 (len n:Nat):Cp→Bool
 |.ex m=>Nat.ble n m
 |_=>Nat.ble n len
noncomputable def DG (T:TT) (t:Nat) (x:EV) (lo hi mx:Option Nat):Option EV:=
 match T t with
 |some i=>match i.d,x with
  |.string,.s s=>match mx with
   |some _=>none
   |none=>bif Nat.ble (hi.getD s.data.toList.length) s.data.toList.length&&Nat.ble (lo.getD 0) (hi.getD s.data.toList.length) then some (.s ⟨((s.data.toList.drop (lo.getD 0)).take (hi.getD s.data.toList.length - lo.getD 0)).toArray⟩) else none
  |.slice e,.sl b off len k c=>match T e with
   |some ie=>bif (!mx.isSome||hi.isSome)&&(n7 len (hi.getD len) c&&(mx.elim true (fun m=>n7 len m c&&Nat.ble (hi.getD len) m)&&Nat.ble (lo.getD 0) (hi.getD len))) then
     some (.sl b (off+lo.getD 0*ie.size) (hi.getD len - lo.getD 0) k (EN k ie.size (lo.getD 0) mx c)) else none
   |none=>none
  |.slice e,.ns=>match T e,mx with
   |some _,none=>bif Nat.beq (hi.getD 0) 0&&Nat.beq (lo.getD 0) 0 then some .ns else none
   |_,_=>none
  |.array n e,.p b off=>match T e,mx with
   |some ie,none=>bif Nat.ble (hi.getD n) n&&Nat.ble (lo.getD 0) (hi.getD n) then some (.sl b (off+lo.getD 0*ie.size) (hi.getD n - lo.getD 0) ie.size (.ex (n - lo.getD 0))) else none
   |_,_=>none
  |_,_=>none
 |none=>none
section
variable {P:Program} {φ:b7} {w:World} {T:TT} {I:aC} {H:Hp} {nx:Nat} {F:List (Nat × Obj)} {E:World}
theorem pP {q:lu} {off k len n cap:Nat} {c:Cp} (h:n7 len n c=true) (hl:len≤cap) (hc:GL q off k c cap):n≤cap:=by
 cases c with
 |ex m=>
  have hc:cap=m:=hc
  have:=Nat.le_of_ble_eq_true h
  omega
 |en=>have:=Nat.le_of_ble_eq_true h;omega
 |un=>have:=Nat.le_of_ble_eq_true h;omega
theorem DH (hT:cJ P T) {t:Nat} {x z:EV} {a:Value} {lo hi mx:Option Value} {lo' hi' mx':Option Nat} (h:DG T t x lo' hi' mx'=some z) (hx:aS φ x a) (h1:uT lo lo') (h2:uT hi hi') (h3:uT mx mx') :
  ∃v,(Instr.sliceAt t a lo hi mx).run P w=.ok v w∧aS φ z v:=by
 unfold DG at h
 split at h
 ·rename_i i hi0
  have hTi:=hT t i hi0
  split at h
  ·rename_i s hd
   have hu:=hd▸hTi.und
   have hx:a=.string s:=hx
   subst hx
   split at h
   ·cases h
   ·have hm:mx=none:=by cases mx with
     |none=>rfl
     |some _=>exact h3.elim
    subst hm
    cases hb:(Nat.ble (hi'.getD s.data.toList.length) s.data.toList.length&&Nat.ble (lo'.getD 0) (hi'.getD s.data.toList.length)) with
    |false=>rw[hb] at h;cases h
    |true=>
     rw[hb] at h;cases h
     simp only[qu] at hb
     have b1:=Nat.le_of_ble_eq_true hb.1
     have b2:=Nat.le_of_ble_eq_true hb.2
     have es:s.size=s.data.toList.length:=by rw[Array.length_toList];rfl
     have hbd:=jV (P:=P) (w:=w) (s:=false) (len:=s.size) (cap:=s.size) h1 h2 (mx':=none) (mx:=none) trivial (by simp) (Nat.le_refl _) (by rw[es];exact b1) (by rw[es];exact b2)
     refine ⟨.string (s.extract (lo'.getD 0) (hi'.getD s.size)),?_,by rw[rj,es];rfl⟩
     simp only[Instr.sliceAt,Sem.run_bind,run_underlying hu,Result.andThen_ok,Instr.slice,Option.isSome_none,hbd]
     simp[hbd]
  ·rename_i e b off len k c hd
   have hu:=hd▸hTi.und
   obtain ⟨q,o,cap,hq,rfl,g1,g2,g3⟩:=hx
   split at h
   ·rename_i ie hie
    have hTe:=hT e ie hie
    cases hb:((!mx'.isSome||hi'.isSome)&&(n7 len (hi'.getD len) c&&(mx'.elim true (fun m=>n7 len m c&&Nat.ble (hi'.getD len) m)&&Nat.ble (lo'.getD 0) (hi'.getD len)))) with
    |false=>rw[hb] at h;cases h
    |true=>
     rw[hb] at h;cases h
     simp only[qu] at hb
     obtain ⟨b0,b1,b2,b3⟩:=hb
     have b1:=pP b1 g1 g3
     have b3:=Nat.le_of_ble_eq_true b3
     have hm:mx'.getD cap≤cap∧hi'.getD len≤mx'.getD cap∧(mx'.isSome=true→hi'.isSome=true):=by
      cases mx' with
      |none=>exact ⟨Nat.le_refl _,b1,fun h=>by cases h⟩
      |some m=>
       simp only[Option.elim_some,qu] at b2
       exact ⟨pP b2.1 g1 g3,Nat.le_of_ble_eq_true b2.2,fun _=>by simpa using b0⟩
     have hbd:=jV (P:=P) (w:=w) (s:=true) (len:=len) (cap:=cap) h1 h2 h3 hm.2.2 hm.1 hm.2.1 b3
     refine ⟨.slice (if mx'.getD cap=lo'.getD 0 then some ⟨q.r,o,none⟩ else (some ⟨q.r,o,none⟩:Option Addr).map (·.add (lo'.getD 0*ie.size))) (hi'.getD len - lo'.getD 0) (mx'.getD cap - lo'.getD 0),?_,q,?_⟩
     ·simp only[Instr.sliceAt,Sem.run_bind,run_underlying hu,Result.andThen_ok,Instr.slice,hbd,hTe.sz]
      simp
     ·refine ⟨if mx'.getD cap=lo'.getD 0 then o else o+lo'.getD 0*ie.size,mx'.getD cap - lo'.getD 0,hq,?_,by omega,fun hne=>?_,?_⟩
      ·split
       ·rfl
       ·simp[bo]
      ·rw[if_neg (by omega),g2 (by omega),Nat.add_assoc]
      ·cases mx' with
       |some m=>exact rfl
       |none=>
        simp only[Option.getD_none]
        cases c with
        |ex m=>exact congrArg (·- lo'.getD 0) (show cap=m from g3)
        |en=>
         unfold EN
         cases hk:Nat.beq k ie.size with
         |false=>trivial
         |true=>
          have hk:=Nat.eq_of_beq_eq_true hk
          subst hk
          have g3:q.sh+off+cap*ie.size=q.κ:=g3
          show q.sh+(off+lo'.getD 0*ie.size)+(cap - lo'.getD 0)*ie.size=q.κ
          have hle:lo'.getD 0≤cap:=by omega
          have:lo'.getD 0*ie.size+(cap - lo'.getD 0)*ie.size=cap*ie.size:=by rw[←Nat.add_mul];congr 1;omega
          omega
        |un=>trivial
   ·cases h
  ·rename_i e hd
   have hu:=hd▸hTi.und
   have hx:a=.slice none 0 0:=hx
   subst hx
   split at h
   ·rename_i ie hie
    have hTe:=hT e ie hie
    cases hb:(Nat.beq (hi'.getD 0) 0&&Nat.beq (lo'.getD 0) 0) with
    |false=>rw[hb] at h;cases h
    |true=>
     rw[hb] at h;cases h
     simp only[qu] at hb
     have b1:=Nat.eq_of_beq_eq_true hb.1
     have b2:=Nat.eq_of_beq_eq_true hb.2
     have hm:mx=none:=by cases mx with
      |none=>rfl
      |some _=>exact h3.elim
     subst hm
     have hbd:=jV (P:=P) (w:=w) (s:=true) (len:=0) (cap:=0) h1 h2 (mx':=none) (mx:=none) trivial (by simp) (Nat.le_refl _) (by rw[b1];exact Nat.le_refl _) (by rw[b2];exact qm _)
     refine ⟨.slice none 0 0,?_,Z⟩
     simp only[Instr.sliceAt,Sem.run_bind,run_underlying hu,Result.andThen_ok,Instr.slice,hbd,hTe.sz]
     rw[b1,b2];simp
   ·cases h
  ·rename_i n e b off hd
   have hu:=hd▸hTi.und
   obtain ⟨q,hq,rfl⟩:=hx
   split at h
   ·rename_i ie hie
    have hTe:=hT e ie hie
    cases hb:(Nat.ble (hi'.getD n) n&&Nat.ble (lo'.getD 0) (hi'.getD n)) with
    |false=>rw[hb] at h;cases h
    |true=>
     rw[hb] at h;cases h
     simp only[qu] at hb
     have b1:=Nat.le_of_ble_eq_true hb.1
     have b2:=Nat.le_of_ble_eq_true hb.2
     have hm:mx=none:=by cases mx with
      |none=>rfl
      |some _=>exact h3.elim
     subst hm
     have hbd:=jV (P:=P) (w:=w) (s:=false) (len:=n) (cap:=n) h1 h2 (mx':=none) (mx:=none) trivial (by simp) (Nat.le_refl _) b1 b2
     simp only[Option.getD_none] at hbd
     refine ⟨.slice (some (if n=lo'.getD 0 then ⟨q.r,q.sh+off,none⟩ else (⟨q.r,q.sh+off,none⟩:Addr).add (lo'.getD 0*ie.size))) (hi'.getD n - lo'.getD 0) (n - lo'.getD 0),?_,q,if n=lo'.getD 0 then q.sh+off else q.sh+off+lo'.getD 0*ie.size,n - lo'.getD 0,hq,?_,by omega,fun hne=>?_,rfl⟩
     ·simp[Instr.sliceAt,run_underlying hu,Instr.sureAddr,hbd,hTe.sz]
     ·split
      ·rfl
      ·simp[bo]
     ·rw[if_neg (by omega),Nat.add_assoc]
   ·cases h
  ·cases h
 ·cases h
end
def n8 (place:Nat→Option (Nat × Nat)):List EV→List (Nat × EV)→Option (List EV)
 |cells,[]=>some cells
 |cells,(i,x)::rest=>
  match place i with
  |none=>none
  |some (off,size)=>bif x.sto&&(Nat.beq x.cs.length size&&Nat.ble (off+size) cells.length) then n8 place (cells.take off++(x.cs++cells.drop (off+size))) rest else none
theorem lc {φ:b7} {place:Nat→Option (Nat × Nat)}:∀(l:List (Nat × Value)) (cps:List (Nat × EV)) (cells:List EV) (vcells:Array Value) (rs:List EV),
  cps.map (·.1)=l.map (·.1)→RelVs φ (cps.map (·.2)) (l.map (·.2))→RelVs φ cells vcells.toList→n8 place cells cps=some rs →
  ∃vc,Instr.fill place vcells l=some vc∧RelVs φ rs vc.toList
 |[],[],cells,vcells,rs,_,_,h,hf=>⟨vcells,rfl,by cases hf;exact h⟩
 |[],_::_,_,_,_,h,_,_,_=>by cases h
 |_::_,[],_,_,_,h,_,_,_=>by cases h
 |(i,v)::l,(i',x)::cps,cells,vcells,rs,hk,hp,h,hf=>by
  simp only[List.map_cons,List.cons.injEq] at hk
  obtain ⟨rfl,hk⟩:=hk
  obtain ⟨v',us,e,hx,hp⟩:=hp
  cases e
  unfold n8 at hf
  unfold Instr.fill
  cases hpl:place i' with
  |none=>rw[hpl] at hf;cases hf
  |some os=>
   obtain ⟨off,size⟩:=os
   rw[hpl] at hf
   simp only at hf ⊢
   cases hb:(x.sto&&(Nat.beq x.cs.length size&&Nat.ble (off+size) cells.length)) with
   |false=>rw[hb] at hf;cases hf
   |true=>
    rw[hb] at hf
    simp only[cond_true] at hf
    simp only[qu] at hb
    have hx:=EV.cs_rel hx hb.1
    have hxl:=hx.length
    have hcl:=h.length
    simp only[Array.length_toList] at hxl hcl
    have e1:=Nat.eq_of_beq_eq_true hb.2.1
    have e2:=Nat.le_of_ble_eq_true hb.2.2
    rw[if_neg (show ¬((v.cells.size≠size||off+v.cells.size>vcells.size)=true) by simp;omega)]
    have hfold:=pw off v.cells.toList 0 vcells (by simp;omega)
    simp only[Nat.add_zero] at hfold
    have hfa:(v.cells.zipIdx.foldl (fun cs (x:Value × Nat)=>cs.setIfInBounds (off+x.2) x.1) vcells).toList=vcells.toList.take off++v.cells.toList++vcells.toList.drop (off+size):=by
     rw[←Array.foldl_toList]
     have:v.cells.zipIdx.toList=v.cells.toList.zipIdx 0:=by simp
     have hlen:v.cells.toList.length=size:=by rw[Array.length_toList];omega
     rw[this,hfold,hlen]
    refine lc l cps _ _ rs hk hp ?_ hf
    rw[hfa,ql]
    exact (h.take off).append (hx.append (h.drop _))
def mW (T:TT):List Field→Option (List (Nat × Nat))
 |[]=>some []
 |f::fs=>match T f.type,mW T fs with
  |some i,some l=>some ((f.offset,i.size)::l)
  |_,_=>none
theorem n9 {P:Program} {T:TT} {w:World} (hT:cJ P T):∀(fs:List Field) (l:List (Nat × Nat)),mW T fs=some l→(fs.mapM (m:=Sem) fun f=>do pure (f.offset,←sizeOf f.type)).run P w=.ok l w
 |[],l,h=>by cases h;rfl
 |f::fs,l,h=>by
  unfold mW at h
  split at h
  ·rename_i i l' hi hl'
   cases h
   have h2:=n9 (w:=w) hT fs l' hl'
   rw[List.mapM_cons]
   simp only[Sem.run_bind,(hT _ _ hi).sz,Result.andThen_ok,Sem.run_pure,h2]
  ·cases h
noncomputable def mX (T:TT) (t:Nat) (ks:List Nat) (vs:List EV):Option EV:=
 match T t with
 |some i=>match i.d with
  |.struct fs=>match mW T fs.toList with
   |some pl=>(n8 (fun k=>pl[k]?) i.z (ks.zip vs)).map EV.ag
   |none=>none
  |.array _ e=>match T e with
   |some ie=>(n8 (fun k=>some (k*ie.size,ie.size)) i.z (ks.zip vs)).map EV.ag
   |none=>none
  |_=>none
 |none=>none
theorem mY {α β:Type}:∀(a:List α) (b:List β),a.length=b.length→(a.zip b).map (·.1)=a
 |[],_,_=>rfl
 |_::_,[],h=>by simp at h
 |x::a,y::b,h=>by rw[List.zip_cons_cons,List.map_cons,mY a b (by simpa using h)]
theorem mZ {α β:Type}:∀(a:List α) (b:List β),a.length=b.length→(a.zip b).map (·.2)=b
 |[],[],_=>rfl
 |[],_::_,h=>by simp at h
 |_::_,[],_=>rfl
 |x::a,y::b,h=>by rw[List.zip_cons_cons,List.map_cons,mZ a b (by simpa using h)]
theorem uU {P:Program} {φ:b7} {w:World} {T:TT} (hT:cJ P T) {t:Nat} {parts:List (Nat × Value)} {vs:List EV} {z:EV} (h:mX T t (parts.map (·.1)) vs=some z) (hv:RelVs φ vs (parts.map (·.2))) :
  ∃v,(Instr.build t parts.toArray).run P w=.ok v w∧aS φ z v:=by
 have hl:(parts.map (·.1)).length=vs.length:=by have:=hv.length;simp at this ⊢;exact this
 unfold mX at h
 split at h
 ·rename_i i hi
  have hTi:=hT t i hi
  obtain ⟨zv,hz,hzr,_⟩:=hTi.zero
  split at h
  ·rename_i fs hd
   have hu:=hd▸hTi.und
   split at h
   ·rename_i pl hpl
    obtain ⟨rs,hrs,rfl⟩:=Option.map_eq_some_iff.1 h
    obtain ⟨vc,h1,h2⟩:=lc (place:=fun k=>pl[k]?) parts _ i.z zv.cells rs (mY _ _ hl) (by rw[mZ _ _ hl];exact hv) (hzr φ) hrs
    refine ⟨.agg vc,?_,vc.toList,by simp,h2⟩
    have hp:=n9 (w:=w) hT fs.toList pl hpl
    have hp2:(fs.mapM (m:=Sem) fun f=>do pure (f.offset,←sizeOf f.type)).run P w=.ok pl.toArray w:=by
     rw[Array.mapM_eq_mapM_toList,Sem.run_map,hp];rfl
    unfold Instr.build
    simp only[Sem.run_bind,hz,Result.andThen_ok,run_underlying hu,hp2]
    have h1:Instr.fill (fun x=>pl.toArray[x]?) zv.cells parts=some vc:=by simpa using h1
    rw[h1];rfl
   ·cases h
  ·rename_i n e hd
   have hu:=hd▸hTi.und
   split at h
   ·rename_i ie hie
    obtain ⟨rs,hrs,rfl⟩:=Option.map_eq_some_iff.1 h
    obtain ⟨vc,h1,h2⟩:=lc (place:=fun k=>some (k*ie.size,ie.size)) parts _ i.z zv.cells rs (mY _ _ hl) (by rw[mZ _ _ hl];exact hv) (hzr φ) hrs
    refine ⟨.agg vc,?_,vc.toList,by simp,h2⟩
    unfold Instr.build
    simp only[Sem.run_bind,hz,Result.andThen_ok,run_underlying hu,(hT e ie hie).sz,h1]
    rfl
   ·cases h
  ·cases h
 ·cases h
def sV:TypeDesc→Bool
 |.interface _=>false
 |_=>true
noncomputable def wl (T:TT) (t:Nat) (x:EV):Option EV:=
 match T t with
 |some i=>bif sV i.d then some (.ifc t x) else none
 |none=>none
noncomputable def rk (T:TT) (s d:Nat) (x:EV):Option EV:=
 match T s,T d,x with
 |some is_,some id_,.i _ n=>match is_.d,id_.d with
  |.int _,.int k=>some (.i k (k.wrap n))
  |_,_=>none
 |some is_,some id_,.s b=>match is_.d,id_.d with
  |.string,.string=>some (.s b)
  |_,_=>none
 |_,_,_=>none
noncomputable def wm (T:TT) (t:Nat) (x:EV):Option EV:=
 match T t,x with
 |some i,x=>match i.d,x with
  |.string,.s b=>some (.i .i64 b.data.toList.length)
  |.slice _,.sl _ _ n _ _=>some (.i .i64 n)
  |.slice _,.ns=>some (.i .i64 0)
  |_,_=>none
 |_,_=>none
noncomputable def wn (T:TT) (t:Nat) (x:EV):Option EV:=
 match T t,x with
 |some i,x=>match i.d,x with
  |.slice _,.sl _ _ _ _ (.ex m)=>some (.i .i64 m)
  |.slice _,.ns=>some (.i .i64 0)
  |_,_=>none
 |_,_=>none
section
variable {P:Program} {φ:b7} {w:World} {T:TT} {ty:TypeId}
theorem BI (hT:cJ P T) {t:Nat} {x z:EV} {a:Value} (h:wl T t x=some z) (hx:aS φ x a):∃v,(Instr.makeInterface t a).run P w=.ok v w∧aS φ z v:=by
 unfold wl at h
 split at h
 ·rename_i i hi
  have hu:=(hT t i hi).und
  cases hd:sV i.d with
  |false=>rw[hd] at h;cases h
  |true=>
   rw[hd] at h;cases h
   refine ⟨.iface t a,?_,a,Z,hx⟩
   unfold Instr.makeInterface
   rw[Sem.run_bind,run_underlying hu]
   revert hd
   cases i.d<;>intro hd<;>first|rfl|cases hd
 ·cases h
theorem yT (hT:cJ P T) {s d:Nat} {x z:EV} {a:Value} (h:rk T s d x=some z) (hx:aS φ x a):∃v,(convert s d a).run P w=.ok v w∧aS φ z v:=by
 unfold rk at h
 split at h
 ·rename_i i1 i2 k n h1 h2
  have hx:a=.int k n:=hx
  subst hx
  split at h
  ·rename_i k1 k2 e1 e2
   cases h
   have u1:=e1▸(hT s i1 h1).und
   have u2:=e2▸(hT d i2 h2).und
   exact ⟨_,by simp[convert,run_underlying u1,run_underlying u2,Conv.intToInt],rfl⟩
  ·cases h
 ·rename_i i1 i2 b h1 h2
  have hx:a=.string b:=hx
  subst hx
  split at h
  ·rename_i e1 e2
   cases h
   have u1:=e1▸(hT s i1 h1).und
   have u2:=e2▸(hT d i2 h2).und
   exact ⟨_,by simp[convert,run_underlying u1,run_underlying u2],rfl⟩
  ·cases h
 ·cases h
theorem BJ (hT:cJ P T) {t:Nat} {x z:EV} {a:Value} (h:wm T t x=some z) (hx:aS φ x a):∃v,(Builtin.len_ #[t] ty #[a]).run P w=.ok v w∧aS φ z v:=by
 unfold wm at h
 split at h
 ·rename_i i hi
  have hu:=(hT t i hi).und
  split at h
  ·rename_i b hd
   have hx:a=.string b:=hx
   cases h;subst hx
   rw[hd] at hu
   exact ⟨.int .i64 b.size,by simp[Builtin.len_,run_underlying hu,goInt],by show Value.int .i64 _=Value.int .i64 _;rw[Array.length_toList];rfl⟩
  ·rename_i e _ _ n _ _ hd
   obtain ⟨_,_,_,_,rfl,_⟩:=hx
   cases h
   rw[hd] at hu
   exact ⟨.int .i64 n,by simp[Builtin.len_,run_underlying hu,goInt],rfl⟩
  ·rename_i e hd
   have hx:a=.slice none 0 0:=hx
   cases h;subst hx
   rw[hd] at hu
   exact ⟨.int .i64 0,by simp[Builtin.len_,run_underlying hu,goInt],rfl⟩
  ·cases h
 ·cases h
theorem BK (hT:cJ P T) {t:Nat} {x z:EV} {a:Value} (h:wn T t x=some z) (hx:aS φ x a):∃v,(Builtin.cap_ #[t] ty #[a]).run P w=.ok v w∧aS φ z v:=by
 unfold wn at h
 split at h
 ·rename_i i hi
  have hu:=(hT t i hi).und
  split at h
  ·rename_i e _ _ n _ m hd
   obtain ⟨_,_,cap,_,rfl,_,_,hc⟩:=hx
   have hc:cap=m:=hc
   cases h;subst hc
   rw[hd] at hu
   exact ⟨.int .i64 cap,by simp[Builtin.cap_,run_underlying hu,goInt],rfl⟩
  ·rename_i e hd
   have hx:a=.slice none 0 0:=hx
   cases h;subst hx
   rw[hd] at hu
   exact ⟨.int .i64 0,by simp[Builtin.cap_,run_underlying hu,goInt],rfl⟩
  ·cases h
 ·cases h
end
end
section
def cI (l:List Int):List AV:=l.map (AV.int .i64)
def cB (l:List Bool):List AV:=l.map AV.bool
theorem aV (l:List Int):(cI l).length=l.length:=by simp[cI]
theorem aX (l:List Bool):(cB l).length=l.length:=by simp[cB]
theorem rl (l:List Int):(l.map fun x=>[AV.int .i64 x]).flatten=cI l:=by
 induction l with
 |nil=>rfl
 |cons x l ih=>simp only[List.map_cons,List.flatten_cons,ih];rfl
theorem wo (l:List Bool):(l.map fun x=>[AV.bool x]).flatten=cB l:=by
 induction l with
 |nil=>rfl
 |cons x l ih=>simp only[List.map_cons,List.flatten_cons,ih];rfl
theorem Fq (l m:List Int):cI l++cI m=cI (l++m):=by simp[cI]
theorem Fr (l:List Int) (j:Nat) (v:Int):(cI l).set j (.int .i64 v)=cI (l.set j v):=by unfold cI;rw[List.map_set]
theorem Fs (l:List Bool) (j:Nat) (v:Bool):(cB l).set j (.bool v)=cB (l.set j v):=by unfold cB;rw[List.map_set]
theorem DI {l:List Int} {j:Nat} {v:Int} (h:l[j]?=some v):(cI l).drop j=.int .i64 v::(cI l).drop (j+1):=by
 obtain ⟨hj,e⟩:=List.getElem?_eq_some_iff.1 h
 rw[List.drop_eq_getElem_cons (by rw[aV];exact hj)]
 unfold cI
 rw[List.getElem_map,e]
theorem DJ {l:List Bool} {j:Nat} {v:Bool} (h:l[j]?=some v):(cB l).drop j=.bool v::(cB l).drop (j+1):=by
 obtain ⟨hj,e⟩:=List.getElem?_eq_some_iff.1 h
 rw[List.drop_eq_getElem_cons (by rw[aX];exact hj)]
 unfold cB
 rw[List.getElem_map,e]
theorem Ft (n:Nat) (v:Bool):List.replicate n (AV.bool v)=cB (List.replicate n v):=by simp[cB]
theorem yU (I:G) (l:List Int):RepL I (cI l) (l.map (Value.int .i64)):=by
 unfold cI
 induction l with
 |nil=>rfl
 |cons x l ih=>exact ⟨_,_,rfl,rfl,ih⟩
theorem EO {I:G}:∀{l:List Int} {vs:List Value},RepL I (cI l) vs→vs=l.map (Value.int .i64)
 |[],_,h=>h
 |x::l,_,⟨v,us,e,h1,h2⟩=>by
  have h1:v=.int .i64 x:=h1
  rw[e,h1,EO h2];rfl
section
variable {E:World} {P:Program} {ops:Array Oper} {K:aH→OL→Prop} {env:aH} {O O' O'':OL} {rest:List Oper} {n:Nat}
variable {d ty:Nat} {pos:String} {af:Array Edge} {x y z:Operand} {t u e:TypeId}
theorem Gv.idxI {i n j:Nat} {a:Int} {T:TypeId} {cs:List AV} (ht:P.underlying t=some (.slice e)) (hs:∀w,(sizeOf e).run P w=.ok 1 w) (hx:aP env x=.own i n) (hy:aP env y=.int .i64 a) (hi:a=(j:Int)) (hO:o6 O i (.grow 1 T cs)) (hn:cs.length=n) (hj:j<n) :
  Gv P env O (Oper.mk (some d) (.indexAddr t x y) ty pos af none) (.po i j):=
 Gv.idxOL ht hs hx hy hi hO (fun e=>by rw[e] at hn;simp at hn;omega) hj (Nat.mul_one j)
theorem Gv.loadI {i j:Nat} {T:TypeId} {l:List Int} {v:Int} (ha:∀w,(isAgg t).run P w=.ok false w) (hx:aP env x=.po i j) (hO:o6 O i (.grow 1 T (cI l))) (hv:l[j]?=some v) :
  Gv P env O (Oper.mk (some d) (.load t x) ty pos af none) (.int .i64 v):=Gv.load1G ha hx hO (DI hv)
theorem Gv.loadB {i j:Nat} {T:TypeId} {l:List Bool} {v:Bool} (ha:∀w,(isAgg t).run P w=.ok false w) (hx:aP env x=.po i j) (hO:o6 O i (.grow 1 T (cB l))) (hv:l[j]?=some v) :
  Gv P env O (Oper.mk (some d) (.load t x) ty pos af none) (.bool v):=Gv.load1G ha hx hO (DJ hv)
theorem eR.cast {i k:Nat} {T:TypeId} {o:bm} {cs ds:List AV} (h:eR O i o (.grow k T cs) O') (e:cs=ds):eR O i o (.grow k T ds) O':=e▸h
theorem ai.storeI {i j:Nat} {T:TypeId} {l:List Int} {v:Int} (hs:∀w,(sizeOf t).run P w=.ok 1 w) (hx:aP env x=.po i j) (hy:aP env y=.int .i64 v) (hO:eR O i (.grow 1 T (cI l)) (.grow 1 T (cI (l.set j v))) O') (hb:j<l.length)
  (kk:ai P E ops K rest env O'):ai P E ops K (Oper.mk none (.store t x y) ty pos af none::rest) env O:=
 ai.storeG1 (cs:=cI l) hs hx hy rfl rfl rfl (hO.cast (Fr l j v).symm) (by rw[aV];exact hb) kk
theorem ai.storeB {i j:Nat} {T:TypeId} {l:List Bool} {v:Bool} (hs:∀w,(sizeOf t).run P w=.ok 1 w) (hx:aP env x=.po i j) (hy:aP env y=.bool v) (hO:eR O i (.grow 1 T (cB l)) (.grow 1 T (cB (l.set j v))) O') (hb:j<l.length)
  (kk:ai P E ops K rest env O'):ai P E ops K (Oper.mk none (.store t x y) ty pos af none::rest) env O:=
 ai.storeG1 (cs:=cB l) hs hx hy rfl rfl rfl (hO.cast (Fs l j v).symm) (by rw[aX];exact hb) kk
theorem ai.makeB {i:TypeInfo} {zv:Value} {m:Nat} {k1 k2:IntKind} {l l':Int} (ht:P.underlying t=some (.slice e)) (hi:P.info? e=some i) (hz:i.zero=some zv) (hzc:zv.cells=#[.bool false]) (hk:i.size=1) (hx:aP env x=.int k1 l) (hy:aP env y=.int k2 l')
  (hl:l=(m:Int)) (hl':l'=(m:Int)) (hb:(i.bytes:Int)*(m:Int)≤281474976710656) (hm:m≤281474976710656) (kk:∀j,ai P E ops K rest (bp env d (.own j m)) ((j,.grow 1 e (cB (List.replicate m false)))::O)) :
  ai P E ops K (Oper.mk (some d) (.makeSlice t x y) ty pos af none::rest) env O:=
 ai.make1 ht hi hz hzc hk hx hy hl hl' hb hm rfl fun j=>by rw[show lit (.bool false)=AV.bool false from rfl,Ft];exact kk j
theorem aN.knowI {t i m:Nat} {T:TypeId} {l:List Int} (hv:env t=.own i m) (hO:cz O i (.grow 1 T (cI l)) O') (hm:l.length=m):aN E env O (bp env t (.fro 1 (l.map fun x=>[.int .i64 x]))) O':=
 aN.know hv (by rw[rl];exact hO) (fun r hr=>by obtain ⟨_,_,rfl⟩:=List.mem_map.1 hr;rfl) (by decide) (by rw[qq];exact hm)
theorem aN.knowB {t i m:Nat} {T:TypeId} {l:List Bool} (hv:env t=.own i m) (hO:cz O i (.grow 1 T (cB l)) O') (hm:l.length=m):aN E env O (bp env t (.fro 1 (l.map fun x=>[.bool x]))) O':=
 aN.know hv (by rw[wo];exact hO) (fun r hr=>by obtain ⟨_,_,rfl⟩:=List.mem_map.1 hr;rfl) (by decide) (by rw[qq];exact hm)
end
structure dn (α:Type) where
 k:Nat
 val:α→List Value
 pos:0<k
 len:∀x,(val x).length=k
 one:∀x,∀u∈val x,u.oneCell'=true
variable {α:Type}
def dn.vs (c:dn α) (l:List α):List Value:=l.flatMap c.val
def dn.row (c:dn α) (x:α):List AV:=(c.val x).map lit
def dn.av (c:dn α) (l:List α):List AV:=l.flatMap c.row
theorem dn.vs_len (c:dn α) (l:List α):(c.vs l).length=l.length*c.k:=by
 unfold dn.vs
 induction l with
 |nil=>simp
 |cons x l ih=>rw[List.flatMap_cons,qp,ih,c.len,List.length_cons,Nat.add_mul];omega
theorem dn.av_eq (c:dn α) (l:List α):c.av l=(c.vs l).map lit:=by
 unfold dn.av dn.vs
 induction l with
 |nil=>rfl
 |cons x l ih=>rw[List.flatMap_cons,List.flatMap_cons,List.map_append,ih];rfl
theorem dn.av_len (c:dn α) (l:List α):(c.av l).length=l.length*c.k:=by rw[c.av_eq,qq,c.vs_len]
theorem dn.av_app (c:dn α) (l m:List α):c.av l++c.av m=c.av (l++m):=by unfold dn.av;rw[List.flatMap_append]
theorem dn.av_push (c:dn α) (l:List α) (x:α):c.av l++c.row x=c.av (l++[x]):=by rw[←c.av_app];unfold dn.av;simp
theorem dn.vs_one (c:dn α) (l:List α):∀u∈c.vs l,u.oneCell'=true:=by
 intro u hu
 unfold dn.vs at hu
 obtain ⟨x,_,hx⟩:=List.mem_flatMap.1 hu
 exact c.one x u hx
theorem dn.av_un (c:dn α) {I:G} {l:List α} {vs:List Value} (h:RepL I (c.av l) vs):vs=c.vs l:=by rw[c.av_eq] at h;exact jO h
def eI:dn Int:=⟨1,fun x=>[.int .i64 x],by decide,fun _=>rfl,fun x u hu=>by simp at hu;subst hu;rfl⟩
def eP:dn (Int × Int):=⟨2,fun p=>[.int .i64 p.1,.int .i64 p.2],by decide,fun _=>rfl,fun x u hu=>by simp at hu;rcases hu with rfl|rfl<;>rfl⟩
theorem BL (l:List Int):eI.av l=cI l:=by
 unfold dn.av cI
 induction l with
 |nil=>rfl
 |cons x l ih=>rw[List.flatMap_cons,ih];rfl
inductive d4 (c:dn α) (e:TypeId):List (List α)→List Value→List (Nat × Obj)→Prop
 |nil:d4 c e [] [] []
 |cons {r rs a n cap hs A B}:dM c.k e a n cap (c.vs r) A→d4 c e rs hs B→d4 c e (r::rs) (.slice a n cap::hs) (A++B)
theorem d4.len {c:dn α} {e:TypeId} {rows:List (List α)} {hs:List Value} {L:List (Nat × Obj)} (h:d4 c e rows hs L):hs.length=rows.length:=by
 induction h with
 |nil=>rfl
 |cons _ _ ih=>simp[ih]
def EP (c:dn α) (e:TypeId) (rows:List (List α)) (j:Nat) (hs:List Value) (B:List (Nat × Obj)):Prop:=
 ∀r' a' n' c' A',dM c.k e a' n' c' (c.vs r') A'→∃L',d4 c e (rows.set j r') (hs.set j (.slice a' n' c')) L'∧L'.Perm (A'++B)
theorem d4.get {c:dn α} {e:TypeId} {rows:List (List α)} {hs:List Value} {L:List (Nat × Obj)} (h:d4 c e rows hs L):∀{j:Nat} {r:List α},rows[j]?=some r →
  ∃a n cap A B,hs[j]?=some (.slice a n cap)∧dM c.k e a n cap (c.vs r) A∧L.Perm (A++B)∧EP c e rows j hs B:=by
 induction h with
 |nil=>intro j r hj;simp at hj
 |@cons r0 rs a n cap hs A B h1 h2 ih=>
  intro j r hj
  cases j with
  |zero=>
   simp at hj;subst hj
   exact ⟨a,n,cap,A,B,rfl,h1,.refl _,fun r' a' n' c' A' h=>⟨A'++B,.cons h h2,.refl _⟩⟩
  |succ j=>
   obtain ⟨a1,n1,c1,A1,B1,g1,g2,g3,g4⟩:=ih (j:=j) (r:=r) (by simpa using hj)
   refine ⟨a1,n1,c1,A1,A++B1,by simpa using g1,g2,?_,fun r' a' n' c' A' h=>?_⟩
   ·refine (g3.append_left A).trans ?_
    rw[←ql,←ql]
    exact List.perm_append_comm.append_right B1
   ·obtain ⟨L',k1,k2⟩:=g4 r' a' n' c' A' h
    refine ⟨A++L',by simpa using d4.cons h1 k1,?_⟩
    refine (k2.append_left A).trans ?_
    rw[←ql,←ql]
    exact List.perm_append_comm.append_right B1
theorem d4.rep (c:dn α) (e:TypeId):∀m:Nat,d4 c e (List.replicate m []) (List.replicate m (.slice none 0 0)) []
 |0=>.nil
 |m+1=>by
  have:=d4.cons (c:=c) (r:=[]) (dM.nil c.k e) (d4.rep c e m)
  simpa [List.replicate_succ] using this
def cu (c:dn α) (T e:TypeId) (b:Nat) (rows:List (List α)):bm:=.heap fun L=>∃hs B,L=(b,.cells hs.toArray T (0,0))::B∧d4 c e rows hs B
def wq (c:dn α) (T e:TypeId) (b:Nat) (rows:List (List α)) (j n i:Nat):bm:=.heapG (fun I L=>∃hs B hd,L=(b,.cells hs.toArray T (0,0))::B∧I.h i=some hd∧hs[j]?=some (.slice (adr hd.1) n hd.2)∧hs.length=rows.length∧EP c e rows j hs B)
 (fun I J L h hp=>by obtain ⟨hs,B,hd,h1,h2,h3⟩:=hp;exact ⟨hs,B,hd,h1,h.h _ _ h2,h3⟩)
def dg (b n:Nat):AV:=.raw (.slice (some ⟨b,0,none⟩) n n)
def DK (b j:Nat):AV:=.raw (.pointer (some ⟨b,j,none⟩))
theorem dM.adr {k:Nat} {e:TypeId} {a:Option Addr} {n c:Nat} {cs:List Value} {A:List (Nat × Obj)} (h:dM k e a n c cs A):∃b,a=Go.Proofs.YthphijnnbfjikaaGreatDoor.adr b:=by
 rcases h.2.2 with ⟨e,_⟩|⟨b,junk,e,_⟩
 ·exact ⟨none,e⟩
 ·exact ⟨some b,e⟩
section
variable {E:World} {P:Program} {ops:Array Oper} {K:aH→OL→Prop} {env:aH} {O O' O'':OL} {rest:List Oper} {n:Nat}
variable {d ty:Nat} {pos:String} {af:Array Edge} {x y z:Operand} {t u e T:TypeId}
theorem ai.makeNest {i:TypeInfo} {zv:Value} {m:Nat} {k1 k2:IntKind} {l l':Int} (ht:P.underlying t=some (.slice T)) (hi:P.info? T=some i) (hz:i.zero=some zv) (hzc:zv.cells=#[.slice none 0 0]) (hk:i.size=1) (hx:aP env x=.int k1 l) (hy:aP env y=.int k2 l')
  (hl:l=(m:Int)) (hl':l'=(m:Int)) (hb:(i.bytes:Int)*(m:Int)≤281474976710656) (hm:m≤281474976710656) (c:dn α) (e:TypeId) (kk:∀b,ai P E ops K rest (bp env d (dg b m)) ((0,cu c T e b (List.replicate m []))::O)) :
  ai P E ops K (Oper.mk (some d) (.makeSlice t x y) ty pos af none::rest) env O:=fun I F ρ w h1 h2=>by
 obtain ⟨htop,L,hL,hS⟩:=h2
 refine bx.make1 ht hi hz hzc hk (fz h1 hx) (fz h1 hy) hl hl' hb hm hS fun b w' hS'=>?_
 exact kk b I F _ _ (h1.upd d rfl) ⟨htop,_,⟨[(b,.cells (List.replicate m (.slice none 0 0)).toArray T (0,0))],L,rfl,⟨List.replicate m (.slice none 0 0),[],rfl,d4.rep c e m⟩,hL⟩,by simpa using hS'⟩
theorem Gv.idxN {b m j:Nat} {a:Int} (ht:P.underlying t=some (.slice T)) (hs:∀w,(sizeOf T).run P w=.ok 1 w) (hx:aP env x=dg b m) (hy:aP env y=.int .i64 a) (hi:a=(j:Int)) (hj:j<m) :
  Gv P env O (Oper.mk (some d) (.indexAddr t x y) ty pos af none) (DK b j):=qb fun I ρ h=>by
 have h1:=fA h hx
 have h2:=fz h hy
 subst hi
 have hlt:((j:Int)<(m:Int)):=by omega
 refine ⟨_,Z,fun w=>?_⟩
 simp[execOp,h1,h2,Instr.indexAt,Sem.run_bind,run_underlying ht,hs,hlt,bo,asIntOf]
 intro h;omega
theorem Gv.lenN {b m:Nat} (ht:P.underlying t=some (.slice T)) (hx:aP env x=dg b m):Gv P env O (Oper.mk (some d) (.call { callee:=.builtin .len,args:=#[x],argTypes:=#[t] }) ty pos af none) (.int .i64 m):=qb fun I ρ h=>by
 have h1:=fA h hx
 exact ⟨_,rfl,fun w=>by simp[execOp,resolve,h1,invoke,builtin,Builtin.len_,run_underlying ht,goInt]⟩
theorem ai.nestTake {c:dn α} {b j m:Nat} {rows:List (List α)} {r:List α} {f:Nat→OL} (ha:∀w,(isAgg t).run P w=.ok false w) (hx:aP env x=DK b j) (hr:rows[j]?=some r)
  (hO:∀i,eR O m (cu c T e b rows) (wq c T e b rows j r.length i) (f i)) (kk:∀i,ai P E ops K rest (bp env d (.own i r.length)) ((i,.grow c.k e (c.av r))::f i)) :
  ai P E ops K (Oper.mk (some d) (.load t x) ty pos af none::rest) env O:=fun I F ρ w h1 h2=>by
 obtain ⟨i,hi⟩:=h2.name
 obtain ⟨htop,L,hL,hS⟩:=h2
 have hx:=fA h1 hx
 obtain ⟨A,B,hp,⟨hs,B0,rfl,hN⟩,hback⟩:=(hO i).rep hL
 obtain ⟨a,n,cap,A1,B1,g1,g2,g3,g4⟩:=hN.get hr
 obtain ⟨b1,rfl⟩:=g2.adr
 have hn:n=r.length:=by have:=g2.1;rw[c.vs_len] at this;exact (Nat.eq_of_mul_eq_mul_right c.pos this).symm
 subst hn
 obtain ⟨J,e1,hle,e2,htop'⟩:=hi (b1,cap)
 have hS2:SL I.k ((b,.cells hs.toArray T (0,0))::(B0++(B++F))) E w:=hS.perm (by
  have:=hp.append_right F
  simpa using this.symm)
 obtain ⟨L',h5,h6⟩:=hback hle (A':=(b,.cells hs.toArray T (0,0))::B1) ⟨hs,B1,(b1,cap),rfl,e2,g1,hN.len,g4⟩
 refine bx.load1 (I:=I.k) (O:=(b,.cells hs.toArray T (0,0))::(B0++(B++F))) ha hS2 hx (.inr ⟨_,_,_,.head _,by rw[List.getElem?_toArray];exact g1⟩) ?_
 refine yt (fun _ _=>qe hle) _ _ _ (kk i J F _ _ ((h1.mono hle).upd d ⟨b1,cap,e2,Z⟩) ⟨htop',A1++L',⟨A1,L',Z,⟨b1,cap,_,c.vs r,e2,by rw[c.av_eq];exact dA J _,c.vs_one r,g2⟩,h5⟩,?_⟩)
 rw[e1]
 refine hS2.perm<|List.Perm.trans ?_ (List.Perm.cons _ ((g3.append_right (B++F)).symm))
 have h7:(A1++L'++F).Perm (A1++((b,Obj.cells hs.toArray T (0,0))::(B1++B))++F):=(h6.append_left A1).append_right F
 refine h7.trans ?_
 simp only[ql,List.cons_append]
 exact List.perm_middle
theorem ai.nestPut {c:dn α} {b j m i i0 n0 n1 k:Nat} {rows:List (List α)} {r:List α} {cs:List AV} (hs1:∀w,(sizeOf t).run P w=.ok 1 w) (hx:aP env x=DK b j) (hy:aP env y=.own i n1) (hj:j<rows.length)
  (hP0:cz O i (.grow k e cs) O') (hO:eR O' m (wq c T e b rows j n0 i0) (cu c T e b (rows.set j r)) O'') (hk:k=c.k) (hcs:cs=c.av r) (hn1:r.length=n1) (kk:ai P E ops K rest env O'') :
  ai P E ops K (Oper.mk none (.store t x y) ty pos af none::rest) env O:=fun I F ρ w h1 h2=>by
 obtain ⟨htop,L,hL,hS⟩:=h2
 have hP:cz O i (.grow c.k e (c.av r)) O':=by subst hk hcs;exact hP0
 have hx:=fA h1 hx
 have h3:=h1.ev y
 rw[hy] at h3
 obtain ⟨b1,c1,e1,ey⟩:=h3
 obtain ⟨A,B,hp,⟨b1',c1',n',vs,e2,hvs,hvc,hown⟩,hB⟩:=hP.rep hL
 simp only at e2
 rw[e1] at e2
 simp only[Option.some.injEq,Prod.mk.injEq] at e2
 obtain ⟨rfl,rfl⟩:=e2
 have hv:=c.av_un hvs
 subst hv
 have hnn:n'=n1:=by have:=hown.1;rw[c.vs_len,hn1] at this;exact (Nat.eq_of_mul_eq_mul_right c.pos this).symm
 subst hnn
 obtain ⟨A2,B2,hp2,⟨hs,B0,hd,rfl,_,hsj,hsl,hole⟩,hback⟩:=hO.rep hB
 obtain ⟨L',k1,k2⟩:=hole r _ _ _ A hown
 have hS2:SL I.k ([(b,.cells hs.toArray T (0,0))]++(A++(B0++(B2++F)))) E w:=hS.perm (by
  refine List.Perm.trans ?_ ((hp.append_right F).symm)
  refine List.Perm.trans ?_ (((hp2.append_left A).append_right F).symm)
  simp only[ql,List.cons_append,List.nil_append]
  exact (List.perm_middle).symm)
 refine bx.store1 (cs:=hs) (off:=j) hs1 hx ey Z (by rw[hsl];exact hj) hS2 fun w' hS'=>?_
 obtain ⟨L2,h7,h8⟩:=hback (G.le.refl I) (A':=(b,.cells (hs.set j (.slice (adr b1) n' c1)).toArray T (0,0))::L') ⟨_,L',rfl,k1⟩
 refine kk I F _ _ h1 ⟨htop,L2,h7,hS'.perm ?_⟩
 refine (h8.append_right F).trans ?_
 simp only[List.cons_append,List.nil_append,ql]
 refine List.Perm.cons _ ?_
 have:=k2.append_right (B2++F)
 simpa [ql] using this
theorem aN.nestBack {c:dn α} {b j m i:Nat} {rows:List (List α)} {r:List α} (hP:cz O i (.grow c.k e (c.av r)) O') (hO:eR O' m (wq c T e b rows j r.length i) (cu c T e b (rows.set j r)) O''):aN E env O env O'':=fun I F ρ w h1 h2=>by
 obtain ⟨htop,L,hL,hS⟩:=h2
 obtain ⟨A,B,hp,⟨b1,c1,n',vs,e2,hvs,hvc,hown⟩,hB⟩:=hP.rep hL
 have hv:=c.av_un hvs
 subst hv
 have hnn:n'=r.length:=by have:=hown.1;rw[c.vs_len] at this;exact (Nat.eq_of_mul_eq_mul_right c.pos this).symm
 subst hnn
 obtain ⟨A2,B2,hp2,⟨hs,B0,hd,rfl,e3,hsj,hsl,hole⟩,hback⟩:=hO.rep hB
 simp only at e2
 rw[e2] at e3
 simp only[Option.some.injEq] at e3
 subst e3
 obtain ⟨L',k1,k2⟩:=hole r _ _ _ A hown
 have hsame:hs.set j (.slice (adr b1) r.length c1)=hs:=by
  obtain ⟨h9,h10⟩:=List.getElem?_eq_some_iff.1 hsj
  refine List.ext_getElem? fun k=>?_
  by_cases ek:k=j
  ·subst ek;rw[List.getElem?_set_self h9,hsj]
  ·rw[List.getElem?_set_ne (fun e=>ek e.symm)]
 rw[hsame] at k1
 obtain ⟨L2,h7,h8⟩:=hback (G.le.refl I) (A':=(b,.cells hs.toArray T (0,0))::L') ⟨_,L',rfl,k1⟩
 refine ⟨I,.refl _,h1,htop,L2,h7,hS.perm ?_⟩
 refine (h8.append_right F).trans<|List.Perm.trans ?_ ((hp.append_right F).symm)
 refine List.Perm.trans ?_ (((hp2.append_left A).append_right F).symm)
 simp only[ql,List.cons_append,List.nil_append]
 refine List.Perm.trans ?_ (List.perm_middle).symm
 refine List.Perm.cons _ ?_
 have:=k2.append_right (B2++F)
 simpa [ql] using this
theorem SL.freezeAllN:∀{A:List (Nat × Obj)} {I:aC} {F:List (Nat × Obj)} {E w:World},SL I (A++F) E w→∃J,I.le J∧SL J F E w∧∀x∈A,J x.1=some x.2
 |[],I,F,E,w,h=>⟨I,.refl _,h,fun _ h=>by cases h⟩
 |(b,o)::A,I,F,E,w,h=>by
  obtain ⟨h1,h2⟩:=SL.freeze (show SL I ((b,o)::(A++F)) E w from h)
  obtain ⟨J,h3,h4,h5⟩:=SL.freezeAllN h2
  refine ⟨J,h1.trans h3,h4,fun x hx=>?_⟩
  rcases List.mem_cons.1 hx with rfl|hx
  ·exact h3 _ _ (aC.put_same _ _ _)
  ·exact h5 x hx
theorem dM.fro {c:dn α} {I:G} {e:TypeId} {a:Option Addr} {n cap:Nat} {r:List α} {A:List (Nat × Obj)} (h:dM c.k e a n cap (c.vs r) A) (hI:∀x∈A,I.k x.1=some x.2):br I (.fro c.k (r.map c.row)) (.slice a n cap):=by
 obtain ⟨h1,h2,h3⟩:=h
 have hn:n=r.length:=by rw[c.vs_len] at h1;exact (Nat.eq_of_mul_eq_mul_right c.pos h1).symm
 subst hn
 rcases h3 with ⟨rfl,rfl,_⟩|⟨b,junk,rfl,rfl,hj⟩
 ·have h0:r=[]:=List.eq_nil_of_length_eq_zero (by omega)
  subst h0
  exact ⟨none,0,0,rfl,rfl,Nat.le_refl _,fun _=>rfl,trivial⟩
 ·have hb:=hI _ (.head _)
  simp only at hb
  have hflat:(r.map c.row).flatten=(c.vs r).map lit:=by rw[←c.av_eq];unfold dn.av;rw[List.flatMap]
  refine ⟨_,_,_,Z,by simp,h2,fun e=>(by cases e),RepR.of_flat hb (r.map c.row) (c.vs r) 0 (fun x hx=>by obtain ⟨y,_,rfl⟩:=List.mem_map.1 hx;unfold dn.row;rw[qq,c.len]) (by rw[hflat];exact dA I _) fun i u hu=>?_⟩
  rw[Nat.zero_mul,Nat.zero_add,List.getElem?_toArray,List.getElem?_append_left (List.getElem?_eq_some_iff.1 hu).1]
  exact hu
theorem d4.fro {c:dn α} {I:G} {e:TypeId} {rows:List (List α)} {hs:List Value} {B:List (Nat × Obj)} (h:d4 c e rows hs B) (hI:∀x∈B,I.k x.1=some x.2):RepL I (rows.map fun r=>.fro c.k (r.map c.row)) hs:=by
 induction h with
 |nil=>rfl
 |cons h1 _ ih=>exact ⟨_,_,rfl,h1.fro fun x hx=>hI x (List.mem_append_left _ hx),ih fun x hx=>hI x (List.mem_append_right _ hx)⟩
def mF (c:dn α) (rows:List (List α)):AV:=.fro 1 (rows.map fun r=>[.fro c.k (r.map c.row)])
theorem pQ {c:dn α} {I:G} {F:List (Nat × Obj)} {E w:World} {b m:Nat} {rows:List (List α)} (hO:cz O m (cu c T e b rows) O') (h:fI I O F E w):∃J B,I.le J∧bH I O' B∧(∃top,∀i,top≤i→J.h i=none)∧SL J.k (B++F) E w∧br J (mF c rows) (.slice (some ⟨b,0,none⟩) rows.length rows.length):=by
 obtain ⟨htop,L,hL,hS⟩:=h
 obtain ⟨A,B,hp,⟨hs,B0,rfl,hN⟩,hB⟩:=hO.rep hL
 have hS2:SL I.k (((b,.cells hs.toArray T (0,0))::B0)++(B++F)) E w:=hS.perm (by rw[←ql];exact (hp.append_right F).symm)
 obtain ⟨J,h1,h2,h3⟩:=SL.freezeAllN hS2
 have hle:I.le ⟨J,I.h⟩:=⟨h1,fun _ _ h=>h⟩
 refine ⟨⟨J,I.h⟩,B,hle,hB,htop,h2,?_⟩
 have hb:=h3 _ (.head _)
 simp only at hb
 have hrep:=hN.fro (I:=⟨J,I.h⟩) fun x hx=>h3 x (.tail _ hx)
 refine ⟨_,_,_,Z,by simp,Nat.le_refl _,fun e=>(by cases e),RepR.intro fun j row hj=>?_⟩
 rw[qr] at hj
 obtain ⟨r,hr,rfl⟩:=Option.map_eq_some_iff.1 hj
 obtain ⟨v,hv1,hv2⟩:=hrep.get (j:=j) (x:=.fro c.k (r.map c.row)) (by rw[qr,hr];rfl)
 refine ⟨b,0,[v],Z,Z,RepL.one hv2,fun i u hu=>?_⟩
 cases i with
 |zero=>
  simp at hu;subst hu
  exact ⟨_,_,_,hb,by rw[List.getElem?_toArray,show 0+(0+j)*1+0=j by omega];exact hv1⟩
 |succ i=>simp at hu
theorem aN.nestKnow {c:dn α} {s b m n:Nat} {rows:List (List α)} (hv:env s=dg b n) (hO:cz O m (cu c T e b rows) O') (hn:rows.length=n):aN E env O (bp env s (mF c rows)) O':=fun I F ρ w h1 h2=>by
 obtain ⟨J,B,hle,hB,htop,hS,hrep⟩:=pQ hO h2
 refine ⟨J,hle,fun q=>?_,htop,B,hB.mono hle,hS⟩
 unfold bp
 cases hb:Nat.beq q s with
 |false=>exact br.mono hle _ _ (h1 q)
 |true=>
  have:q=s:=Nat.eq_of_beq_eq_true hb
  subst this
  have h4:=h1 q
  rw[hv] at h4
  have h4:ρ q=.slice (some ⟨b,0,none⟩) n n:=h4
  rw[h4,←hn];exact hrep
theorem aN.nestKnowC {c:dn α} {off b m n i:Nat} {T':TypeId} {cs:List AV} {rows:List (List α)} (hO:cz O m (cu c T e b rows) O') (hP:eR O' i (.cells T' cs) (.cells T' (cs.set off (mF c rows))) O'') (hc:cs[off]?=some (dg b n)) (hn:rows.length=n):aN E env O env O'':=fun I F ρ w h1 h2=>by
 obtain ⟨J,B,hle,hB,htop,hS,hrep⟩:=pQ hO h2
 obtain ⟨L',h5,h6⟩:=eR.same (F:=F) (E:=E) (w:=w) hle (.inr trivial) hP hc (fun v hv=>by
  have hv:v=.slice (some ⟨b,0,none⟩) n n:=hv
  rw[hv,←hn];exact hrep) hB
 exact ⟨J,hle,h1.mono hle,htop,L',h5,hS.perm (h6.symm.append_right F)⟩
end
end
section
section
variable {E:World} {P:Program} {ops:Array Oper} {K:aH→OL→Prop} {env:aH} {O O' O'':OL} {rest:List Oper} {n:Nat}
variable {d ty:Nat} {pos:String} {af:Array Edge} {x y z:Operand} {t u e:TypeId}
theorem ai.cutTo {i k m j:Nat} {a:Int} {T:TypeId} {cs:List AV} (ht:P.underlying t=some (.slice e)) (hs:∀w,(sizeOf e).run P w=.ok k w) (hx:aP env x=.own i m) (hy:aP env y=.int .i64 a) (hi:a=(j:Int)) (hO:eR O i (.grow k T cs) (.grow k T (cs.take (j*k))) O')
  (hk:0<k) (hj:j*k≤cs.length)
  (kk:ai P E ops K rest (bp env d (.own i j)) O'):ai P E ops K (Oper.mk (some d) (.slice t x none (some y) none) ty pos af none::rest) env O:=fun I F ρ w h1 h2=>by
 obtain ⟨htop,L,hL,hS⟩:=h2
 have h3:=h1.ev x
 rw[hx] at h3
 obtain ⟨b,c,e1,e2⟩:=h3
 have h4:=fz h1 hy
 subst hi
 obtain ⟨A,B,hp,⟨b',c',n',vs,e3,hvs,hvc,h5,h6,h7⟩,hback⟩:=hO.rep hL
 simp only at e3
 rw[e1] at e3
 simp only[Option.some.injEq,Prod.mk.injEq] at e3
 obtain ⟨rfl,rfl⟩:=e3
 have hlen:vs.length=cs.length:=hvs.length
 have hjn:j≤n':=by
  have:j*k≤n'*k:=by omega
  exact Nat.le_of_mul_le_mul_right this hk
 have hjc:j≤c:=by omega
 have hval:(execOp (Go.Proofs.YthphijnnbfjikaaGreatDoor.ev ρ) (Oper.mk (some d) (.slice t x none (some y) none) ty pos af none)).run P w=.ok (.value (.slice (adr b) j c)) w:=by
  have:(if c=0 then adr b else (adr b).map (·.add (0*k)))=adr b:=by
   split
   ·rfl
   ·cases b<;>simp[adr,Addr.add]
  simp[execOp,Instr.sliceAt,Instr.slice,Instr.sliceBounds,Instr.sliceBound,asIntOf,Sem.run_bind,run_underlying ht,hs,e2,h4,hjc]
  simpa using this
 obtain ⟨L',h8,h9⟩:=hback (G.le.refl I) (A':=A) ⟨b,c,j,vs.take (j*k),e1,hvs.take _,fun u hu=>hvc u (List.mem_of_mem_take hu),by rw[List.length_take];omega,by omega,by
  rcases h7 with h7|⟨b2,junk,e4,e5,e6⟩
  ·exact .inl ⟨h7.1,h7.2.1,h7.2.2⟩
  ·exact .inr ⟨b2,vs.drop (j*k)++junk,e4,by rw[←ql,List.take_append_drop];exact e5,by rw[←ql,List.take_append_drop];exact e6⟩⟩
 exact bx.val hval (kk I F _ w (h1.upd d ⟨b,c,e1,rfl⟩) ⟨htop,L',h8,hS.perm ((h9.trans hp.symm).append_right F)⟩)
theorem ai.cutLast {i k m j:Nat} {a:Int} {T:TypeId} {A row:List AV} (ht:P.underlying t=some (.slice e)) (hs:∀w,(sizeOf e).run P w=.ok k w) (hx:aP env x=.own i m) (hy:aP env y=.int .i64 a) (hi:a=(j:Int)) (hO:eR O i (.grow k T (A++row)) (.grow k T A) O')
  (hk:0<k) (hA:A.length=j*k)
  (kk:ai P E ops K rest (bp env d (.own i j)) O'):ai P E ops K (Oper.mk (some d) (.slice t x none (some y) none) ty pos af none::rest) env O:=
 ai.cutTo ht hs hx hy hi (hO.cast (by rw[←hA,List.take_left])) hk (by rw[qp];omega) kk
end
end
section
open Go.Sort (Holds putRow putCells onCells)
theorem sW {zs ys:List Int} {junk:List Value} (hl:ys.length=zs.length):putCells (Value.int .i64) 0 ys.toArray (zs.map (Value.int .i64)++junk).toArray=(ys.map (Value.int .i64)++junk).toArray:=by
 unfold putCells
 apply Array.ext_getElem?
 intro k
 simp only[Array.getElem?_mapIdx,List.getElem?_toArray,qm,true_and,Nat.zero_add,Nat.sub_zero,List.size_toArray]
 by_cases hk:k<ys.length
 ·rw[List.getElem?_append_left (by rw[qq];omega),List.getElem?_append_left (by rw[qq];omega),qr,qr,qj hk,qj (by omega:k<zs.length)]
  simp[hk]
 ·rw[List.getElem?_append_right (by rw[qq];omega),List.getElem?_append_right (by rw[qq];omega),qq,qq,hl]
  rw[hl] at hk
  simp only[hk,if_false]
  cases junk[k - zs.length]?<;>rfl
theorem SL.turned {I:aC} {O:List (Nat × Obj)} {E w:World} {b n:Nat} {zs ys:List Int} {junk:List Value} {T:TypeId} {os:Array Obj} (hl:ys.length=zs.length) (h:SL I ((b,.cells (zs.map (Value.int .i64)++junk).toArray T (0,0))::O) E w) :
  SL I ((b,.cells (ys.map (Value.int .i64)++junk).toArray T (0,0))::O) E (Go.Sort.grow (putRow (Value.int .i64) (Go.Sort.ahead w n) b 0 ys.toArray) os):=by
 have hb:=h.own _ (.head _)
 simp only at hb
 have hlt:=cx hb
 have h1:SL I ((b,.cells (ys.map (Value.int .i64)++junk).toArray T (0,0))::O) E (putRow (Value.int .i64) (Go.Sort.ahead w n) b 0 ys.toArray):=by
  refine h.turn Z Z Z ?_ fun k hk=>?_
  ·show (w.heap.modify b (onCells (putCells (Value.int .i64) 0 ys.toArray)))[b]?=_
   rw[Array.getElem?_modify,if_pos rfl,hb]
   simp only[Option.map_some,onCells,sW hl]
  ·show (w.heap.modify b (onCells (putCells (Value.int .i64) 0 ys.toArray)))[k]?=_
   rw[Array.getElem?_modify,if_neg (fun e=>hk e.symm)]
 exact h1.more rfl rfl rfl fun k hk=>Go.Sort.heap_grow_old _ _ hk
theorem aU.turned {E:World} {P:Program} {f:FuncId} {fn:Func} {c:Code} {g:List Int→List Int} {B:Nat} (hf:P.funcs[f]?=some fn) (hb:fn.body=some c) (hn:fn.name≠"runtime.NumGoroutine") (hg:∀l,(g l).length=l.length)
  (hC:∀(blk cap:Nat) (zs:List Int) (w:World),Holds (Value.int .i64) w blk 0 zs.toArray→blk<w.heap.size→zs.length<B →
   Calls P f #[.slice (some ⟨blk,0,none⟩) zs.length cap] w fun e w'=>e=.returned (.tuple #[])∧∃n os,w'=Go.Sort.grow (putRow (Value.int .i64) (Go.Sort.ahead w n) blk 0 (g zs).toArray) os)
  (hN:∀(cap:Nat) (w:World),Calls P f #[.slice none 0 cap] w fun e w'=>e=.returned (.tuple #[])∧w'=w)
  {l:List Int} {i n:Nat} {T:TypeId} (hl:l.length=n) (hB:n<B):aU P E f [.own i n] [(i,.grow 1 T (cI l))] fun r O=>r=.tup []∧O=[(i,.grow 1 T (cI (g l)))]:=fun I F w vs h1 h2=>by
 obtain ⟨v,us,rfl,⟨b,c,e1,rfl⟩,h3⟩:=h1
 have h3:us=[]:=h3
 subst h3
 obtain ⟨ht,L,⟨A,B',e2,⟨b',c',n',ws,e3,h4,h5,h6⟩,h7⟩,hS⟩:=h2
 have h7:B'=[]:=h7
 subst h7
 rw[List.append_nil] at e2
 subst e2
 simp only at e3
 rw[e1] at e3
 simp only[Option.some.injEq,Prod.mk.injEq] at e3
 obtain ⟨rfl,rfl⟩:=e3
 have h4:=EO h4
 subst h4
 refine Fn.ofCalls hf hb hn ?_
 obtain ⟨g1,g2,g3⟩:=h6
 rw[qq,Nat.mul_one] at g1
 have hnn:n'=n:=by omega
 subst hnn
 rcases g3 with ⟨ea,rfl,rfl⟩|⟨b2,junk,ea,rfl,hj⟩
 ·have h0:n'=0:=by omega
  subst h0
  have hl0:l=[]:=List.eq_nil_of_length_eq_zero hl
  subst hl0
  have hg0:g []=[]:=List.eq_nil_of_length_eq_zero (hg [])
  rw[ea]
  refine (hN 0 w).mono fun e w' ⟨he,hw⟩=>⟨_,he,I,.tup [],_,.refl _,⟨[],Z,Z⟩,?_,Z,Z⟩
  subst hw
  rw[hg0]
  exact ⟨ht,[],⟨[],[],rfl,⟨b,0,0,[],e1,rfl,by simp,by rw[ea];exact dM.nil 1 T⟩,rfl⟩,hS⟩
 ·rw[ea]
  have hS2:SL I.k ((b2,.cells (l.map (Value.int .i64)++junk).toArray T (0,0))::F) E w:=hS
  have hH:Holds (Value.int .i64) w b2 0 l.toArray:=fun j hjl=>by
   have hj2:j<l.length:=by simpa using hjl
   have hbk:=hS2.own _ (.head _)
   simp only at hbk
   refine ⟨?_,?_⟩
   ·rw[hS2.cell_own,Nat.zero_add,List.getElem?_toArray,List.getElem?_append_left (by rw[qq];exact hj2),qr,qj hj2]
    simp[hj2]
   ·simp[World.frozen?,hbk]
  have:=hC b2 c l w hH (cx (hS2.own _ (.head _))) (by omega)
  rw[hl] at this
  refine this.mono fun e w' ⟨he,k,os,hw⟩=>⟨_,he,I,.tup [],_,.refl _,⟨[],Z,Z⟩,?_,Z,Z⟩
  subst hw
  refine ⟨ht,[(b2,.cells ((g l).map (Value.int .i64)++junk).toArray T (0,0))],⟨_,[],by simp,⟨b,c,n',(g l).map (Value.int .i64),e1,yU I (g l),fun u hu=>by obtain ⟨x,_,rfl⟩:=List.mem_map.1 hu;rfl,by rw[qq,hg,hl,Nat.mul_one],g2,.inr ⟨b2,junk,ea,rfl,by rw[qp,qq,hg] ;rw[qp,qq] at hj;exact hj⟩⟩,rfl⟩,?_⟩
  exact SL.turned (hg l) hS2
set_option linter.defProp false
def zu:=@ai.makeNest
def yk:=@aN.knowP
def yv:=@b7.put_same
def yy:=@Gv.idxI
def q3:=@ai.nestTake
def q5:=@Gv.loadI
def q6:=@cT.close
def q9:=@b7.le_put
def qf:=@Gv.idxN
def qg:=@ai.nestPut
end
end Go.Proofs.YthphijnnbfjikaaGreatDoor
