/- A slice of slices of one's own, taken row after row: those ahead are given up. No conditions. -/
import Derived.Test.YtjpnhkmfhlnpcaaGreatDoorZc
import Derived.Laws.BytesArg
import Derived.ProofKit
import Derived.OpenShut
import Derived.Deep.Matrix
import Derived.Lib.LaidU8
import Derived.Lib.LaidTab
import Derived.MapKept
import Derived.WideMake
import Derived.Laws.Cover4
import Derived.WideLaws
import Derived.Lib.AppendZeros
import Derived.Lib.Builder
import Derived.Lib.AppendStr
import Derived.Lib.UnsafeStr
import Derived.Laws.Externs
import Derived.Sort.Grow
set_option linter.unusedVariables false
set_option linter.unusedSimpArgs false
set_option linter.unusedSectionVars false
namespace Go.Proofs.YtjpnhkmfhlnpcaaGreatDoor
section
open Go.Proofs.Tryz
section
variable {E:World} {P:Program} {env:aO} {O:OL} {d ty:Nat} {pos:String} {af:Array Edge} {x y:Operand} {t u e:TypeId}
theorem Gv.rem {k:IntKind} {a b:Int} (hx:bf env x=.int k a) (hy:bf env y=.int k b) (hb:b≠0):Gv P env O (Oper.mk (some d) (.binOp .rem t x y u) ty pos af none) (.int k (a.tmod b)):=Gv.ofEv fun I ρ h=>⟨_,rfl,fun w=>by
 rw[bP (gD h hx) (gD h hy) (by decide) (by decide)];simp[binOp,Op.intDiv,hb]⟩
theorem Gv.quo {k:IntKind} {a b:Int} (hx:bf env x=.int k a) (hy:bf env y=.int k b) (hb:b≠0):Gv P env O (Oper.mk (some d) (.binOp .quo t x y u) ty pos af none) (.int k (k.wrap (a.tdiv b))):=Gv.ofEv fun I ρ h=>⟨_,rfl,fun w=>by
 rw[bP (gD h hx) (gD h hy) (by decide) (by decide)];simp[binOp,Op.intDiv,hb]⟩
theorem Gv.neg {k:IntKind} {a:Int} (hx:bf env x=.int k a):Gv P env O (Oper.mk (some d) (.unOp .neg t x) ty pos af none) (.int k (k.wrap (0 - a))):=Gv.ofEv fun I ρ h=>⟨_,rfl,fun w=>by
 simp[execOp,gD h hx,Op.unary,Op.intArith]⟩
theorem Gv.conv {k k':IntKind} {a:Int} {ds:TypeDesc} {src dst:TypeId} (hs:P.underlying src=some ds) (hd:P.underlying dst=some (.int k')) (hx:bf env x=.int k a):Gv P env O (Oper.mk (some d) (.convert src dst x) ty pos af none) (.int k' (k'.wrap a)):=Gv.ofEv fun I ρ h=>⟨_,rfl,fun w=>by
 simp only[execOp,gD h hx]
 cases ds<;>simp[convert,run_underlying hs,run_underlying hd,Conv.intToInt]⟩
end
end
section
open Go.Proofs.Tryz
section
variable {E:World} {P:Program} {n:Nat} {l:List Oper} {W:Nat→Bool} {Q:aO→OL→Prop} {fuel:Nat} {listed:Array Bool} {env:aO} {O Os Om:OL}
theorem bJ.two {i j:Nat} {o o':Oper} (hi:l[i]?=some o) (hj:l[j]?=some o') (hr:Region.ready .any l.toArray listed=[i,j])
  (h:ao P E l.toArray (fun env' Om'=>bJ P E l W Q fuel (listed.setIfInBounds i true) env' Os Om') [o] env Om)
  (h':ao P E l.toArray (fun env' Om'=>bJ P E l W Q fuel (listed.setIfInBounds j true) env' Os Om') [o'] env Om):bJ P E l W Q (fuel+1) listed env Os Om:=fun I F ρ w Ls h1 hLs h2=>by
 have key:∀k ok,ao P E l.toArray (fun env' Om'=>bJ P E l W Q fuel (listed.setIfInBounds k true) env' Os Om') [ok] env Om →
   bL P l.toArray (fun ρ' w'=>(dD I.k [] E w'∧(dZ W (listed.setIfInBounds k true)∨dD I.k Ls E w'))∧bR P l.toArray (dD I.k [] E) (dD I.k Ls E) W (eV I F E Q) fuel (listed.setIfInBounds k true) ρ' w') [ok] ρ w:=fun k ok h=>
  q5 (fun ρ' w' ⟨J,env',Om',a,b,c,d⟩=>by
   have hst:dD I.k Ls E w':=by
    obtain ⟨J',L',h3,h4,h5⟩:=c.here
    exact ⟨J',L',a.k.trans h3,h4,h5⟩
   refine ⟨⟨hst.less,.inr hst⟩,bR.mono ?_ ?_ (fun _ _=>qo a) _ _ _ _ (d J F ρ' w' Ls b (hLs.mono a) c)⟩
   ·rintro w ⟨J',L',h3,h4⟩;exact ⟨J',L',a.k.trans h3,h4⟩
   ·rintro w ⟨J',L',h3,h4⟩;exact ⟨J',L',a.k.trans h3,h4⟩) _ _ _ (h I (Ls++F) ρ w h1 h2)
 refine ⟨fun h0=>(by rw[hr] at h0;cases h0),fun k hk o2 ho2=>?_⟩
 rw[hr] at hk
 simp only[List.mem_cons,List.not_mem_nil,or_false] at hk
 rw[List.getElem?_toArray] at ho2
 rcases hk with rfl|rfl
 ·rw[hi] at ho2;cases ho2;exact key _ _ h
 ·rw[hj] at ho2;cases ho2;exact key _ _ h'
end
end
section
open Go.Proofs.Tryz
section
variable {E:World} {P:Program} {n:Nat} {l:List Oper} {W:Nat→Bool} {Q:aO→OL→Prop} {fuel:Nat} {listed:Array Bool} {env:aO} {O Os Om:OL}
theorem bJ.three {i j m:Nat} {o o' o'':Oper} (hi:l[i]?=some o) (hj:l[j]?=some o') (hm:l[m]?=some o'') (hr:Region.ready .any l.toArray listed=[i,j,m])
  (h:ao P E l.toArray (fun env' Om'=>bJ P E l W Q fuel (listed.setIfInBounds i true) env' Os Om') [o] env Om)
  (h':ao P E l.toArray (fun env' Om'=>bJ P E l W Q fuel (listed.setIfInBounds j true) env' Os Om') [o'] env Om)
  (h'':ao P E l.toArray (fun env' Om'=>bJ P E l W Q fuel (listed.setIfInBounds m true) env' Os Om') [o''] env Om):bJ P E l W Q (fuel+1) listed env Os Om:=fun I F ρ w Ls h1 hLs h2=>by
 have key:∀k ok,ao P E l.toArray (fun env' Om'=>bJ P E l W Q fuel (listed.setIfInBounds k true) env' Os Om') [ok] env Om →
   bL P l.toArray (fun ρ' w'=>(dD I.k [] E w'∧(dZ W (listed.setIfInBounds k true)∨dD I.k Ls E w'))∧bR P l.toArray (dD I.k [] E) (dD I.k Ls E) W (eV I F E Q) fuel (listed.setIfInBounds k true) ρ' w') [ok] ρ w:=fun k ok h=>
  q5 (fun ρ' w' ⟨J,env',Om',a,b,c,d⟩=>by
   have hst:dD I.k Ls E w':=by
    obtain ⟨J',L',h3,h4,h5⟩:=c.here
    exact ⟨J',L',a.k.trans h3,h4,h5⟩
   refine ⟨⟨hst.less,.inr hst⟩,bR.mono ?_ ?_ (fun _ _=>qo a) _ _ _ _ (d J F ρ' w' Ls b (hLs.mono a) c)⟩
   ·rintro w ⟨J',L',h3,h4⟩;exact ⟨J',L',a.k.trans h3,h4⟩
   ·rintro w ⟨J',L',h3,h4⟩;exact ⟨J',L',a.k.trans h3,h4⟩) _ _ _ (h I (Ls++F) ρ w h1 h2)
 refine ⟨fun h0=>(by rw[hr] at h0;cases h0),fun k hk o2 ho2=>?_⟩
 rw[hr] at hk
 simp only[List.mem_cons,List.not_mem_nil,or_false] at hk
 rw[List.getElem?_toArray] at ho2
 rcases hk with rfl|rfl|rfl
 ·rw[hi] at ho2;cases ho2;exact key _ _ h
 ·rw[hj] at ho2;cases ho2;exact key _ _ h'
 ·rw[hm] at ho2;cases ho2;exact key _ _ h''
end
theorem bY.know {E:World} {P:Program} {f:FuncId} {as0:List AV} {O:OL} {R R':AV→OL→Prop} (h:bY P E f as0 O R) (hr:∀I F w v x O',R x O'→cf I x v→gC I O' F E w→∃J y O'',I.le J∧cf J y v∧gC J O'' F E w∧R' y O''):bY P E f as0 O R':=fun I F w vs h1 h2=>
 (h I F w vs h1 h2).mono fun v w' ⟨J,x,O',a,b,c,d⟩=>by
  obtain ⟨K,y,O'',e1,e2,e3,e4⟩:=hr J F w' v x O' d b c
  exact ⟨K,y,O'',a.trans e1,e2,e3,e4⟩
end
section
open Go.Proofs.Tryz
theorem dv.perm {O O':OL} {i:Nat} {o:bF} (h:dv O i o O'):O.Perm ((i,o)::O'):=by
 induction h with
 |head=>exact .refl _
 |tail _ ih=>exact (ih.cons _).trans (.swap _ _ _)
section
variable {E:World} {P:Program} {f:FuncId} {as0:List AV} {O:OL}
theorem bY.exact {γ:Type} {x:γ→AV} {M:γ→OL} {p:γ→Prop} (h:bY P E f as0 O (fun y O'=>∃g,y=x g∧Left O' (M g)∧p g)):bY P E f as0 O (fun y O'=>∃g,y=x g∧O'=M g∧p g):=
 h.know fun I F w v y O' ⟨g,e,hl,hp⟩ h1 h2=>⟨I,y,M g,.refl _,h1,hl.sla h2,g,e,rfl,hp⟩
theorem bY.frozen {k m:Nat} {T:TypeId} {rows:List (List AV)} (h:bY P E f as0 [] (fun y O'=>∃i:Nat,y=.own i m∧Left O' [(i,.grow k T rows.flatten)]∧True)) (hk:∀r∈rows,r.length=k) (hk0:0<k) (hm:rows.length=m):aZ P E f as0 (.fro k rows):=
 h.know fun I F w v y O' ⟨i,e,hl,_⟩ h1 h2=>by
  subst e
  obtain ⟨J,h3,h4,h5⟩:=Go.Proofs.YtjpnhkmfhlnpcaaGreatDoor.know .head hk hk0 hm (hl.sla h2)
  exact ⟨J,_,[],h3,h5 _ h1,h4,rfl⟩
end
end
section
open Go.Proofs.Tryz
open Go.ChangeShapes Go.WideShapes Go.ChangeAt Go.RowKit Go.Deep
def full (W:World):aP:=fun b=>W.heap[b]?
theorem F6 (W:World):SL (full W) [] W W:=⟨rfl,rfl,rfl,fun _ _ h=>h,by simp,by simp,by simp,fun _ _ h=>h,(fun _ _ h h2=>by rw[show W.heap[_]?=some _ from h] at h2;cases h2),by simp⟩
def I0 (W:World):G:=⟨full W,fun _=>none⟩
theorem oK {W:World} {p:Addr} {v:Value} (h:W.cell? p=some v):p=⟨p.block,p.off,none⟩∧B3 (full W) p.block p.off v:=by
 unfold World.cell? at h
 split at h
 ·rename_i c t f hb
  split at h
  ·cases h
  ·rename_i hs
   have:p.spot=none:=by simpa using hs
   obtain ⟨b,o,s⟩:=p
   simp only at this
   subst this
   exact ⟨rfl,⟨c,t,f,hb,h⟩⟩
 ·cases h
def fQ (P:Program) (W:World) (T:TypeId) {α:Type} (enc:α→List AV) (ok:α→Prop):Prop:=
 ∀{H:Type} (e:TypeId × Value→H) (held:Bool) (fuel:Nat) (cs:List Value) (x:DataW H × List MemPlace),DataW.trod e P W 0 (fun _=>true) held fuel T cs=some x→∃a,ok a∧RepL (I0 W) (enc a) cs
section
variable {P:Program} {W:World} {T e:TypeId}
theorem fQ.int {k:IntKind} (hu:P.underlying T=some (.int k)):fQ P W T (fun x:Int=>[.int k x]) (fun x=>(Lit.int k x).wf=true):=fun _ _ _ _ _ h=>by
 obtain ⟨n,rfl,_,hw⟩:=DataW.trod_int hu h
 exact ⟨n,hw,_,_,rfl,rfl,rfl⟩
theorem fQ.bool (hu:P.underlying T=some .bool):fQ P W T (fun x:Bool=>[.bool x]) (fun _=>True):=fun _ _ _ _ _ h=>by
 obtain ⟨n,rfl,_⟩:=DataW.trod_bool hu h
 exact ⟨n,trivial,_,_,rfl,rfl,rfl⟩
theorem fQ.str (hu:P.underlying T=some .string):fQ P W T (fun x:ByteArray=>[.str x]) (fun x=>x.size≤maxLen):=fun _ _ _ _ _ h=>by
 obtain ⟨n,rfl,_,hw⟩:=DataW.trod_string hu h
 exact ⟨n,hw,_,_,rfl,rfl,rfl⟩
theorem fQ.slice {α:Type} {enc:α→List AV} {ok:α→Prop} {k:Nat} (ht:P.underlying T=some (.slice e)) (he:fQ P W e enc ok) (hk:P.cellsOf e=k) (hk0:0<k) :
  fQ P W T (fun xs:List α=>[.fro k (xs.map enc)]) (fun xs=>(∀x∈xs,ok x)∧xs.length≤maxLen):=fun en held fuel cs x h=>by
 rcases open_slice ht h with ⟨rfl,_⟩|⟨a,len,cap,m,n,D,Pl,rfl,_,hl,hc,hm,_,hr⟩
 ·exact ⟨[],⟨by simp,qt _⟩,_,_,rfl,⟨none,0,0,rfl,rfl,Nat.le_refl _,fun _=>rfl,trivial⟩,rfl⟩
 ·simp only[if_true] at hm
  have each:∀i,i<len→∃y:α,ok y∧∃vs:List Value,vs.length=k∧RepL (I0 W) (enc y) vs∧∀j (u:Value),vs[j]?=some u→W.cell? (a.add (i*k+j))=some u:=by
   intro i hi
   obtain ⟨cs,h1,h2⟩:=hr i (by omega)
   rw[hk] at h1
   obtain ⟨_,hcl,hat⟩:=World.cells?_some h1
   obtain ⟨y,hy,hrep⟩:=he en held n cs _ h2
   refine ⟨y,hy,cs,hcl,hrep,fun j u hu=>?_⟩
   have hj:j<k:=by have:=(List.getElem?_eq_some_iff.1 hu).1;omega
   have:=hat j hj
   rw[Go.Deep.add_add] at this
   rw[this,hu]
  by_cases h0:len=0
  ·subst h0
   exact ⟨[],⟨by simp,qt _⟩,_,_,rfl,⟨some a,0,cap,rfl,rfl,qt _,fun h=>by (cases h),trivial⟩,rfl⟩
  ·obtain ⟨y0,_⟩:=each 0 (by omega)
   have:Inhabited α:=⟨y0⟩
   obtain ⟨Y,hY⟩:=choose_lt each
   have ha:a=⟨a.block,a.off,none⟩:=by
    obtain ⟨_,vs,hvl,_,hat⟩:=hY 0 (by omega)
    have:=hat 0 _ (qq (show 0<vs.length by omega))
    rw[Nat.zero_mul] at this
    exact (oK (by simpa [Addr.add] using this)).1
   refine ⟨(List.range len).map Y,⟨?_,by simp;omega⟩,_,_,Z,⟨some a,len,cap,Z,by simp,hl,fun h=>by (cases h),RepR.intro fun j r hj=>?_⟩,Z⟩
   ·intro x hx
    obtain ⟨i,hi,rfl⟩:=List.mem_map.1 hx
    exact (hY i (by simpa using hi)).1
   ·rw[qy,qy] at hj
    have hjl:j<len:=by
     rcases Nat.lt_or_ge j len with h|h
     ·exact h
     ·rw[List.getElem?_eq_none (by simpa using h)] at hj;cases hj
    rw[List.getElem?_range hjl] at hj
    simp only[Option.map_some,Option.some.injEq] at hj
    subst hj
    obtain ⟨_,vs,hvl,hrep,hat⟩:=hY j hjl
    refine ⟨a.block,a.off,vs,by rw[←ha],hvl,hrep,fun i u hu=>?_⟩
    have:=hat i u hu
    rw[ha,bK] at this
    have:=(oK this).2
    rw[Nat.zero_add,Nat.add_assoc];exact this
theorem RepL.fld {I:G} {cs:List Value} {e es:List AV} {o k:Nat} (h1:RepL I e ((cs.drop o).take k)) (h2:RepL I es (cs.drop (o+k))):RepL I (e++es) (cs.drop o):=by
 have:=h1.append h2
 rwa [←List.drop_drop,List.take_append_drop] at this
theorem RepL.fin {I:G} {cs:List Value} {o:Nat} (h:cs.length=o):RepL I [] (cs.drop o):=List.drop_eq_nil_of_le (by omega)
theorem fQ.at {α:Type} {enc:α→List AV} {ok:α→Prop} {f:Field} {H:Type} {en:TypeId × Value→H} {held:Bool} {n o k i:Nat} {cs:List Value} {xs:List (DataW H × List MemPlace)}
  (h1:DataW.trod en P W 0 (fun _=>true) held n f.type ((cs.drop f.offset).take (P.cellsOf f.type))=xs[i]?) (hd:fQ P W f.type enc ok) (h2:i<xs.length) (ho:f.offset=o) (hk:P.cellsOf f.type=k) :
  ∃a,ok a∧RepL (I0 W) (enc a) ((cs.drop o).take k):=by
 rw[qq h2,ho,hk] at h1
 exact hd en held n _ _ h1
theorem fQ.pair {α:Type} {enc:α→List AV} {ok:α→Prop} {k:Nat} (ht:P.underlying T=some (.array 2 e)) (he:fQ P W e enc ok) (hk:P.cellsOf e=k) (hT:P.cellsOf T=k+k) :
  fQ P W T (fun x:α × α=>enc x.1++enc x.2) (fun x=>ok x.1∧ok x.2):=fun en held fuel cs x h=>by
 obtain ⟨xs,m,_,_,hl,hxl,hf⟩:=DataW.trod_array ht h
 have h0:=hf 0 (by omega)
 have h1:=hf 1 (by omega)
 rw[qq (by omega),hk] at h0 h1
 rw[Nat.zero_mul] at h0
 rw[Nat.one_mul] at h1
 obtain ⟨a,ha,ra⟩:=he en held m _ _ h0
 obtain ⟨b,hb,rb⟩:=he en held m _ _ h1
 refine ⟨(a,b),⟨ha,hb⟩,?_⟩
 have hcl:cs.length=k+k:=by rw[hl,hT]
 have h2:(cs.drop k).take k=cs.drop k:=List.take_of_length_le (by rw[List.length_drop];omega)
 rw[h2] at rb
 have:=ra.append rb
 rw[List.drop_zero,List.take_append_drop] at this
 exact this
end
theorem oL {P:Program} {W:World} {name:String} {k:IntKind} {zs:List Int} {g:Nat} {t e:TypeId} {n:Nat}
  (hg:P.globalNamed name=some g) (hty:(P.globals[g]?).map (·.type)=some t) (ht:P.underlying t=some (.array n e)) (he:P.underlying e=some (.int k)) (hce:P.cellsOf e=1) (hct:P.cellsOf t=n)
  (h:Lib.VarReads P W name (Lib.tabData k zs)):Lib.TabIs P W name k zs:=by
 obtain ⟨g',t',cs,fuel,p,hg',ht',hvar,hd⟩:=h
 obtain rfl:=Option.some.inj (hg.symm.trans hg')
 obtain rfl:=Option.some.inj (hty.symm.trans ht')
 unfold Lib.TabIs
 rw[hvar,←Lib.cells_of_tab ht he hce hct hd]
theorem aZ.call {P:Program} {W:World} {f:FuncId} {us:List AV} {vs:List Value} {r:AV} (h:aZ P W f us r) (hr:RepL (I0 W) us vs) (hp:r.plain=true):Calls P f vs.toArray W fun e w'=>∃v,e=.returned v∧cf (I0 W) r v∧Below W.heap.size W w':=by
 have:=(h (I0 W) [] W vs hr ⟨⟨0,fun _ _=>rfl⟩,[],rfl,F6 W⟩).2
 refine this.mono fun e w' ⟨v,he,J,x,O',hle,hx,hS,hxr⟩=>⟨v,he,?_,?_⟩
 ·subst hxr;exact AV.plain_rep hp hx
 ·obtain ⟨_,L,_,hSL⟩:=hS
  exact hSL.belowE
end
section
open Go.Proofs.Tryz
section
variable {E:World} {P:Program} {n:Nat} {env:aO} {O O' O'':OL} {i k m:Nat} {T:TypeId} {rows rows':List (List AV)}
end
section
variable {E:World} {P:Program} {f:FuncId} {us bs:List AV} {r:AV}
end
section
variable {E:World} {P:Program} {n:Nat} {ops:Array Oper} {K:aO→OL→Prop} {env:aO} {O O':OL} {rest:List Oper}
variable {d ty:Nat} {pos:String} {af:Array Edge} {t e:TypeId} {x y:Operand} {L:List (Nat × Obj)}
end
end
section
open Go.Proofs.Tryz
section
variable {E:World} {P:Program} {n:Nat} {ops:Array Oper} {K:aO→OL→Prop} {env:aO} {O O':OL} {rest:List Oper}
variable {d ty:Nat} {pos:String} {af:Array Edge} {t e:TypeId} {x y:Operand}
end
end
section
open Go.Proofs.Tryz
def jF (s:ByteArray):List (ByteArray × Int)→Option Int
 |[]=>none
 |(k,v)::es=>if s=k then some v else jF s es
def nq (s:ByteArray) (v:Int):List (ByteArray × Int)→List (ByteArray × Int)
 |[]=>[(s,v)]
 |(k,u)::es=>if s=k then (k,v)::es else (k,u)::nq s v es
def mZ (p:ByteArray × Int):Value × Value:=(.string p.1,.int .i64 p.2)
def Ln (b:Nat) (es:List (ByteArray × Int)) (L:List (Nat × Obj)):Prop:=∃(arr:Array MapEntry) (clock:Nat),L=[(b,.map arr clock)]∧arr.toList.map (fun e=>(e.key,e.val))=es.map mZ
def Cc (b:Nat) (es:List (ByteArray × Int)):bF:=.heap (Ln b es)
def Cd (b:Nat):AV:=.raw (.map (some b))
theorem iN {s:ByteArray}:∀{l:List MapEntry} {es:List (ByteArray × Int)} {i:Nat},l.map (fun e=>(e.key,e.val))=es.map mZ→jF s es=none→Instr.findNow .string (.string s) l i=some none
 |[],[],_,_,_=>rfl
 |[],_::_,_,h,_=>by cases h
 |_::_,[],_,h,_=>by cases h
 |e::l,(k,v)::es,i,h,hg=>by
  simp only[List.map_cons,List.cons.injEq,mZ,Prod.mk.injEq] at h
  obtain ⟨⟨h1,_⟩,h2⟩:=h
  simp only[jF] at hg
  split at hg
  ·cases hg
  ·rename_i hne
   unfold Instr.findNow
   rw[h1]
   have:(s == k)=false:=Bool.eq_false_iff.2 fun h=>hne ((MapKept.bytes_beq s k).1 h)
   simp only[Instr.sameNow,this]
   exact iN h2 hg
theorem iO {s:ByteArray} {u:Int}:∀{l:List MapEntry} {es:List (ByteArray × Int)} {i:Nat},l.map (fun e=>(e.key,e.val))=es.map mZ→jF s es=some u →
  ∃j,Instr.findNow .string (.string s) l i=some (some (i+j,.int .i64 u))∧(∃e,l[j]?=some e∧e.key=.string s)∧∀v,es.set j (s,v)=nq s v es
 |[],[],_,_,hg=>by cases hg
 |[],_::_,_,h,_=>by cases h
 |_::_,[],_,h,_=>by cases h
 |e::l,(k,v)::es,i,h,hg=>by
  simp only[List.map_cons,List.cons.injEq,mZ,Prod.mk.injEq] at h
  obtain ⟨⟨h1,h3⟩,h2⟩:=h
  simp only[jF] at hg
  unfold Instr.findNow
  rw[h1]
  split at hg
  ·rename_i heq
   subst heq
   cases hg
   refine ⟨0,?_,⟨e,Z,h1⟩,fun v=>?_⟩
   ·have hss:(s == s)=true:=(MapKept.bytes_beq s s).2 rfl
    simp only[Instr.sameNow,hss]
    rw[h3];rfl
   ·simp[nq]
  ·rename_i hne
   have hb:(s == k)=false:=Bool.eq_false_iff.2 fun h=>hne ((MapKept.bytes_beq s k).1 h)
   obtain ⟨j,g1,g2,g3⟩:=iO (i:=i+1) h2 hg
   refine ⟨j+1,?_,by simpa using g2,fun v=>?_⟩
   ·simp only[Instr.sameNow,hb,g1]
    congr 3;omega
   ·simp[nq,hne,g3]
section
variable {E:World} {P:Program} {n:Nat} {ops:Array Oper} {K:aO→OL→Prop} {env:aO} {O O':OL} {rest:List Oper}
variable {d ty:Nat} {pos:String} {af:Array Edge} {t e kt:TypeId} {x y z:Operand} {b i:Nat} {es:List (ByteArray × Int)}
theorem ao.makeMap (k:∀b,ao P E ops K rest (bD env d (Cd b)) ((0,Cc b [])::O)):ao P E ops K (Oper.mk (some d) (.makeMap t none) ty pos af none::rest) env O:=fun I F ρ w h1 ⟨ht,L,hL,hS⟩=>by
 refine bL.step Z ?_
 unfold ei
 have:(execOp (Go.Proofs.YtjpnhkmfhlnpcaaGreatDoor.ev ρ) (Oper.mk (some d) (.makeMap t none) ty pos af none)).run P w=.ok (.value (.map (some w.heap.size))) (w.alloc (.map #[] 0)):=by
  simp only[execOp,Option.map_none]
  rw[Sem.run_bind,run_makeMap_plain];rfl
 rw[this]
 exact k w.heap.size I F _ _ (h1.upd d rfl) ⟨ht,(w.heap.size,.map #[] 0)::L,⟨[_],L,rfl,⟨#[],0,rfl,rfl⟩,hL⟩,hS.alloc _⟩
theorem IQ {I:G} {L:List (Nat × Obj)} (hO:qD O i (Cc b es)) (hL:bS I O L):∃(arr:Array MapEntry) (clock:Nat),(b,Obj.map arr clock)∈L∧arr.toList.map (fun e=>(e.key,e.val))=es.map mZ:=by
 obtain ⟨O',hO⟩:=hO
 obtain ⟨A,B,hp,⟨arr,clock,rfl,h2⟩,_⟩:=hO.rep hL
 exact ⟨arr,clock,hp.mem_iff.2 (by simp),h2⟩
theorem ao.mapSet {s:ByteArray} {v:Int} (ht:P.underlying t=some (.map kt e)) (hk:P.underlying kt=some .string) (hx:bf env x=Cd b) (hy:bf env y=.str s) (hz:bf env z=.int .i64 v) (hO:gB O i (Cc b es) (Cc b (nq s v es)) O')
  (k:ao P E ops K rest env O'):ao P E ops K (Oper.mk none (.mapUpdate t x y z) ty pos af none::rest) env O:=fun I F ρ w h1 ⟨htop,L,hL,hS⟩=>by
 have hx:=rj h1 hx
 have hy:=F0 h1 hy
 have hz:=gD h1 hz
 obtain ⟨A,B,hp,⟨arr,clock,rfl,he⟩,hback⟩:=hO.rep hL
 have hS2:SL I.k ((b,.map arr clock)::(B++F)) E w:=hS.perm ((hp.append_right F).symm)
 have hb:=hS2.own _ (.head _)
 simp only at hb
 have hc:(Instr.checkKey false 10000 kt (.string s)).run P w=.ok () w:=MapKept.run_checkKey (k:=.string s) hk (by simp[MapKept.IsKey]) false 9999
 have fin:∀(arr':Array MapEntry) (clock':Nat),arr'.toList.map (fun e=>(e.key,e.val))=(nq s v es).map mZ →
   (execOp (Go.Proofs.YtjpnhkmfhlnpcaaGreatDoor.ev ρ) (Oper.mk none (.mapUpdate t x y z) ty pos af none)).run P w=.ok .skip { w with heap:=w.heap.setIfInBounds b (.map arr' clock') }→bL P ops (eV I F E K) (Oper.mk none (.mapUpdate t x y z) ty pos af none::rest) ρ w:=fun arr' clock' he' hrun=>by
  refine bL.step Z ?_
  unfold ei
  rw[hrun]
  obtain ⟨L',h7,h8⟩:=hback (G.le.refl I) (A':=[(b,.map arr' clock')]) ⟨arr',clock',rfl,he'⟩
  have hh:=MapKept.heap_set (o':=.map arr' clock') hb
  have hS3:SL I.k ((b,.map arr' clock')::(B++F)) E { w with heap:=w.heap.setIfInBounds b (.map arr' clock') }:=hS2.turn rfl rfl rfl hh.1 hh.2
  exact k I F ρ _ h1 ⟨htop,L',h7,hS3.perm (h8.append_right F)⟩
 cases hg:jF s es with
 |none=>
  have hf:=iN (i:=0) he hg
  refine fin (arr.push { key:=.string s,val:=.int .i64 v,born:=clock }) (clock+1) ?_ ?_
  ·have hset:∀es:List (ByteArray × Int),jF s es=none→nq s v es=es++[(s,v)]:=fun es=>by
    induction es with
    |nil=>intro _;rfl
    |cons x es ih=>
     obtain ⟨k,u⟩:=x
     intro hg
     simp only[jF] at hg
     split at hg
     ·cases hg
     ·rename_i hne;simp[nq,hne,ih hg]
   rw[hset es hg]
   simp[he,mZ]
  ·simp[execOp,hx,hy,hz,Instr.mapUpdate,run_underlying ht,MapKept.run_getObj_map hb,hc,MapKept.run_findKey hk hf,MapKept.run_setObj_map _ hb,Result.andThen]
 |some u=>
  obtain ⟨j,hf,⟨e0,hj,hkey⟩,hset⟩:=iO (i:=0) he hg
  rw[Nat.zero_add] at hf
  have hj':arr[j]?=some e0:=by rw[←Array.getElem?_toList];exact hj
  refine fin (arr.modify j fun e=>{ e with key:=.string s,val:=.int .i64 v }) clock ?_ ?_
  ·rw[←hset v,List.map_set]
   have hjl:j<arr.toList.length:=(List.getElem?_eq_some_iff.1 hj).1
   have:(arr.modify j fun e=>{ e with key:=.string s,val:=.int .i64 v }).toList=arr.toList.set j { e0 with key:=.string s,val:=.int .i64 v }:=by
    apply List.ext_getElem?
    intro q
    rw[Array.getElem?_toList,Array.getElem?_modify]
    by_cases hq:j=q
    ·subst hq
     rw[if_pos rfl,hj',List.getElem?_set_self hjl];rfl
    ·rw[if_neg hq,List.getElem?_set_ne hq,Array.getElem?_toList]
   rw[this,List.map_set,he];rfl
  ·have hkeep:(Instr.keyThatStays (.string s) (.string s)).run P w=.ok (.string s) w:=by
    have hss:(s == s)=true:=(MapKept.bytes_beq s s).2 rfl
    simp[Instr.keyThatStays,Instr.sameBits,hss]
   simp[execOp,hx,hy,hz,Instr.mapUpdate,run_underlying ht,MapKept.run_getObj_map hb,hc,MapKept.run_findKey hk hf,MapKept.run_setObj_map _ hb,Result.andThen,hj',hkey,hkeep]
end
end
section
open Go.Proofs.Tryz
section
variable {E:World} {P:Program} {n:Nat} {ops:Array Oper} {K:aO→OL→Prop} {env:aO} {O O':OL} {rest:List Oper} {R:AV→OL→Prop}
variable {d ty:Nat} {pos:String} {af:Array Edge} {t e:TypeId} {x y:Operand}
theorem dh.c1t {t u T i:Nat} {T':TypeId} {cs:List AV} {n:Nat} {y:AV} (hv:env t=.po i 0) (hu:env u=y) (hO:qD O i (.cells T' cs)) (ha:∀w,(isAgg T).run P w=.ok true w) (hs:∀w,(sizeOf T).run P w=.ok n w) (hn:cs.length=n) (h:R (.tup [.agg cs,y]) O) :
  dh P E #[.cell t T,.tmp u] R .ret env O:=dh.of (x:=.tup [.agg cs,y]) (fun I F ρ w h1 h2=>by
 obtain ⟨L,hL,hS⟩:=h2.2
 have h3:=h1 t
 rw[hv] at h3
 obtain ⟨b,c,e1,e⟩:=h3
 obtain ⟨b',c',vs,e2,h4,hm⟩:=hO.cells hL
 rw[e1] at e2;cases e2
 have hl:=fE (P:=P) (w:=w) (b:=b) (off:=0) ha (cs:=vs) (by rw[h4.length,hn];exact hs) (fun j v hj=>by
  rw[Nat.zero_add]
  exact hS.at_ (.inr ⟨_,_,_,List.mem_append_left _ hm,by rw[List.getElem?_toArray];exact hj⟩))
 exact ⟨.tuple #[.agg vs.toArray,ρ u],by simp[nj,e,asAddr,hl],⟨[_,_],rfl,_,_,rfl,⟨vs,rfl,h4⟩,_,_,rfl,hu▸h1 u,rfl⟩⟩) h
theorem sm {b off n:Nat} {vs:List Value} {T:TypeId} {old:List Value} {w:World} (hn:vs.length=n) (h1c:∀u∈vs,u.oneCell'=true) (hb:off+n≤old.length) (hown:w.heap[b]?=some (.cells old.toArray T (0,0))) :
  (storeCells (⟨b,off,none⟩:Addr) vs 0).run P w=.ok () (w.setRow b (old.take off++vs++old.drop (off+n)).toArray):=by
 rw[run_storeCells_at (P:=P) b off T vs 0 old.toArray w hown (by simp;omega) h1c]
 simp[hn]
end
end
section
open Go.Proofs.Tryz
section
variable {E:World} {P:Program} {env:aO} {O:OL} {d ty:Nat} {pos:String} {af:Array Edge} {x:Operand} {t u:TypeId}
end
end
section
open Go.Proofs.Tryz
section
variable {E:World} {P:Program} {ops:Array Oper} {K:aO→OL→Prop} {env:aO} {O O' O'':OL} {rest:List Oper} {n:Nat}
variable {d ty:Nat} {pos:String} {af:Array Edge} {x y z:Operand} {t u e:TypeId}
theorem Ce {A row:List AV} {j:Nat} {c:AV} (h:row[j]?=some c):(A++row).drop (A.length+j)=c::row.drop (j+1):=by
 obtain ⟨hj,rfl⟩:=List.getElem?_eq_some_iff.1 h
 rw[List.drop_append,List.drop_eq_nil_of_le (by omega),Nat.add_sub_cancel_left,List.nil_append]
 exact List.drop_eq_getElem_cons hj
theorem Gv.loadL {i off j k:Nat} {T:TypeId} {c:AV} {A row:List AV} (ha:∀w,(isAgg t).run P w=.ok false w) (hx:bf env x=.po i off) (hoff:off=A.length+j) (hO:qD O i (.grow k T (A++row))) (hv:row[j]?=some c) :
  Gv P env O (Oper.mk (some d) (.load t x) ty pos af none) c:=Gv.load1G ha hx hO (by subst hoff;exact Ce hv)
theorem ao.storeL {i off j m k:Nat} {T:TypeId} {v:AV} {A row l new:List AV} (hs:∀w,(sizeOf t).run P w=.ok m w) (hx:bf env x=.po i off) (hoff:off=A.length+j) (hy:bf env y=v) (hv:v.sto=true) (hl:v.cs=l) (hl1:l.all AV.cell=true) (hn:l.length=m)
  (hO:gB O i (.grow k T (A++row)) (.grow k T (A++new)) O') (hb:Nat.ble (j+m) row.length=true) (hm:Nat.ble 1 m=true) (hnew:row.take j++l++row.drop (j+m)=new) (kk:ao P E ops K rest env O'):ao P E ops K (Oper.mk none (.store t x y) ty pos af none::rest) env O:=
 ao.storeG hs hx hy hv hl hl1 hn hO (by have:=Nat.le_of_ble_eq_true hb;rw[qw];omega) (Nat.le_of_ble_eq_true hm) (by
  have:=Nat.le_of_ble_eq_true hb
  subst hoff hnew
  rw[List.take_append,List.take_of_length_le (by omega:A.length≤A.length+j),Nat.add_sub_cancel_left,List.drop_append,List.drop_eq_nil_of_le (by omega:A.length≤A.length+j+m),Nat.add_assoc,Nat.add_sub_cancel_left]
  simp) kk
theorem Gv.idxOL {i n k j r:Nat} {a:Int} {T:TypeId} {cs:List AV} (ht:P.underlying t=some (.slice e)) (hs:∀w,(sizeOf e).run P w=.ok k w) (hx:bf env x=.own i n) (hy:bf env y=.int .i64 a) (hi:a=(j:Int)) (hO:qD O i (.grow k T cs)) (hne:cs≠[]) (hj:j<n) (hr:j*k=r) :
  Gv P env O (Oper.mk (some d) (.indexAddr t x y) ty pos af none) (.po i r):=hr▸Gv.idxO ht hs hx hy hi hO hne hj
end
section
variable {P:Program} {E:World} {l:List Oper} {W:Nat→Bool} {fuel:Nat} {listed:Array Bool} {d ty:Nat} {op:Op} {pos:String} {af:Array Edge}
end
theorem aX.knowP {E:World} {env:aO} {O O':OL} {t i:Nat} {T:TypeId} {cs:List AV} (hv:env t=.po i 0) (hO:dv O i (.cells T cs) O'):aX E env O (bD env t (.pf cs)) O':=fun I F ρ w h1 ⟨ht,L,hL,hS⟩=>by
 obtain ⟨A,B,hp,⟨b,c,vs,e1,hvs,hvc,rfl⟩,hB⟩:=hO.rep hL
 simp only at e1
 have hS2:SL I.k ((b,.cells vs.toArray T (0,0))::(B++F)) E w:=hS.perm ((hp.append_right F).symm)
 obtain ⟨hl,hS3⟩:=SL.freeze hS2
 let J:G:=⟨I.k.put b (.cells vs.toArray T (0,0)),I.h⟩
 have hle:I.le J:=⟨hl,fun _ _ h=>h⟩
 refine ⟨J,hle,fun s=>?_,ht,B,hB.mono hle,hS3⟩
 unfold bD
 cases hb:Nat.beq s t with
 |false=>exact cf.mono hle _ _ (h1 s)
 |true=>
  have:s=t:=Nat.eq_of_beq_eq_true hb
  subst this
  have h2:=h1 s
  rw[hv] at h2
  obtain ⟨b2,c2,e2,e3⟩:=h2
  rw[e1] at e2
  simp only[Option.some.injEq,Prod.mk.injEq] at e2
  obtain ⟨rfl,rfl⟩:=e2
  exact ⟨b,0,vs,e3,RepL.mono hle _ _ hvs,fun j u hj=>⟨_,_,_,aP.put_same _ _ _,by rw[Nat.zero_add,List.getElem?_toArray];exact hj⟩⟩
end
section
open Go.Proofs.Tryz
section
variable {E:World} {P:Program} {ops:Array Oper} {K:aO→OL→Prop} {env:aO} {O O':OL} {rest:List Oper}
variable {d ty:Nat} {pos:String} {af:Array Edge} {x y z:Operand} {t u e:TypeId}
end
end
section
open Go.Proofs.Tryz
section
variable {P:Program} {env:aO} {O:OL}
variable {d ty:Nat} {pos:String} {af:Array Edge} {x y:Operand}
theorem Gv.minI {ts:Array TypeId} {k:IntKind} {a b:Int} (hx:bf env x=.int k a) (hy:bf env y=.int k b):Gv P env O (Oper.mk (some d) (.call { callee:=.builtin .min,args:=#[x,y],argTypes:=ts }) ty pos af none) (.int k (if b<a then b else a)):=Gv.ofEv fun I ρ h=>⟨_,rfl,fun w=>by
 simp[execOp,resolve,gD h hx,gD h hy,invoke,builtin,Builtin.min_,Builtin.min2,Result.andThen]⟩
end
end
section
open Go.Proofs.Tryz
open Go.Lib
section
variable {P:Program} {ops:Array Oper} {K:bU→World→Prop} {ρ:bU} {w:World} {rest:List Oper}
variable {d ty:Nat} {pos:String} {af:Array Edge} {x y z:Operand} {t u e:TypeId}
variable {I:aP} {O A:List (Nat × Obj)} {E:World}
end
section
variable {E:World} {P:Program} {ops:Array Oper} {K:aO→OL→Prop} {env:aO} {O O':OL} {rest:List Oper}
variable {d ty:Nat} {pos:String} {af:Array Edge} {x y z:Operand} {t u e:TypeId}
end
section
variable {E:World} {P:Program} {env:aO} {O:OL} {d ty:Nat} {pos:String} {af:Array Edge} {t e kt:TypeId} {x y:Operand} {b i:Nat} {es:List (ByteArray × Int)}
theorem Gv.lookup1S {s:ByteArray} (ht:P.underlying t=some (.map kt e)) (hk:P.underlying kt=some .string) (hz:∀w,(zeroValue e).run P w=.ok (.int .i64 0) w) (hx:bf env x=Cd b) (hy:bf env y=.str s) (hO:qD O i (Cc b es)) :
  Gv P env O (Oper.mk (some d) (.lookup t x y false) ty pos af none) (.int .i64 ((jF s es).getD 0)):=fun I L E ρ h1 hL=>by
 obtain ⟨arr,clock,hm,he⟩:=IQ hO hL
 have hx:=rj h1 hx
 have hy:=F0 h1 hy
 refine ⟨.int .i64 ((jF s es).getD 0),Z,fun w J L' hl hS hin=>?_⟩
 have hb:=hS.own _ (hin _ hm)
 simp only at hb
 have hc:(Instr.checkKey arr.isEmpty 10000 kt (.string s)).run P w=.ok () w:=MapKept.run_checkKey (k:=.string s) hk (by simp[MapKept.IsKey]) _ 9999
 cases hg:jF s es with
 |none=>
  have hf:=iN (i:=0) he hg
  simp[execOp,Instr.lookup,run_underlying ht,hx,hy,MapKept.run_getObj_map hb,hc,MapKept.run_findKey hk hf,hz,Result.andThen]
 |some u=>
  obtain ⟨j,hf,_⟩:=iO (i:=0) he hg
  simp[execOp,Instr.lookup,run_underlying ht,hx,hy,MapKept.run_getObj_map hb,hc,MapKept.run_findKey hk hf,Result.andThen]
end
theorem tG (s v:ByteArray) (n:Int):∀es:List (ByteArray × Int),jF s (nq v n es)=if s=v then some n else jF s es
 |[]=>by simp only[nq,jF]
 |(k,u)::es=>by
  simp only[nq]
  split
  ·rename_i h;subst h;simp only[jF];split<;>rfl
  ·rename_i h
   simp only[jF,tG s v n es]
   split
   ·rename_i h2;subst h2;rw[if_neg (fun e=>h e.symm)]
   ·rfl
end
section
open Go.Proofs.Tryz
def cI (l:List Int):List AV:=l.map (AV.int .i64)
def cB (l:List Bool):List AV:=l.map AV.bool
theorem aJ (l:List Int):(cI l).length=l.length:=by simp[cI]
theorem bt (l:List Bool):(cB l).length=l.length:=by simp[cB]
theorem nR (l:List Int):(l.map fun x=>[AV.int .i64 x]).flatten=cI l:=by
 induction l with
 |nil=>rfl
 |cons x l ih=>simp only[List.map_cons,List.flatten_cons,ih];rfl
theorem F7 (l:List Bool):(l.map fun x=>[AV.bool x]).flatten=cB l:=by
 induction l with
 |nil=>rfl
 |cons x l ih=>simp only[List.map_cons,List.flatten_cons,ih];rfl
theorem bN (l:List Int):(cI l).all AV.cell=true:=by
 unfold cI;rw[List.all_map];exact List.all_eq_true.2 fun _ _=>rfl
theorem dz (l:List Bool):(cB l).all AV.cell=true:=by
 unfold cB;rw[List.all_map];exact List.all_eq_true.2 fun _ _=>rfl
theorem oM (l m:List Int):cI l++cI m=cI (l++m):=by simp[cI]
theorem IR (l:List Int) (j:Nat) (v:Int):(cI l).set j (.int .i64 v)=cI (l.set j v):=by unfold cI;rw[List.map_set]
theorem IU (l:List Bool) (j:Nat) (v:Bool):(cB l).set j (.bool v)=cB (l.set j v):=by unfold cB;rw[List.map_set]
theorem F8 {l:List Int} {j:Nat} {v:Int} (h:l[j]?=some v):(cI l).drop j=.int .i64 v::(cI l).drop (j+1):=by
 obtain ⟨hj,e⟩:=List.getElem?_eq_some_iff.1 h
 rw[List.drop_eq_getElem_cons (by rw[aJ];exact hj)]
 unfold cI
 rw[List.getElem_map,e]
theorem F9 {l:List Bool} {j:Nat} {v:Bool} (h:l[j]?=some v):(cB l).drop j=.bool v::(cB l).drop (j+1):=by
 obtain ⟨hj,e⟩:=List.getElem?_eq_some_iff.1 h
 rw[List.drop_eq_getElem_cons (by rw[bt];exact hj)]
 unfold cB
 rw[List.getElem_map,e]
theorem IV (n:Nat) (v:Int):List.replicate n (AV.int .i64 v)=cI (List.replicate n v):=by simp[cI]
theorem IW (n:Nat) (v:Bool):List.replicate n (AV.bool v)=cB (List.replicate n v):=by simp[cB]
theorem Cf (I:G) (l:List Int):RepL I (cI l) (l.map (Value.int .i64)):=by
 unfold cI
 induction l with
 |nil=>rfl
 |cons x l ih=>exact ⟨_,_,rfl,rfl,ih⟩
theorem Ip {I:G}:∀{l:List Int} {vs:List Value},RepL I (cI l) vs→vs=l.map (Value.int .i64)
 |[],_,h=>h
 |x::l,_,⟨v,us,e,h1,h2⟩=>by
  have h1:v=.int .i64 x:=h1
  rw[e,h1,Ip h2];rfl
section
variable {E:World} {P:Program} {ops:Array Oper} {K:aO→OL→Prop} {env:aO} {O O' O'':OL} {rest:List Oper} {n:Nat}
variable {d ty:Nat} {pos:String} {af:Array Edge} {x y z:Operand} {t u e:TypeId}
theorem Gv.idxI {i n j:Nat} {a:Int} {T:TypeId} {cs:List AV} (ht:P.underlying t=some (.slice e)) (hs:∀w,(sizeOf e).run P w=.ok 1 w) (hx:bf env x=.own i n) (hy:bf env y=.int .i64 a) (hi:a=(j:Int)) (hO:qD O i (.grow 1 T cs)) (hn:cs.length=n) (hj:j<n) :
  Gv P env O (Oper.mk (some d) (.indexAddr t x y) ty pos af none) (.po i j):=
 Gv.idxOL ht hs hx hy hi hO (fun e=>by rw[e] at hn;simp at hn;omega) hj (Nat.mul_one j)
theorem Gv.loadI {i j:Nat} {T:TypeId} {l:List Int} {v:Int} (ha:∀w,(isAgg t).run P w=.ok false w) (hx:bf env x=.po i j) (hO:qD O i (.grow 1 T (cI l))) (hv:l[j]?=some v) :
  Gv P env O (Oper.mk (some d) (.load t x) ty pos af none) (.int .i64 v):=Gv.load1G ha hx hO (F8 hv)
theorem Gv.loadB {i j:Nat} {T:TypeId} {l:List Bool} {v:Bool} (ha:∀w,(isAgg t).run P w=.ok false w) (hx:bf env x=.po i j) (hO:qD O i (.grow 1 T (cB l))) (hv:l[j]?=some v) :
  Gv P env O (Oper.mk (some d) (.load t x) ty pos af none) (.bool v):=Gv.load1G ha hx hO (F9 hv)
theorem gB.cast {i k:Nat} {T:TypeId} {o:bF} {cs ds:List AV} (h:gB O i o (.grow k T cs) O') (e:cs=ds):gB O i o (.grow k T ds) O':=e▸h
theorem ao.storeI {i j:Nat} {T:TypeId} {l:List Int} {v:Int} (hs:∀w,(sizeOf t).run P w=.ok 1 w) (hx:bf env x=.po i j) (hy:bf env y=.int .i64 v) (hO:gB O i (.grow 1 T (cI l)) (.grow 1 T (cI (l.set j v))) O') (hb:j<l.length)
  (kk:ao P E ops K rest env O'):ao P E ops K (Oper.mk none (.store t x y) ty pos af none::rest) env O:=
 ao.storeG1 (cs:=cI l) hs hx hy rfl rfl rfl (hO.cast (IR l j v).symm) (by rw[aJ];exact hb) kk
theorem ao.storeB {i j:Nat} {T:TypeId} {l:List Bool} {v:Bool} (hs:∀w,(sizeOf t).run P w=.ok 1 w) (hx:bf env x=.po i j) (hy:bf env y=.bool v) (hO:gB O i (.grow 1 T (cB l)) (.grow 1 T (cB (l.set j v))) O') (hb:j<l.length)
  (kk:ao P E ops K rest env O'):ao P E ops K (Oper.mk none (.store t x y) ty pos af none::rest) env O:=
 ao.storeG1 (cs:=cB l) hs hx hy rfl rfl rfl (hO.cast (IU l j v).symm) (by rw[bt];exact hb) kk
theorem ao.makeI {i:TypeInfo} {zv:Value} {m:Nat} {k1 k2:IntKind} {l l':Int} (ht:P.underlying t=some (.slice e)) (hi:P.info? e=some i) (hz:i.zero=some zv) (hzc:zv.cells=#[.int .i64 0]) (hk:i.size=1) (hx:bf env x=.int k1 l) (hy:bf env y=.int k2 l')
  (hl:l=(m:Int)) (hl':l'=(m:Int)) (hb:(i.bytes:Int)*(m:Int)≤281474976710656) (hm:m≤281474976710656) (kk:∀j,ao P E ops K rest (bD env d (.own j m)) ((j,.grow 1 e (cI (List.replicate m 0)))::O)) :
  ao P E ops K (Oper.mk (some d) (.makeSlice t x y) ty pos af none::rest) env O:=
 ao.make1 ht hi hz hzc hk hx hy hl hl' hb hm rfl fun j=>by rw[show lit (.int .i64 0)=AV.int .i64 0 from rfl,IV];exact kk j
theorem ao.makeB {i:TypeInfo} {zv:Value} {m:Nat} {k1 k2:IntKind} {l l':Int} (ht:P.underlying t=some (.slice e)) (hi:P.info? e=some i) (hz:i.zero=some zv) (hzc:zv.cells=#[.bool false]) (hk:i.size=1) (hx:bf env x=.int k1 l) (hy:bf env y=.int k2 l')
  (hl:l=(m:Int)) (hl':l'=(m:Int)) (hb:(i.bytes:Int)*(m:Int)≤281474976710656) (hm:m≤281474976710656) (kk:∀j,ao P E ops K rest (bD env d (.own j m)) ((j,.grow 1 e (cB (List.replicate m false)))::O)) :
  ao P E ops K (Oper.mk (some d) (.makeSlice t x y) ty pos af none::rest) env O:=
 ao.make1 ht hi hz hzc hk hx hy hl hl' hb hm rfl fun j=>by rw[show lit (.bool false)=AV.bool false from rfl,IW];exact kk j
theorem aX.knowI {t i m:Nat} {T:TypeId} {l:List Int} (hv:env t=.own i m) (hO:dv O i (.grow 1 T (cI l)) O') (hm:l.length=m):aX E env O (bD env t (.fro 1 (l.map fun x=>[.int .i64 x]))) O':=
 aX.know hv (by rw[nR];exact hO) (fun r hr=>by obtain ⟨_,_,rfl⟩:=List.mem_map.1 hr;rfl) (by decide) (by rw[qx];exact hm)
theorem aX.knowB {t i m:Nat} {T:TypeId} {l:List Bool} (hv:env t=.own i m) (hO:dv O i (.grow 1 T (cB l)) O') (hm:l.length=m):aX E env O (bD env t (.fro 1 (l.map fun x=>[.bool x]))) O':=
 aX.know hv (by rw[F7];exact hO) (fun r hr=>by obtain ⟨_,_,rfl⟩:=List.mem_map.1 hr;rfl) (by decide) (by rw[qx];exact hm)
end
structure f6 (α:Type) where
 k:Nat
 val:α→List Value
 pos:0<k
 len:∀x,(val x).length=k
 one:∀x,∀u∈val x,u.oneCell'=true
variable {α:Type}
def f6.vs (c:f6 α) (l:List α):List Value:=l.flatMap c.val
def f6.row (c:f6 α) (x:α):List AV:=(c.val x).map lit
def f6.av (c:f6 α) (l:List α):List AV:=l.flatMap c.row
theorem f6.vs_len (c:f6 α) (l:List α):(c.vs l).length=l.length*c.k:=by
 unfold f6.vs
 induction l with
 |nil=>simp
 |cons x l ih=>rw[List.flatMap_cons,qw,ih,c.len,List.length_cons,Nat.add_mul];omega
theorem f6.av_eq (c:f6 α) (l:List α):c.av l=(c.vs l).map lit:=by
 unfold f6.av f6.vs
 induction l with
 |nil=>rfl
 |cons x l ih=>rw[List.flatMap_cons,List.flatMap_cons,List.map_append,ih];rfl
theorem f6.av_len (c:f6 α) (l:List α):(c.av l).length=l.length*c.k:=by rw[c.av_eq,qx,c.vs_len]
theorem f6.av_app (c:f6 α) (l m:List α):c.av l++c.av m=c.av (l++m):=by unfold f6.av;rw[List.flatMap_append]
theorem f6.av_push (c:f6 α) (l:List α) (x:α):c.av l++c.row x=c.av (l++[x]):=by rw[←c.av_app];unfold f6.av;simp
theorem f6.vs_one (c:f6 α) (l:List α):∀u∈c.vs l,u.oneCell'=true:=by
 intro u hu
 unfold f6.vs at hu
 obtain ⟨x,_,hx⟩:=List.mem_flatMap.1 hu
 exact c.one x u hx
theorem f6.av_un (c:f6 α) {I:G} {l:List α} {vs:List Value} (h:RepL I (c.av l) vs):vs=c.vs l:=by rw[c.av_eq] at h;exact lJ h
def eI:f6 Int:=⟨1,fun x=>[.int .i64 x],by decide,fun _=>rfl,fun x u hu=>by simp at hu;subst hu;rfl⟩
inductive fu (c:f6 α) (e:TypeId):List (List α)→List Value→List (Nat × Obj)→Prop
 |nil:fu c e [] [] []
 |cons {r rs a n cap hs A B}:fD c.k e a n cap (c.vs r) A→fu c e rs hs B→fu c e (r::rs) (.slice a n cap::hs) (A++B)
theorem fu.len {c:f6 α} {e:TypeId} {rows:List (List α)} {hs:List Value} {L:List (Nat × Obj)} (h:fu c e rows hs L):hs.length=rows.length:=by
 induction h with
 |nil=>rfl
 |cons _ _ ih=>simp[ih]
def Iq (c:f6 α) (e:TypeId) (rows:List (List α)) (j:Nat) (hs:List Value) (B:List (Nat × Obj)):Prop:=
 ∀r' a' n' c' A',fD c.k e a' n' c' (c.vs r') A'→∃L',fu c e (rows.set j r') (hs.set j (.slice a' n' c')) L'∧L'.Perm (A'++B)
theorem fu.get {c:f6 α} {e:TypeId} {rows:List (List α)} {hs:List Value} {L:List (Nat × Obj)} (h:fu c e rows hs L):∀{j:Nat} {r:List α},rows[j]?=some r →
  ∃a n cap A B,hs[j]?=some (.slice a n cap)∧fD c.k e a n cap (c.vs r) A∧L.Perm (A++B)∧Iq c e rows j hs B:=by
 induction h with
 |nil=>intro j r hj;simp at hj
 |@cons r0 rs a n cap hs A B h1 h2 ih=>
  intro j r hj
  cases j with
  |zero=>
   simp at hj;subst hj
   exact ⟨a,n,cap,A,B,rfl,h1,.refl _,fun r' a' n' c' A' h=>⟨A'++B,.cons h h2,.refl _⟩⟩
  |succ j=>
   obtain ⟨a1,n1,c1,A1,B1,g1,g2,g3,g4⟩:=ih (j:=j) (r:=r) (by simpa using hj)
   refine ⟨a1,n1,c1,A1,A++B1,by simpa using g1,g2,?_,fun r' a' n' c' A' h=>?_⟩
   ·refine (g3.append_left A).trans ?_
    rw[←qs,←qs]
    exact List.perm_append_comm.append_right B1
   ·obtain ⟨L',k1,k2⟩:=g4 r' a' n' c' A' h
    refine ⟨A++L',by simpa using fu.cons h1 k1,?_⟩
    refine (k2.append_left A).trans ?_
    rw[←qs,←qs]
    exact List.perm_append_comm.append_right B1
theorem fu.rep (c:f6 α) (e:TypeId):∀m:Nat,fu c e (List.replicate m []) (List.replicate m (.slice none 0 0)) []
 |0=>.nil
 |m+1=>by
  have:=fu.cons (c:=c) (r:=[]) (fD.nil c.k e) (fu.rep c e m)
  simpa [List.replicate_succ] using this
def oN (c:f6 α) (T e:TypeId) (b:Nat) (rows:List (List α)):bF:=.heap fun L=>∃hs B,L=(b,.cells hs.toArray T (0,0))::B∧fu c e rows hs B
def Ir (c:f6 α) (T e:TypeId) (b:Nat) (rows:List (List α)) (j n i:Nat):bF:=.heapG (fun I L=>∃hs B hd,L=(b,.cells hs.toArray T (0,0))::B∧I.h i=some hd∧hs[j]?=some (.slice (adr hd.1) n hd.2)∧hs.length=rows.length∧Iq c e rows j hs B)
 (fun I J L h hp=>by obtain ⟨hs,B,hd,h1,h2,h3⟩:=hp;exact ⟨hs,B,hd,h1,h.h _ _ h2,h3⟩)
def Cg (b n:Nat):AV:=.raw (.slice (some ⟨b,0,none⟩) n n)
def IX (b j:Nat):AV:=.raw (.pointer (some ⟨b,j,none⟩))
theorem fD.adr {k:Nat} {e:TypeId} {a:Option Addr} {n c:Nat} {cs:List Value} {A:List (Nat × Obj)} (h:fD k e a n c cs A):∃b,a=Go.Proofs.YtjpnhkmfhlnpcaaGreatDoor.adr b:=by
 rcases h.2.2 with ⟨e,_⟩|⟨b,junk,e,_⟩
 ·exact ⟨none,e⟩
 ·exact ⟨some b,e⟩
section
variable {E:World} {P:Program} {ops:Array Oper} {K:aO→OL→Prop} {env:aO} {O O' O'':OL} {rest:List Oper} {n:Nat}
variable {d ty:Nat} {pos:String} {af:Array Edge} {x y z:Operand} {t u e T:TypeId}
theorem ao.makeNest {i:TypeInfo} {zv:Value} {m:Nat} {k1 k2:IntKind} {l l':Int} (ht:P.underlying t=some (.slice T)) (hi:P.info? T=some i) (hz:i.zero=some zv) (hzc:zv.cells=#[.slice none 0 0]) (hk:i.size=1) (hx:bf env x=.int k1 l) (hy:bf env y=.int k2 l')
  (hl:l=(m:Int)) (hl':l'=(m:Int)) (hb:(i.bytes:Int)*(m:Int)≤281474976710656) (hm:m≤281474976710656) (c:f6 α) (e:TypeId) (kk:∀b,ao P E ops K rest (bD env d (Cg b m)) ((0,oN c T e b (List.replicate m []))::O)) :
  ao P E ops K (Oper.mk (some d) (.makeSlice t x y) ty pos af none::rest) env O:=fun I F ρ w h1 h2=>by
 obtain ⟨htop,L,hL,hS⟩:=h2
 refine bL.make1 ht hi hz hzc hk (gD h1 hx) (gD h1 hy) hl hl' hb hm hS fun b w' hS'=>?_
 exact kk b I F _ _ (h1.upd d rfl) ⟨htop,_,⟨[(b,.cells (List.replicate m (.slice none 0 0)).toArray T (0,0))],L,rfl,⟨List.replicate m (.slice none 0 0),[],rfl,fu.rep c e m⟩,hL⟩,by simpa using hS'⟩
theorem Gv.idxN {b m j:Nat} {a:Int} (ht:P.underlying t=some (.slice T)) (hs:∀w,(sizeOf T).run P w=.ok 1 w) (hx:bf env x=Cg b m) (hy:bf env y=.int .i64 a) (hi:a=(j:Int)) (hj:j<m) :
  Gv P env O (Oper.mk (some d) (.indexAddr t x y) ty pos af none) (IX b j):=Gv.ofEv fun I ρ h=>by
 have h1:=rj h hx
 have h2:=gD h hy
 subst hi
 have hlt:((j:Int)<(m:Int)):=by omega
 refine ⟨_,Z,fun w=>?_⟩
 simp[execOp,h1,h2,Instr.indexAt,Sem.run_bind,run_underlying ht,hs,hlt,bK,asIntOf]
 intro h;omega
theorem ao.nestTake {c:f6 α} {b j m:Nat} {rows:List (List α)} {r:List α} {f:Nat→OL} (ha:∀w,(isAgg t).run P w=.ok false w) (hx:bf env x=IX b j) (hr:rows[j]?=some r)
  (hO:∀i,gB O m (oN c T e b rows) (Ir c T e b rows j r.length i) (f i)) (kk:∀i,ao P E ops K rest (bD env d (.own i r.length)) ((i,.grow c.k e (c.av r))::f i)) :
  ao P E ops K (Oper.mk (some d) (.load t x) ty pos af none::rest) env O:=fun I F ρ w h1 h2=>by
 obtain ⟨i,hi⟩:=h2.name
 obtain ⟨htop,L,hL,hS⟩:=h2
 have hx:=rj h1 hx
 obtain ⟨A,B,hp,⟨hs,B0,rfl,hN⟩,hback⟩:=(hO i).rep hL
 obtain ⟨a,n,cap,A1,B1,g1,g2,g3,g4⟩:=hN.get hr
 obtain ⟨b1,rfl⟩:=g2.adr
 have hn:n=r.length:=by have:=g2.1;rw[c.vs_len] at this;exact (Nat.eq_of_mul_eq_mul_right c.pos this).symm
 subst hn
 obtain ⟨J,e1,hle,e2,htop'⟩:=hi (b1,cap)
 have hS2:SL I.k ((b,.cells hs.toArray T (0,0))::(B0++(B++F))) E w:=hS.perm (by
  have:=hp.append_right F
  simpa using this.symm)
 obtain ⟨L',h5,h6⟩:=hback hle (A':=(b,.cells hs.toArray T (0,0))::B1) ⟨hs,B1,(b1,cap),rfl,e2,g1,hN.len,g4⟩
 refine bL.load1 (I:=I.k) (O:=(b,.cells hs.toArray T (0,0))::(B0++(B++F))) ha hS2 hx (.inr ⟨_,_,_,.head _,by rw[List.getElem?_toArray];exact g1⟩) ?_
 refine q5 (fun _ _=>qo hle) _ _ _ (kk i J F _ _ ((h1.mono hle).upd d ⟨b1,cap,e2,Z⟩) ⟨htop',A1++L',⟨A1,L',Z,⟨b1,cap,_,c.vs r,e2,by rw[c.av_eq];exact ft J _,c.vs_one r,g2⟩,h5⟩,?_⟩)
 rw[e1]
 refine hS2.perm<|List.Perm.trans ?_ (List.Perm.cons _ ((g3.append_right (B++F)).symm))
 have h7:(A1++L'++F).Perm (A1++((b,Obj.cells hs.toArray T (0,0))::(B1++B))++F):=(h6.append_left A1).append_right F
 refine h7.trans ?_
 simp only[qs,List.cons_append]
 exact List.perm_middle
theorem ao.nestPut {c:f6 α} {b j m i i0 n0 n1 k:Nat} {rows:List (List α)} {r:List α} {cs:List AV} (hs1:∀w,(sizeOf t).run P w=.ok 1 w) (hx:bf env x=IX b j) (hy:bf env y=.own i n1) (hj:j<rows.length)
  (hP0:dv O i (.grow k e cs) O') (hO:gB O' m (Ir c T e b rows j n0 i0) (oN c T e b (rows.set j r)) O'') (hk:k=c.k) (hcs:cs=c.av r) (hn1:r.length=n1) (kk:ao P E ops K rest env O'') :
  ao P E ops K (Oper.mk none (.store t x y) ty pos af none::rest) env O:=fun I F ρ w h1 h2=>by
 obtain ⟨htop,L,hL,hS⟩:=h2
 have hP:dv O i (.grow c.k e (c.av r)) O':=by subst hk hcs;exact hP0
 have hx:=rj h1 hx
 have h3:=h1.ev y
 rw[hy] at h3
 obtain ⟨b1,c1,e1,ey⟩:=h3
 obtain ⟨A,B,hp,⟨b1',c1',n',vs,e2,hvs,hvc,hown⟩,hB⟩:=hP.rep hL
 simp only at e2
 rw[e1] at e2
 simp only[Option.some.injEq,Prod.mk.injEq] at e2
 obtain ⟨rfl,rfl⟩:=e2
 have hv:=c.av_un hvs
 subst hv
 have hnn:n'=n1:=by have:=hown.1;rw[c.vs_len,hn1] at this;exact (Nat.eq_of_mul_eq_mul_right c.pos this).symm
 subst hnn
 obtain ⟨A2,B2,hp2,⟨hs,B0,hd,rfl,_,hsj,hsl,hole⟩,hback⟩:=hO.rep hB
 obtain ⟨L',k1,k2⟩:=hole r _ _ _ A hown
 have hS2:SL I.k ([(b,.cells hs.toArray T (0,0))]++(A++(B0++(B2++F)))) E w:=hS.perm (by
  refine List.Perm.trans ?_ ((hp.append_right F).symm)
  refine List.Perm.trans ?_ (((hp2.append_left A).append_right F).symm)
  simp only[qs,List.cons_append,List.nil_append]
  exact (List.perm_middle).symm)
 refine bL.store1 (cs:=hs) (off:=j) hs1 hx ey Z (by rw[hsl];exact hj) hS2 fun w' hS'=>?_
 obtain ⟨L2,h7,h8⟩:=hback (G.le.refl I) (A':=(b,.cells (hs.set j (.slice (adr b1) n' c1)).toArray T (0,0))::L') ⟨_,L',rfl,k1⟩
 refine kk I F _ _ h1 ⟨htop,L2,h7,hS'.perm ?_⟩
 refine (h8.append_right F).trans ?_
 simp only[List.cons_append,List.nil_append,qs]
 refine List.Perm.cons _ ?_
 have:=k2.append_right (B2++F)
 simpa [qs] using this
theorem SL.freezeAllN:∀{A:List (Nat × Obj)} {I:aP} {F:List (Nat × Obj)} {E w:World},SL I (A++F) E w→∃J,I.le J∧SL J F E w∧∀x∈A,J x.1=some x.2
 |[],I,F,E,w,h=>⟨I,.refl _,h,fun _ h=>by cases h⟩
 |(b,o)::A,I,F,E,w,h=>by
  obtain ⟨h1,h2⟩:=SL.freeze (show SL I ((b,o)::(A++F)) E w from h)
  obtain ⟨J,h3,h4,h5⟩:=SL.freezeAllN h2
  refine ⟨J,h1.trans h3,h4,fun x hx=>?_⟩
  rcases List.mem_cons.1 hx with rfl|hx
  ·exact h3 _ _ (aP.put_same _ _ _)
  ·exact h5 x hx
theorem fD.fro {c:f6 α} {I:G} {e:TypeId} {a:Option Addr} {n cap:Nat} {r:List α} {A:List (Nat × Obj)} (h:fD c.k e a n cap (c.vs r) A) (hI:∀x∈A,I.k x.1=some x.2):cf I (.fro c.k (r.map c.row)) (.slice a n cap):=by
 obtain ⟨h1,h2,h3⟩:=h
 have hn:n=r.length:=by rw[c.vs_len] at h1;exact (Nat.eq_of_mul_eq_mul_right c.pos h1).symm
 subst hn
 rcases h3 with ⟨rfl,rfl,_⟩|⟨b,junk,rfl,rfl,hj⟩
 ·have h0:r=[]:=List.eq_nil_of_length_eq_zero (by omega)
  subst h0
  exact ⟨none,0,0,rfl,rfl,Nat.le_refl _,fun _=>rfl,trivial⟩
 ·have hb:=hI _ (.head _)
  simp only at hb
  have hflat:(r.map c.row).flatten=(c.vs r).map lit:=by rw[←c.av_eq];unfold f6.av;rw[List.flatMap]
  refine ⟨_,_,_,Z,by simp,h2,fun e=>(by cases e),RepR.of_flat hb (r.map c.row) (c.vs r) 0 (fun x hx=>by obtain ⟨y,_,rfl⟩:=List.mem_map.1 hx;unfold f6.row;rw[qx,c.len]) (by rw[hflat];exact ft I _) fun i u hu=>?_⟩
  rw[Nat.zero_mul,Nat.zero_add,List.getElem?_toArray,List.getElem?_append_left (List.getElem?_eq_some_iff.1 hu).1]
  exact hu
theorem fu.fro {c:f6 α} {I:G} {e:TypeId} {rows:List (List α)} {hs:List Value} {B:List (Nat × Obj)} (h:fu c e rows hs B) (hI:∀x∈B,I.k x.1=some x.2):RepL I (rows.map fun r=>.fro c.k (r.map c.row)) hs:=by
 induction h with
 |nil=>rfl
 |cons h1 _ ih=>exact ⟨_,_,rfl,h1.fro fun x hx=>hI x (List.mem_append_left _ hx),ih fun x hx=>hI x (List.mem_append_right _ hx)⟩
def Ga (c:f6 α) (rows:List (List α)):AV:=.fro 1 (rows.map fun r=>[.fro c.k (r.map c.row)])
theorem Ch {c:f6 α} {I:G} {F:List (Nat × Obj)} {E w:World} {b m:Nat} {rows:List (List α)} (hO:dv O m (oN c T e b rows) O') (h:gC I O F E w):∃J B,I.le J∧bS I O' B∧(∃top,∀i,top≤i→J.h i=none)∧SL J.k (B++F) E w∧cf J (Ga c rows) (.slice (some ⟨b,0,none⟩) rows.length rows.length):=by
 obtain ⟨htop,L,hL,hS⟩:=h
 obtain ⟨A,B,hp,⟨hs,B0,rfl,hN⟩,hB⟩:=hO.rep hL
 have hS2:SL I.k (((b,.cells hs.toArray T (0,0))::B0)++(B++F)) E w:=hS.perm (by rw[←qs];exact (hp.append_right F).symm)
 obtain ⟨J,h1,h2,h3⟩:=SL.freezeAllN hS2
 have hle:I.le ⟨J,I.h⟩:=⟨h1,fun _ _ h=>h⟩
 refine ⟨⟨J,I.h⟩,B,hle,hB,htop,h2,?_⟩
 have hb:=h3 _ (.head _)
 simp only at hb
 have hrep:=hN.fro (I:=⟨J,I.h⟩) fun x hx=>h3 x (.tail _ hx)
 refine ⟨_,_,_,Z,by simp,Nat.le_refl _,fun e=>(by cases e),RepR.intro fun j row hj=>?_⟩
 rw[qy] at hj
 obtain ⟨r,hr,rfl⟩:=Option.map_eq_some_iff.1 hj
 obtain ⟨v,hv1,hv2⟩:=hrep.get (j:=j) (x:=.fro c.k (r.map c.row)) (by rw[qy,hr];rfl)
 refine ⟨b,0,[v],Z,Z,RepL.one hv2,fun i u hu=>?_⟩
 cases i with
 |zero=>
  simp at hu;subst hu
  exact ⟨_,_,_,hb,by rw[List.getElem?_toArray,show 0+(0+j)*1+0=j by omega];exact hv1⟩
 |succ i=>simp at hu
theorem aX.nestKnow {c:f6 α} {s b m n:Nat} {rows:List (List α)} (hv:env s=Cg b n) (hO:dv O m (oN c T e b rows) O') (hn:rows.length=n):aX E env O (bD env s (Ga c rows)) O':=fun I F ρ w h1 h2=>by
 obtain ⟨J,B,hle,hB,htop,hS,hrep⟩:=Ch hO h2
 refine ⟨J,hle,fun q=>?_,htop,B,hB.mono hle,hS⟩
 unfold bD
 cases hb:Nat.beq q s with
 |false=>exact cf.mono hle _ _ (h1 q)
 |true=>
  have:q=s:=Nat.eq_of_beq_eq_true hb
  subst this
  have h4:=h1 q
  rw[hv] at h4
  have h4:ρ q=.slice (some ⟨b,0,none⟩) n n:=h4
  rw[h4,←hn];exact hrep
end
end
section
open Go.Proofs.Tryz
section
variable {E:World} {P:Program} {ops:Array Oper} {K:aO→OL→Prop} {env:aO} {O O' O'':OL} {rest:List Oper} {n:Nat}
variable {d ty:Nat} {pos:String} {af:Array Edge} {x y z:Operand} {t u e:TypeId}
theorem ao.cutTo {i k m j:Nat} {a:Int} {T:TypeId} {cs:List AV} (ht:P.underlying t=some (.slice e)) (hs:∀w,(sizeOf e).run P w=.ok k w) (hx:bf env x=.own i m) (hy:bf env y=.int .i64 a) (hi:a=(j:Int)) (hO:gB O i (.grow k T cs) (.grow k T (cs.take (j*k))) O')
  (hk:0<k) (hj:j*k≤cs.length)
  (kk:ao P E ops K rest (bD env d (.own i j)) O'):ao P E ops K (Oper.mk (some d) (.slice t x none (some y) none) ty pos af none::rest) env O:=fun I F ρ w h1 h2=>by
 obtain ⟨htop,L,hL,hS⟩:=h2
 have h3:=h1.ev x
 rw[hx] at h3
 obtain ⟨b,c,e1,e2⟩:=h3
 have h4:=gD h1 hy
 subst hi
 obtain ⟨A,B,hp,⟨b',c',n',vs,e3,hvs,hvc,h5,h6,h7⟩,hback⟩:=hO.rep hL
 simp only at e3
 rw[e1] at e3
 simp only[Option.some.injEq,Prod.mk.injEq] at e3
 obtain ⟨rfl,rfl⟩:=e3
 have hlen:vs.length=cs.length:=hvs.length
 have hjn:j≤n':=by
  have:j*k≤n'*k:=by omega
  exact Nat.le_of_mul_le_mul_right this hk
 have hjc:j≤c:=by omega
 have hval:(execOp (Go.Proofs.YtjpnhkmfhlnpcaaGreatDoor.ev ρ) (Oper.mk (some d) (.slice t x none (some y) none) ty pos af none)).run P w=.ok (.value (.slice (adr b) j c)) w:=by
  have:(if c=0 then adr b else (adr b).map (·.add (0*k)))=adr b:=by
   split
   ·rfl
   ·cases b<;>simp[adr,Addr.add]
  simp[execOp,Instr.sliceAt,Instr.slice,Instr.sliceBounds,Instr.sliceBound,asIntOf,Sem.run_bind,run_underlying ht,hs,e2,h4,hjc]
  simpa using this
 obtain ⟨L',h8,h9⟩:=hback (G.le.refl I) (A':=A) ⟨b,c,j,vs.take (j*k),e1,hvs.take _,fun u hu=>hvc u (List.mem_of_mem_take hu),by rw[w3];omega,by omega,by
  rcases h7 with h7|⟨b2,junk,e4,e5,e6⟩
  ·exact .inl ⟨h7.1,h7.2.1,h7.2.2⟩
  ·exact .inr ⟨b2,vs.drop (j*k)++junk,e4,by rw[←qs,List.take_append_drop];exact e5,by rw[←qs,List.take_append_drop];exact e6⟩⟩
 exact bL.val hval (kk I F _ w (h1.upd d ⟨b,c,e1,rfl⟩) ⟨htop,L',h8,hS.perm ((h9.trans hp.symm).append_right F)⟩)
theorem ao.cutLast {i k m j:Nat} {a:Int} {T:TypeId} {A row:List AV} (ht:P.underlying t=some (.slice e)) (hs:∀w,(sizeOf e).run P w=.ok k w) (hx:bf env x=.own i m) (hy:bf env y=.int .i64 a) (hi:a=(j:Int)) (hO:gB O i (.grow k T (A++row)) (.grow k T A) O')
  (hk:0<k) (hA:A.length=j*k)
  (kk:ao P E ops K rest (bD env d (.own i j)) O'):ao P E ops K (Oper.mk (some d) (.slice t x none (some y) none) ty pos af none::rest) env O:=
 ao.cutTo ht hs hx hy hi (hO.cast (by rw[←hA,List.take_left])) hk (by rw[qw];omega) kk
end
end
section
open Go.Proofs.Tryz
open Go.Proofs
variable {E:World}
set_option maxRecDepth 20000
theorem nr {p:Int→Bool} {fn:FuncId} {c:List AV} (xs:List Int) (hl:xs.length≤281474976710656) (hp:∀x∈xs,aZ prog E fn ([.int .i64 x]++c) (.bool (p x))) :
  aZ prog E 132 [.fro 1 (xs.map b5),.fn fn [] c] (.int .i64 (cY p xs 0)):=by
 refine zo func132 Z (by decide) Z<|ah<|aw Z<|z7<|zb<|ah<|bC Z<|ae jd Z<|aa Z<|z7<|zg<|y7 (γ:=Nat) [0,1,7] (fun k=>[(8,.int .i64 k)]) (fun k=>[]) (fun k=>k≤xs.length∧(xs.take k).all (fun x=>!p x)) (fun k=>xs.length - k) 0 aW aN (⟨qt _,Z⟩) ?_
 rintro k ⟨hk,hall⟩
 refine ah<|ay Z Z<|z7<|zb<|zm Z (fun ck=>?_) (fun ck=>?_)
 ·have hk2:k<xs.length:=by omega
  refine ze<|zb<|zg<|ah<|aa Z<|aw Z<|z7<|ah<|za (yh (v:=.fn _ _ _) Z)<|bC Z<|aa Z<|za (q9 jd je Z Z Z (qq (by omega)))<|aE jj Z<|ao.callVP Z (hp _ (qu hk2)) Z<|z7<|zr Z (fun cp=>?_) (fun cp=>?_)
  ·refine ah<|aa Z<|aw Z<|z7<|zf<|zh (x:=.int _ _) Z ?_
   rw[cA p xs k hk hall,List.drop_eq_getElem_cons hk2,cY,if_pos cp]
  ·refine ze<|bi<|aC Z Z<|aa Z<|z7 ?_
   exact ⟨k+1,hZ,aW,aN,⟨hk2,by rw[qr hk2,List.all_append,hall];simp[cp]⟩,by omega⟩
 ·have hkn:k=xs.length:=by omega
  refine zz<|ah<|aw Z<|z7<|zf<|zh (x:=.int _ _) Z ?_
  rw[cA p xs k hk hall,hkn,List.drop_length,cY]
theorem k9 {p:Int→Bool} {fn:FuncId} {c:List AV} (xs:List Int) (hl:xs.length≤281474976710656) (hp:∀x∈xs,aZ prog E fn ([.int .i64 x]++c) (.bool (p x))) :
  aZ prog E 100 [.fro 1 (xs.map b5),.fn fn [] c] (.bool (xs.any p)):=by
 refine zo func100 Z (by decide) Z<|ah<|ad Z<|z7<|ah<|bC Z<|za (yh (v:=.fn _ _ _) Z)<|zi (nr xs hl hp) Z<|za (ql Z Z)<|ad Z<|z7<|zf<|zh (x:=.bool _) Z ?_
 rw[fO]
def bp (f:ab) (v:Int):Int:=((f.vars[v.toNat]?).map (·.ty)).getD 0
theorem tH {f:ab} {v:Int} (h:bl f v=true):∃x,f.vars[v.toNat]?=some x∧v=(v.toNat:Int)∧bp f v=x.ty:=by
 unfold bl at h
 simp only[w6,wa] at h
 have hl:v.toNat<f.vars.length:=by omega
 refine ⟨f.vars[v.toNat],qq hl,by omega,?_⟩
 unfold bp;rw[qq hl];rfl
theorem er (f:ab) (v:Int) (hv:bl f v=true):aZ prog E 113 [.agg (bQ f),.int .i64 v] (.int .i64 (bp f v)):=by
 obtain ⟨x,hx,hv2,hk⟩:=tH hv
 rw[hk]
 refine zo func113 Z (by decide) Z<|ah<|yb (cs:=_) Z Z Z<|aw Z<|z7<|ah<|aq ji Z Y6 Z Z<|aM Yg Z<|aa Z<|za (cH v.toNat Zb Y7 Z Z hv2 hx)<|aq Zm Z sizeOf64 Z Z<|aE isAgg64 Z<|aw Z<|z7<|zf<|zh (x:=.int _ _) Z ?_
 rfl
theorem DU (op:Int):aZ prog E 114 [.int .i64 op] (.bool (decide (op=1))):=by
 refine zo func114 Z (by decide) Z<|ah<|ad Z<|z7<|ah<|aa Z<|ax Z Z<|ad Z<|z7<|zf<|zh (x:=.bool _) Z ?_
 simp_all
theorem DV:∀{l:List Int} (h:0<l.length),l.headD 0=l[0]
 |[],h=>absurd h (Nat.lt_irrefl 0)
 |_::_,_=>rfl
def ic (f:ab) (x:bc):Bool:=if x.op=1 then decide (bp f x.dst=bp f (x.args.headD 0)) else decide (x.args.map (bp f)=bw x.op)&&(!cQ x.op||decide (bp f x.dst=jS x.op))
theorem gU {f:ab} {xs ts:List Int} {k:Nat} (h1:k<xs.length) (h2:k<ts.length) (h:(xs.take k).map (bp f)=ts.take k) (hk:bp f xs[k]=ts[k]):(xs.take (k+1)).map (bp f)=ts.take (k+1):=by
 rw[qr h1,qr h2,List.map_append,h,List.map_cons,List.map_nil,hk]
theorem DW {f:ab} {xs ts:List Int} {k:Nat} (h1:k<xs.length) (h2:k<ts.length) (hk:¬bp f xs[k]=ts[k]):¬xs.map (bp f)=ts:=by
 intro e
 apply hk
 subst e
 rw[List.getElem_map]
theorem vx (f:ab) (x:bc) (ha:x.args.all (bl f)=true) (hl:x.args.length=(bw x.op).length) (hd:cQ x.op=true→bl f x.dst=true) :
  aZ prog E 85 [.agg (bQ f),.agg (bz x)] (.bool (ic f x)):=by
 have hlen:(bw x.op).length≤3:=by
  rcases oD x.op with h|h
  ·unfold bw;rw[h];decide
  ·have:∀r∈fI,r.2.1.data.toList.length≤3:=by decide
   have:=this _ h
   unfold bw;simpa using this
 refine zo func85 Z (by decide) Z<|ah<|yb (cs:=_) Z Z Z<|yb (cs:=_) Z Z Z<|ad Z<|z7<|zb<|ah<|aq jp Z Zz Z Z<|aE Y5 Z<|zi (DU _) Z<|z7<|zm Z (fun c1=>?_) (fun c1=>?_)
 ·have e1:x.op=1:=by simpa using c1
  have hlz:0<x.args.length:=by rw[hl,e1];decide
  have hv0:bl f x.args[0]=true:=List.all_eq_true.1 ha _ (qu hlz)
  have hvd:bl f x.dst=true:=hd (by rw[e1];decide)
  refine zb<|zq (fun j=>false) (by kernel_rfl) Z (zu (.rest _))<|ak 0 Z (yv js jk Z Z)<|ak 1 Z (eK jp Z je Z Z)<|ak 2 Z (gH jj Z)<|ak 4 Z (yv js jk Z Z)<|ak 5 Z (eK jp Z jm Z Z)<|ak 6 Z (lL jw Z)<|ak 7 Z (cH 0 jd je Z Z Z (qq hlz))<|ak 8 Z (gH jj Z)<|bO 3 Z<|zi (er _ _ (by assumption)) Z<|z7<|bO 9 Z<|zi (er _ _ (by assumption)) Z<|z7<|ak 10 Z (Gv.eqlI Z Z)<|ak 11 Z (xg Z)<|eG<|zf<|zh (x:=.bool _) Z ?_
  exact jb (by unfold ic;rw[if_pos e1,DV hlz])
 ·have e1:¬x.op=1:=by simpa using c1
  refine ze<|zb<|ah<|aq jp Z Zz Z Z<|aE Y5 Z<|zi (oF _) Z<|ae underlying182 Z<|aa Z<|z7<|zg<|y7 (γ:=Nat) [2,3,25,26] (fun k=>[(27,.int .i64 k)]) (fun k=>[]) (fun k=>k≤(bw x.op).length∧(x.args.take k).map (bp f)=(bw x.op).take k) (fun k=>(bw x.op).length - k) 0 aW aN (⟨qt _,Z⟩) ?_
  rintro k ⟨hk,hall⟩
  refine ah<|ay Z Z<|z7<|zb<|zm Z (fun ck=>?_) (fun ck=>?_)
  ·have hk2:k<(bw x.op).length:=by simp at ck;omega
   have hk3:k<x.args.length:=by omega
   have hvk:bl f x.args[k]=true:=List.all_eq_true.1 ha _ (qu hk3)
   refine ze<|zb<|zg<|ah<|aa Z<|za (cH k underlying182 sizeOf64 Z Z Z (qq hk2))<|aE isAgg64 Z<|aw Z<|aw Z<|z7<|zb<|zq (fun j=>false) (by kernel_rfl) Z (zu (.rest _))<|ak 0 Z (yv js jk Z Z)<|ak 1 Z (eK jp Z jm Z Z)<|ak 2 Z (lL jw Z)<|ak 3 Z (d9 Z)<|ak 4 Z (cH k jd je Z Z Z (qq hk3))<|ak 5 Z (gH jj Z)<|ak 7 Z (d9 Z)<|bO 6 Z<|zi (er _ _ (by assumption)) Z<|z7<|ak 8 Z (yn Z Z)<|eG<|zr Z (fun cn=>?_) (fun cn=>?_)
   ·refine ah<|ad Z<|z7<|zf<|zh (x:=.bool _) Z ?_
    exact jb (by unfold ic;rw[if_neg e1,w5 (DW hk3 hk2 (by simpa using cn))];rfl)
   ·refine ze<|bi<|aC Z Z<|aa Z<|z7 ?_
    exact ⟨k+1,gY,aW,aN,⟨hk2,gU hk3 hk2 hall (by simpa using cn)⟩,by omega⟩
  ·have hkn:k=(bw x.op).length:=by simp at ck;omega
   subst hkn
   rw[qv,←hl,qv] at hall
   refine zz<|ah<|aq jp Z Zz Z Z<|aE Y5 Z<|zi (oG _) Z<|za (J9 Z)<|za (DT Z Z)<|za (Im Z Z)<|aw Z<|ad Z<|z7<|ah<|ai Z<|aD Z<|ai Z<|zk (s:=50) Z (fun c1=>?_) (fun c1=>?_)
   ·refine z6 Z Z c1<|z6 Z Z c1<|z6 Z Z c1<|z6 Z Z c1<|z6 Z Z c1<|z6 Z Z c1<|ap Z c1 Z<|ad Z<|z7<|zf<|zh (x:=.bool _) Z ?_
    exact jb (by unfold ic;rw[if_neg e1,w4 hall];simp_all)
   ·refine z8 Z Z c1<|ac js jk Z Z<|z8 Z Z c1<|aq jp Z je Z Z<|z8 Z Z c1<|aE jj Z<|z8 Z Z c1<|zi (er f x.dst (hd (by simp_all))) Z<|z8 Z Z c1<|aa Z<|z8 Z Z c1<|ax Z Z<|al Z c1 Z<|ad Z<|z7<|zf<|zh (x:=.bool _) Z ?_
    exact jb (by unfold ic;rw[if_neg e1,w4 hall];simp_all)
def nt (f:ab) (p:bu):Bool:=!(p.args.any fun v=>!decide (bp f v=bp f p.dst))
theorem vy (f:ab) (p:bu) (v:Int) (hv:bl f v=true) (hd:bl f p.dst=true):aZ prog E 112 ([.int .i64 v]++[.pf (bQ f),.pf (bd p)]) (.bool (!decide (bp f v=bp f p.dst))):=by
 refine zo func112 Z (by decide) Z<|ah<|ad Z<|z7<|zb<|zq (fun j=>false) (by kernel_rfl) Z (zu (.rest _))<|ak 0 Z (yv js jk Z Z)<|ak 1 Z (d9 Z)<|ak 3 Z (yv js jk Z Z)<|ak 4 Z (eK jq Z je Z Z)<|ak 5 Z (gH jj Z)<|bO 2 Z<|zi (er _ _ (by assumption)) Z<|z7<|bO 6 Z<|zi (er _ _ (by assumption)) Z<|z7<|ak 7 Z (yn Z Z)<|ak 8 Z (xg Z)<|eG<|zf<|zh (x:=.bool _) Z ?_
 simp_all
theorem Ci (f:ab) (p:bu) (hp:xf p) (ha:p.args.all (bl f)=true) (hd:bl f p.dst=true):aZ prog E 84 [.agg (bQ f),.agg (bd p)] (.bool (nt f p)):=by
 have hl1:=hp.1.lt
 refine zo func84 Z (by decide) Z<|ah<|yb (cs:=_) Z Z Z<|yb (cs:=_) Z Z Z<|ad Z<|z7<|ah<|aq jq Z jm Z Z<|aM jw Z<|za (Gv.func Z Z)<|zi (k9 p.args (by omega) (fun v hv=>vy f p v (List.all_eq_true.1 ha v hv) hd)) Z<|aD Z<|ad Z<|z7<|zf<|zh (x:=.bool _) Z ?_
 rfl
def cD (f:ab) (t:cC):Bool:=if t.kind=0 then !decide (t.to0=0) else if t.kind=1 then decide (bp f t.var=1)&&!decide (t.to0=0)&&!decide (t.to1=0) else decide (bp f t.var=0)
theorem vz (f:ab) (t:cC) (h:¬t.kind=0→bl f t.var=true):aZ prog E 86 [.agg (bQ f),.agg (nO t)] (.bool (cD f t)):=by
 refine zo func86 Z (by decide) Z<|ah<|yb (cs:=_) Z Z Z<|yb (cs:=_) Z Z Z<|ad Z<|z7<|zb<|ah<|aq jg Z Zn Z Z<|aE Zs Z<|z7<|zg<|ah<|ax Z Z<|ad Z<|z7<|zr Z (fun c2=>?_) (fun c2=>?_)
 ·refine ah<|aq jg Z Z2 Z Z<|za (yw (j:=0) ju je Z Z Z (by decide) Z)<|aE jj Z<|za (yn Z Z)<|ad Z<|z7<|zf<|zh (x:=.bool _) Z ?_
  exact jb (by unfold cD;simp_all)
 ·refine ah<|ax Z Z<|ad Z<|z7<|zr Z (fun c3=>?_) (fun c3=>?_)
  ·refine ah<|ac js jk Z Z<|aq jg Z je Z Z<|aE jj Z<|zi (er f t.var (h (by simp_all))) Z<|ax Z Z<|ai Z<|zk (s:=20) Z (fun c4=>?_) (fun c4=>?_)
   ·refine z8 Z Z c4<|aq jg Z Z2 Z Z<|z8 Z Z c4<|za (yw (j:=0) ju je Z Z Z (by decide) Z)<|z8 Z Z c4<|aE jj Z<|z8 Z Z c4<|za (yn Z Z)<|ap Z c4 Z<|ai Z<|zk (s:=26) Z (fun c5=>?_) (fun c5=>?_)
    ·refine z8 Z Z c5<|aq jg Z Z2 Z Z<|z8 Z Z c5<|za (yw (j:=1) ju je Z Z Z (by decide) Z)<|z8 Z Z c5<|aE jj Z<|z8 Z Z c5<|za (yn Z Z)<|ap Z c5 Z<|ad Z<|z7<|zf<|zh (x:=.bool _) Z ?_
     exact jb (by unfold cD;simp_all)
    ·refine z6 Z Z c5<|z6 Z Z c5<|z6 Z Z c5<|z6 Z Z c5<|al Z c5 Z<|ad Z<|z7<|zf<|zh (x:=.bool _) Z ?_
     exact jb (by unfold cD;simp_all)
   ·refine z6 Z Z c4<|z6 Z Z c4<|z6 Z Z c4<|z6 Z Z c4<|al Z c4 Z<|ai Z<|z6 Z Z Z<|z6 Z Z Z<|z6 Z Z Z<|z6 Z Z Z<|al Z Z Z<|ad Z<|z7<|zf<|zh (x:=.bool _) Z ?_
    exact jb (by unfold cD;simp_all)
  ·refine ze<|ah<|ac js jk Z Z<|aq jg Z je Z Z<|aE jj Z<|zi (er f t.var (h (by simp_all))) Z<|ax Z Z<|ad Z<|z7<|zf<|zh (x:=.bool _) Z ?_
   exact jb (by unfold cD;simp_all)
end
section
open Go.Proofs.Tryz
open Go.Proofs
theorem gV:dw prog 23 3 1 1 [.int .i64 0]:=⟨_,jd,je,Yj,by decide,by decide,by kernel_rfl⟩
theorem IY:dw prog 23 3 2 1 [.int .i64 0,.int .i64 0]:=⟨_,jd,je,Yj,by decide,by decide,by kernel_rfl⟩
variable {E:World}
set_option maxRecDepth 20000
theorem IZ {t:cC} (h:t.kind=0):aU t=[t.to0]:=by unfold aU;rw[if_pos h]
theorem I1 {t:cC} (h:t.kind=1) (e:t.to0=t.to1):aU t=[t.to0]:=by unfold aU;rw[if_neg (by omega),if_pos h,if_pos e]
theorem I2 {t:cC} (h:t.kind=1) (e:¬t.to0=t.to1):aU t=[t.to0,t.to1]:=by unfold aU;rw[if_neg (by omega),if_pos h,if_neg e]
theorem I3 {t:cC} (h0:¬t.kind=0) (h:¬t.kind=1):aU t=[]:=by unfold aU;rw[if_neg h0,if_neg h]
theorem mA (t:cC):aZ prog E 43 [.agg (nO t)] (.fro 1 ((aU t).map b5)):=by
 refine zo func43 Z (by decide) Z<|ah<|yb (cs:=_) Z Z Z<|za (rv Z)<|z7<|zb<|zg<|zb<|ah<|aq jg Z Zn Z Z<|aE Zs Z<|ax Z Z<|ad Z<|z7<|zm Z (fun c0=>?_) (fun c0=>?_)
 ·refine ze<|yt Z (by simpa using c0)<|ah<|aq jg Z Z2 Z Z<|za (yw (j:=0) ju je Z Z Z (by decide) Z)<|aE jj Z<|yf (rows:=[[_]]) gV Z Z Z Z Z<|za (va Z)<|z7<|zf<|zh (x:=.fro _ _) Z ?_
  rw[IZ c0];rfl
 ·refine bi<|aq jg Z Zn Z Z<|aE Zs Z<|ax Z Z<|ai Z<|zk (s:=10) Z (fun c1=>?_) (fun c1=>?_)
  ·refine z8 Z Z c1<|aq jg Z Z2 Z Z<|z8 Z Z c1<|za (yw (j:=0) ju je Z Z Z (by decide) Z)<|z8 Z Z c1<|aE jj Z<|z8 Z Z c1<|aq jg Z Z2 Z Z<|z8 Z Z c1<|za (yw (j:=1) ju je Z Z Z (by decide) Z)<|z8 Z Z c1<|aE jj Z<|z8 Z Z c1<|ax Z Z<|ap Z c1 Z<|ad Z<|z7<|zr Z (fun c2=>?_) (fun c2=>?_)
   ·refine ah<|aq jg Z Z2 Z Z<|za (yw (j:=0) ju je Z Z Z (by decide) Z)<|aE jj Z<|yf (rows:=[[_]]) gV Z Z Z Z Z<|za (va Z)<|z7<|zf<|zh (x:=.fro _ _) Z ?_
    rw[I1 (by simpa using c1) (by simpa using c2)];rfl
   ·refine ah<|aq jg Z Zn Z Z<|aE Zs Z<|ax Z Z<|ad Z<|z7<|yt Z (by simpa using c1)<|ah<|aq jg Z Z2 Z Z<|za (yw (j:=0) ju je Z Z Z (by decide) Z)<|aE jj Z<|aq jg Z Z2 Z Z<|za (yw (j:=1) ju je Z Z Z (by decide) Z)<|aE jj Z<|yf (rows:=[[_],[_]]) IY Z Z Z Z Z<|za (va Z)<|z7<|zf<|zh (x:=.fro _ _) Z ?_
    rw[I2 (by simpa using c1) (by simpa using c2)];rfl
  ·refine z6 Z Z c1<|z6 Z Z c1<|z6 Z Z c1<|z6 Z Z c1<|z6 Z Z c1<|z6 Z Z c1<|z6 Z Z c1<|al Z c1 Z<|ad Z<|z7<|yp Z Z<|ah<|aq jg Z Zn Z Z<|aE Zs Z<|ax Z Z<|ad Z<|z7<|yp Z (by simpa using c1)<|ze<|ah<|za (rv Z)<|z7<|zf ?_
   repeat (first|refine bg ?_|refine aQ ?_)
   refine q7 (aX.slot (t:=2) Z (IO 1))<|zh (x:=.fro _ _) Z ?_
   rw[I3 (by simpa using c0) (by simpa using c1)];rfl
def lM (rows:List (List Int)) (c x:Int):List (List Int):=rows.set c.toNat ((rows[c.toNat]?).getD []++[x])
def eL (rows:List (List Int)) (cs:List Int) (x:Int):List (List Int):=cs.foldl (fun r c=>lM r c x) rows
theorem oO (cs:List Int) (x:Int):∀rows,(eL rows cs x).length=rows.length:=by
 induction cs with
 |nil=>intro rows;rfl
 |cons c cs ih=>intro rows;show (eL (lM rows c x) cs x).length=_;rw[ih];unfold lM;simp
theorem tI (rows:List (List Int)) (cs:List Int) (c x:Int):eL rows (cs++[c]) x=lM (eL rows cs x) c x:=by unfold eL;rw[List.foldl_append];rfl
theorem Cj {rows:List (List Int)} {c x:Int} (h0:0≤c) (b:Nat):(lM rows c x)[b]?=(rows[b]?).map (·++if c=(b:Int) then[x] else[]):=by
 unfold lM
 rw[List.getElem?_set]
 by_cases e:c.toNat=b
 ·have:c=(b:Int):=by omega
  rw[if_pos e,if_pos this,e]
  by_cases hb:b<rows.length
  ·rw[if_pos hb,qq hb];rfl
  ·rw[if_neg hb,List.getElem?_eq_none (by omega)];rfl
 ·have:¬c=(b:Int):=by omega
  rw[if_neg e,if_neg this];simp
theorem lc (x:Int) (b:Nat):∀(cs:List Int) (rows:List (List Int)),(∀c∈cs,0≤c)→(eL rows cs x)[b]?=(rows[b]?).map (·++(cs.filter fun c=>decide (c=(b:Int))).map fun _=>x)
 |[],rows,_=>by simp[eL]
 |c::cs,rows,h=>by
  show (eL (lM rows c x) cs x)[b]?=_
  rw[lc x b cs _ (fun c hc=>h c (List.mem_cons_of_mem _ hc)),Cj (h c (List.mem_cons_self ..))]
  cases rows[b]? with
  |none=>rfl
  |some r=>
   by_cases e:c=(b:Int)
   ·simp[e]
   ·simp[e]
def dl (f:ab) (k:Nat):List (List Int):=(List.range f.blocks.length).map fun (b:Nat)=>bE (au f) k (b:Int)
theorem e7 (f:ab) (k:Nat):(dl f k).length=f.blocks.length:=by unfold dl;simp
theorem tJ (f:ab):List.replicate f.blocks.length []=dl f 0:=by
 apply List.ext_getElem
 ·rw[e7];simp
 ·intro i h1 h2
  unfold dl bE dJ
  simp
theorem jV (E:Int→List Int) (k:Nat) (b:Int):bE E (k+1) b=bE E k b++((E k).filter fun c=>decide (c=b)).map fun _=>(k:Int):=by
 unfold bE;rw[tp,List.flatMap_append];simp
theorem tK {f:ab} {k:Nat} (h0:∀c∈au f k,0≤c):eL (dl f k) (au f k) k=dl f (k+1):=by
 apply List.ext_getElem?
 intro b
 rw[lc _ _ _ _ h0]
 by_cases hb:b<f.blocks.length
 ·unfold dl
  rw[qy,qy,List.getElem?_range hb]
  simp only[Option.map_some]
  rw[jV]
 ·rw[List.getElem?_eq_none (by rw[e7];omega),List.getElem?_eq_none (by rw[e7];omega)];rfl
theorem DX {rows:List (List Int)} {c x:Int} (h:c.toNat<rows.length):rows.set c.toNat (rows[c.toNat]++[x])=lM rows c x:=by
 unfold lM;rw[qq h];rfl
theorem ld (f:ab) (b:Int):∀k,(bE (au f) k b).length≤2*k
 |0=>by simp[bE,dJ]
 |k+1=>by
  have h1:=ld f b k
  have h2:=oH f k
  have h3:=List.length_filter_le (fun c=>decide (c=b)) (au f k)
  rw[jV,qw,qx]
  omega
theorem Gb {f:ab} {k b:Nat} {cs:List Int} {x:Int} (h0:∀c∈cs,0≤c) (hb:b<(eL (dl f k) cs x).length):(eL (dl f k) cs x)[b].length≤2*k+cs.length:=by
 have hb2:b<f.blocks.length:=by rwa [oO,e7] at hb
 have h:=lc x b cs (dl f k) h0
 have hr:(dl f k)[b]?=some (bE (au f) k (b:Int)):=by unfold dl;rw[qy,List.getElem?_range hb2];rfl
 rw[qq hb,hr] at h
 have h:(eL (dl f k) cs x)[b]=bE (au f) k (b:Int)++(cs.filter fun c=>decide (c=(b:Int))).map fun _=>x:=by simpa using h
 have h2:=ld f b k
 have h3:=List.length_filter_le (fun c=>decide (c=(b:Int))) cs
 rw[h,qw,qx]
 omega
theorem lg (f:ab) (hE:br f) (hn:f.blocks.length≤100000):aZ prog E 41 [.agg (bQ f)] (Ga eI (dl f f.blocks.length)):=by
 refine zo func41 Z (by decide) Z<|ah<|yb (cs:=_) Z Z Z<|za (rv Z)<|z7<|ah<|aq ji Z Z0 Z Z<|aM Z6 Z<|ae jl Z<|ao.makeNest (m:=f.blocks.length) underlying89 type23 Z Z Z Z Z (by simp) (by simp) (by show (24:Int)*_≤_;omega) (by omega) eI 3<|fun b11=>za (yd (v:=Cg _ _) Z)<|z7<|zb<|ah<|aq ji Z Z0 Z Z<|aM Z6 Z<|ae jl Z<|aa Z<|z7<|zg<|y7 (γ:=Nat) [3,13,14] (fun k=>[(15,.int .i64 k)]) (fun k=>[(0,oN eI 23 3 b11 (dl f k))]) (fun k=>k≤f.blocks.length) (fun k=>f.blocks.length - k) 0 aW ⟨_,(.refl _),by rw[tJ]⟩ (qt _) ?_
 rintro k hk
 refine ah<|ay Z Z<|z7<|zb<|zm Z (fun ck=>?_) (fun ck=>?_)
 ·have hk2:k<f.blocks.length:=by simp at ck;omega
  have hEk:au f k=aU f.blocks[k].term:=vn hk2
  have hlen:=mv f.blocks[k].term
  have hrng:=hE.rng _ (qu hk2)
  refine ze<|zb<|zg<|ah<|aa Z<|za (cH k jl jv Z Z Z (qq hk2))<|ac Zu jv Z Z<|zy (cs:=[.str ⟨#[]⟩,.raw (.slice none 0 0),.raw (.slice none 0 0),.int .i64 0,.int .i64 0,.int .i64 0,.int .i64 0]) Zc Z Z<|fun i5=>aw Z<|zt jv Z Z Z Z Z Z .head Z<|z7<|ah<|za (zc jh Z Z4 (by decide) Z Z)<|za (Gv.loadAC (l:=[_,_,_,_]) Yo Z4 Z ⟨_,.head⟩ Z Z)<|zi (mA _) Z<|ae jd Z<|aa Z<|z7<|zg<|y7 (γ:=Nat) [3,4,13,14,15,22,23] (fun j=>[(24,.int .i64 j)]) (fun j=>[(0,oN eI 23 3 b11 (eL (dl f k) ((aU f.blocks[k].term).take j) k))]) (fun j=>j≤(aU f.blocks[k].term).length) (fun j=>(aU f.blocks[k].term).length - j) 0 aW ⟨_,(.drop (.refl _)),Z⟩ (qt _) ?_
  rintro j hj
  refine ah<|ay Z Z<|z7<|zb<|zm Z (fun cj=>?_) (fun cj=>?_)
  ·have hj2:j<(aU f.blocks[k].term).length:=by simp at cj;omega
   obtain ⟨c,hc⟩:∃c,(aU f.blocks[k].term)[j]=c:=⟨_,rfl⟩
   have hr:=hrng c (hc▸qu hj2)
   obtain ⟨rows,hrows⟩:∃rows,eL (dl f k) ((aU f.blocks[k].term).take j) k=rows:=⟨_,rfl⟩
   have hrl:rows.length=f.blocks.length:=by rw[←hrows,oO,e7]
   have hcn:c.toNat<rows.length:=by omega
   have hrow:rows[c.toNat].length≤200002:=by
    have:=Gb (f:=f) (k:=k) (b:=c.toNat) (cs:=(aU f.blocks[k].term).take j) (x:=k) (fun c hc=>(hrng c (List.mem_of_mem_take hc)).1) (by rw[hrows];exact hcn)
    simp only[hrows,w3] at this
    omega
   rw[hrows]
   refine ze<|zb<|zg<|ah<|za (cH j jd je Z Z Z (by rw[qq hj2,hc])) ?_
   refine aE jj Z<|aw Z<|z7<|bi<|za (yh (v:=Cg _ _) Z)<|aa Z<|za (yh (v:=Cg _ _) Z)<|aa Z<|za (Gv.idxN (j:=c.toNat) underlying89 jm Z Z (by omega) (by omega))<|ao.nestTake (j:=c.toNat) (r:=rows[c.toNat]) jw Z (qq hcn) (fun _=>.head)<|fun i33=>aa Z<|yf (rows:=[[_]]) gV Z Z Z Z Z<|ym (k:=1) jd Zo Z Z Z Z Z (fun _=>.head) (by rw[eI.av_len];rfl) (by decide) Z (by show (_+1)*8≤_;omega) (by show _+1≤_;omega)<|fun i36=>za (Gv.idxN (j:=c.toNat) underlying89 jm Z Z (by omega) (by omega))<|ao.nestPut (j:=c.toNat) (r:=rows[c.toNat]++[(k:Int)]) jm Z Z (by omega) .head .head Z (eI.av_push _ _) (by simp)<|z7<|bi<|aC Z Z<|aa Z<|z7 ?_
   exact ⟨j+1,iM,aW,⟨_,(.refl _),by rw[qr hj2,tI,hrows,hc,DX hcn]⟩,hj2,by omega⟩
  ·have hjn:j=(aU f.blocks[k].term).length:=by simp at cj;omega
   refine zz<|bi<|aC Z Z<|aa Z<|z7 ?_
   exact ⟨k+1,hZ,aW,⟨_,(.refl _),by rw[hjn,qv,←hEk,tK (fun c hc=>(hrng c (hEk▸hc)).1)]⟩,hk2,by omega⟩
 ·have hkn:k=f.blocks.length:=by simp at ck;omega
  subst hkn
  refine yc (aX.nestKnow (s:=3) Z .head (e7 f _))<|zz<|ah<|bC Z<|za (va Z)<|z7<|zf<|zh (x:=.fro _ _) Z ?_
  rfl
end
section
open Go.Proofs.Tryz
open Go.Sort (Holds putRow putCells onCells)
theorem tL {zs ys:List Int} {junk:List Value} (hl:ys.length=zs.length):putCells (Value.int .i64) 0 ys.toArray (zs.map (Value.int .i64)++junk).toArray=(ys.map (Value.int .i64)++junk).toArray:=by
 unfold putCells
 apply Array.ext_getElem?
 intro k
 simp only[Array.getElem?_mapIdx,List.getElem?_toArray,qt,true_and,Nat.zero_add,Nat.sub_zero,List.size_toArray]
 by_cases hk:k<ys.length
 ·rw[List.getElem?_append_left (by rw[qx];omega),List.getElem?_append_left (by rw[qx];omega),qy,qy,qq hk,qq (by omega:k<zs.length)]
  simp[hk]
 ·rw[List.getElem?_append_right (by rw[qx];omega),List.getElem?_append_right (by rw[qx];omega),qx,qx,hl]
  rw[hl] at hk
  simp only[hk,if_false]
  cases junk[k - zs.length]?<;>rfl
theorem SL.turned {I:aP} {O:List (Nat × Obj)} {E w:World} {b n:Nat} {zs ys:List Int} {junk:List Value} {T:TypeId} {os:Array Obj} (hl:ys.length=zs.length) (h:SL I ((b,.cells (zs.map (Value.int .i64)++junk).toArray T (0,0))::O) E w) :
  SL I ((b,.cells (ys.map (Value.int .i64)++junk).toArray T (0,0))::O) E (Go.Sort.grow (putRow (Value.int .i64) (Go.Sort.ahead w n) b 0 ys.toArray) os):=by
 have hb:=h.own _ (.head _)
 simp only at hb
 have hlt:=cJ hb
 have h1:SL I ((b,.cells (ys.map (Value.int .i64)++junk).toArray T (0,0))::O) E (putRow (Value.int .i64) (Go.Sort.ahead w n) b 0 ys.toArray):=by
  refine h.turn Z Z Z ?_ fun k hk=>?_
  ·show (w.heap.modify b (onCells (putCells (Value.int .i64) 0 ys.toArray)))[b]?=_
   rw[Array.getElem?_modify,if_pos rfl,hb]
   simp only[Option.map_some,onCells,tL hl]
  ·show (w.heap.modify b (onCells (putCells (Value.int .i64) 0 ys.toArray)))[k]?=_
   rw[Array.getElem?_modify,if_neg (fun e=>hk e.symm)]
 exact h1.more rfl rfl rfl fun k hk=>Go.Sort.heap_grow_old _ _ hk
theorem bY.turned {E:World} {P:Program} {f:FuncId} {fn:Func} {c:Code} {g:List Int→List Int} {B:Nat} (hf:P.funcs[f]?=some fn) (hb:fn.body=some c) (hn:fn.name≠"runtime.NumGoroutine") (hg:∀l,(g l).length=l.length)
  (hC:∀(blk cap:Nat) (zs:List Int) (w:World),Holds (Value.int .i64) w blk 0 zs.toArray→blk<w.heap.size→zs.length<B →
   Calls P f #[.slice (some ⟨blk,0,none⟩) zs.length cap] w fun e w'=>e=.returned (.tuple #[])∧∃n os,w'=Go.Sort.grow (putRow (Value.int .i64) (Go.Sort.ahead w n) blk 0 (g zs).toArray) os)
  (hN:∀(cap:Nat) (w:World),Calls P f #[.slice none 0 cap] w fun e w'=>e=.returned (.tuple #[])∧w'=w)
  {l:List Int} {i n:Nat} {T:TypeId} (hl:l.length=n) (hB:n<B):bY P E f [.own i n] [(i,.grow 1 T (cI l))] fun r O=>r=.tup []∧O=[(i,.grow 1 T (cI (g l)))]:=fun I F w vs h1 h2=>by
 obtain ⟨v,us,rfl,⟨b,c,e1,rfl⟩,h3⟩:=h1
 have h3:us=[]:=h3
 subst h3
 obtain ⟨ht,L,⟨A,B',e2,⟨b',c',n',ws,e3,h4,h5,h6⟩,h7⟩,hS⟩:=h2
 have h7:B'=[]:=h7
 subst h7
 rw[List.append_nil] at e2
 subst e2
 simp only at e3
 rw[e1] at e3
 simp only[Option.some.injEq,Prod.mk.injEq] at e3
 obtain ⟨rfl,rfl⟩:=e3
 have h4:=Ip h4
 subst h4
 refine Fn.ofCalls hf hb hn ?_
 obtain ⟨g1,g2,g3⟩:=h6
 rw[qx,Nat.mul_one] at g1
 have hnn:n'=n:=by omega
 subst hnn
 rcases g3 with ⟨ea,rfl,rfl⟩|⟨b2,junk,ea,rfl,hj⟩
 ·have h0:n'=0:=by omega
  subst h0
  have hl0:l=[]:=List.eq_nil_of_length_eq_zero hl
  subst hl0
  have hg0:g []=[]:=List.eq_nil_of_length_eq_zero (hg [])
  rw[ea]
  refine (hN 0 w).mono fun e w' ⟨he,hw⟩=>⟨_,he,I,.tup [],_,.refl _,⟨[],Z,Z⟩,?_,Z,Z⟩
  subst hw
  rw[hg0]
  exact ⟨ht,[],⟨[],[],rfl,⟨b,0,0,[],e1,rfl,by simp,by rw[ea];exact fD.nil 1 T⟩,rfl⟩,hS⟩
 ·rw[ea]
  have hS2:SL I.k ((b2,.cells (l.map (Value.int .i64)++junk).toArray T (0,0))::F) E w:=hS
  have hH:Holds (Value.int .i64) w b2 0 l.toArray:=fun j hjl=>by
   have hj2:j<l.length:=by simpa using hjl
   have hbk:=hS2.own _ (.head _)
   simp only at hbk
   refine ⟨?_,?_⟩
   ·rw[hS2.cell_own,Nat.zero_add,List.getElem?_toArray,List.getElem?_append_left (by rw[qx];exact hj2),qy,qq hj2]
    simp[hj2]
   ·simp[World.frozen?,hbk]
  have:=hC b2 c l w hH (cJ (hS2.own _ (.head _))) (by omega)
  rw[hl] at this
  refine this.mono fun e w' ⟨he,k,os,hw⟩=>⟨_,he,I,.tup [],_,.refl _,⟨[],Z,Z⟩,?_,Z,Z⟩
  subst hw
  refine ⟨ht,[(b2,.cells ((g l).map (Value.int .i64)++junk).toArray T (0,0))],⟨_,[],by simp,⟨b,c,n',(g l).map (Value.int .i64),e1,Cf I (g l),fun u hu=>by obtain ⟨x,_,rfl⟩:=List.mem_map.1 hu;rfl,by rw[qx,hg,hl,Nat.mul_one],g2,.inr ⟨b2,junk,ea,rfl,by rw[qw,qx,hg] ;rw[qw,qx] at hj;exact hj⟩⟩,rfl⟩,?_⟩
  exact SL.turned (hg l) hS2
end
section
open Go.Proofs.Tryz
variable {α:Type}
section
variable {E:World} {P:Program} {ops:Array Oper} {K:aO→OL→Prop} {env:aO} {O O' O'':OL} {rest:List Oper} {n:Nat}
variable {d ty:Nat} {pos:String} {af:Array Edge} {x y z:Operand} {t u e T:TypeId}
end
set_option linter.defProp false
def zp:=@dv.perm
def yj:=@Gv.idxI
def yo:=@aX.knowP
def q8:=@ao.storeI
def qa:=@RepL.fld
def qc:=@bJ.two
def qe:=@ao.storeB
def qh:=@fQ.at
def qm:=@ao.makeI
def qn:=@Gv.loadI
end
end Go.Proofs.YtjpnhkmfhlnpcaaGreatDoor
