/- Structs and slices that are built; slices that grow; calls; what is known henceforth. No conditions but bounds. -/
import Derived.Test.YthphijnnbfjikaaGreatDoorJa
import Derived.RegionTactic
import Derived.Laws.StructEq
set_option linter.unusedVariables false
set_option linter.unusedSimpArgs false
set_option linter.unusedSectionVars false
namespace Go.Proofs.YthphijnnbfjikaaGreatDoor
section
section
variable {P:Program} {ρ:bG} {w:World}
variable {d ty:Nat} {pos:String} {af:Array Edge} {x y z:Operand} {t u e:TypeId}
variable {I:aC} {O:HU} {E:World}
theorem Run.pickT {b:Bool} {v:Value} (hc:ev ρ x=.bool b) (hb:b=true) (hy:ev ρ y=v) :
  (execOp (ev ρ) (Oper.mk (some d) (.pick x y z) ty pos af none)).run P w=.ok (.value (v)) w:=
 (by subst hb;simp[execOp,hc,hy,asBool])
theorem Run.pickF {b:Bool} {v:Value} (hc:ev ρ x=.bool b) (hb:b=false) (hz:ev ρ z=v) :
  (execOp (ev ρ) (Oper.mk (some d) (.pick x y z) ty pos af none)).run P w=.ok (.value (v)) w:=
 (by subst hb;simp[execOp,hc,hz,asBool])
theorem Run.lss {k:IntKind} {a b:Int} (hx:ev ρ x=.int k a) (hy:ev ρ y=.int k b) :
  (execOp (ev ρ) (Oper.mk (some d) (.binOp .lss t x y u) ty pos af none)).run P w=.ok (.value ((.bool (decide (a<b))))) w:=
 (by rw[bL hx hy (by decide) (by decide)];simp[binOp,Op.intCmp])
theorem Run.leq {k:IntKind} {a b:Int} (hx:ev ρ x=.int k a) (hy:ev ρ y=.int k b) :
  (execOp (ev ρ) (Oper.mk (some d) (.binOp .leq t x y u) ty pos af none)).run P w=.ok (.value ((.bool (decide (a≤b))))) w:=
 (by rw[bL hx hy (by decide) (by decide)];simp[binOp,Op.intCmp])
theorem Run.gtr {k:IntKind} {a b:Int} (hx:ev ρ x=.int k a) (hy:ev ρ y=.int k b) :
  (execOp (ev ρ) (Oper.mk (some d) (.binOp .gtr t x y u) ty pos af none)).run P w=.ok (.value ((.bool (decide (b<a))))) w:=
 (by rw[bL hx hy (by decide) (by decide)];simp[binOp,Op.intCmp])
theorem Run.geq {k:IntKind} {a b:Int} (hx:ev ρ x=.int k a) (hy:ev ρ y=.int k b) :
  (execOp (ev ρ) (Oper.mk (some d) (.binOp .geq t x y u) ty pos af none)).run P w=.ok (.value ((.bool (decide (b≤a))))) w:=
 (by rw[bL hx hy (by decide) (by decide)];simp[binOp,Op.intCmp])
theorem Run.eqlI {k:IntKind} {a b:Int} (hx:ev ρ x=.int k a) (hy:ev ρ y=.int k b) :
  (execOp (ev ρ) (Oper.mk (some d) (.binOp .eql t x y u) ty pos af none)).run P w=.ok (.value ((.bool (decide (a=b))))) w:=
 (by
  rw[bL hx hy (by decide) (by decide)]
  have e:(decide (a=b))=(a == b):=by by_cases h:a=b<;>simp[h]
  rw[e];simp[binOp,Op.intCmp])
theorem Run.neqI {k:IntKind} {a b:Int} (hx:ev ρ x=.int k a) (hy:ev ρ y=.int k b) :
  (execOp (ev ρ) (Oper.mk (some d) (.binOp .neq t x y u) ty pos af none)).run P w=.ok (.value ((.bool (decide (a≠b))))) w:=
 (by
  rw[bL hx hy (by decide) (by decide)]
  have e:(decide (a≠b))=(a != b):=by by_cases h:a=b<;>simp[h]
  rw[e];simp[binOp,Op.intCmp])
theorem Run.add {a b:Int} (hx:ev ρ x=.int .i64 a) (hy:ev ρ y=.int .i64 b) (hr:pq (a+b)) :
  (execOp (ev ρ) (Oper.mk (some d) (.binOp .add t x y u) ty pos af none)).run P w=.ok (.value ((.int .i64 (a+b)))) w:=
 (by rw[bL hx hy (by decide) (by decide)];simp[binOp,Op.intArith,IntWalk.i64_in _ hr])
theorem Run.sub {a b:Int} (hx:ev ρ x=.int .i64 a) (hy:ev ρ y=.int .i64 b) (hr:pq (a - b)) :
  (execOp (ev ρ) (Oper.mk (some d) (.binOp .sub t x y u) ty pos af none)).run P w=.ok (.value ((.int .i64 (a - b)))) w:=
 (by rw[bL hx hy (by decide) (by decide)];simp[binOp,Op.intArith,IntWalk.i64_in _ hr])
theorem Run.addW {k:IntKind} {a b:Int} (hx:ev ρ x=.int k a) (hy:ev ρ y=.int k b) :
  (execOp (ev ρ) (Oper.mk (some d) (.binOp .add t x y u) ty pos af none)).run P w=.ok (.value ((.int k (k.wrap (a+b))))) w:=
 (by rw[bL hx hy (by decide) (by decide)];simp[binOp,Op.intArith])
theorem Run.subW {k:IntKind} {a b:Int} (hx:ev ρ x=.int k a) (hy:ev ρ y=.int k b) :
  (execOp (ev ρ) (Oper.mk (some d) (.binOp .sub t x y u) ty pos af none)).run P w=.ok (.value ((.int k (k.wrap (a - b))))) w:=
 (by rw[bL hx hy (by decide) (by decide)];simp[binOp,Op.intArith])
theorem Run.mulW {k:IntKind} {a b:Int} (hx:ev ρ x=.int k a) (hy:ev ρ y=.int k b) :
  (execOp (ev ρ) (Oper.mk (some d) (.binOp .mul t x y u) ty pos af none)).run P w=.ok (.value ((.int k (k.wrap (a*b))))) w:=
 (by rw[bL hx hy (by decide) (by decide)];simp[binOp,Op.intArith])
theorem Run.not {b:Bool} (hx:ev ρ x=.bool b) :
  (execOp (ev ρ) (Oper.mk (some d) (.unOp .not t x) ty pos af none)).run P w=.ok (.value ((.bool (!b)))) w:=
 (by simp[execOp,hx,unary_not])
theorem Run.extract {vs:Array Value} {ix:Nat} {v:Value} (hx:ev ρ x=.tuple vs) (hv:vs[ix]?=some v) :
  (execOp (ev ρ) (Oper.mk (some d) (.extract x ix) ty pos af none)).run P w=.ok (.value (v)) w:=
 (by simp[execOp,hx,Instr.extract,hv])
theorem Run.nilCheck {a:Addr} (hx:ev ρ x=.pointer (some a)) :
  (execOp (ev ρ) (Oper.mk (some d) (.nilCheck x) ty pos af none)).run P w=.ok (.value ((.pointer (some a)))) w:=
 (by simp[execOp,hx])
theorem Run.lenS {a:Option Addr} {n c:Nat} {e:TypeId} (ht:P.underlying t=some (.slice e)) (hx:ev ρ x=.slice a n c) :
  (execOp (ev ρ) (Oper.mk (some d) (.call { callee:=.builtin .len,args:=#[x],argTypes:=#[t] }) ty pos af none)).run P w=.ok (.value ((.int .i64 n))) w:=
 (by simp[execOp,resolve,hx,invoke,builtin,Builtin.len_,run_underlying ht,goInt])
theorem Run.eqlT {a b:ByteArray} (hx:ev ρ x=.string a) (hy:ev ρ y=.string b) :
  (execOp (ev ρ) (Oper.mk (some d) (.binOp .eql t x y u) ty pos af none)).run P w=.ok (.value ((.bool (decide (a=b))))) w:=
 (by
  rw[←kN];simp only[execOp,hx,hy];simp[fM,binOp_string_eql])
theorem Run.neqT {a b:ByteArray} (hx:ev ρ x=.string a) (hy:ev ρ y=.string b) :
  (execOp (ev ρ) (Oper.mk (some d) (.binOp .neq t x y u) ty pos af none)).run P w=.ok (.value ((.bool (!decide (a=b))))) w:=
 (by
  rw[←kN];simp only[execOp,hx,hy];simp[fM,binOp_string_neq])
theorem Run.eqlB {a b:Bool} (ht:P.underlying t=some .bool) (hx:ev ρ x=.bool a) (hy:ev ρ y=.bool b) :
  (execOp (ev ρ) (Oper.mk (some d) (.binOp .eql t x y u) ty pos af none)).run P w=.ok (.value ((.bool (a == b)))) w:=
 (by simp only[execOp,hx,hy];simp[gK,run_eql_bool w t a b ht])
theorem Run.neqB {a b:Bool} (ht:P.underlying t=some .bool) (hx:ev ρ x=.bool a) (hy:ev ρ y=.bool b) :
  (execOp (ev ρ) (Oper.mk (some d) (.binOp .neq t x y u) ty pos af none)).run P w=.ok (.value ((.bool (!(a == b))))) w:=
 (by simp only[execOp,hx,hy];simp[gK,run_neq_bool w t a b ht])
theorem Run.load1 {b off:Nat} {v:Value} (ha:∀w,(isAgg t).run P w=.ok false w) (hS:SL I O E w) (hx:ev ρ x=.pointer (some ⟨b,off,none⟩)) (hv:At I O b off v)
  :
  (execOp (ev ρ) (Oper.mk (some d) (.load t x) ty pos af none)).run P w=.ok (.value (v)) w:=
 (by simp[execOp,hx,Instr.loadAt,Instr.sureAddr,loadVar,ha,hS.at_ hv])
theorem Run.loadA {b off:Nat} {cs:List Value} (ha:∀w,(isAgg t).run P w=.ok true w) (hs:∀w,(sizeOf t).run P w=.ok cs.length w) (hS:SL I O E w) (hx:ev ρ x=.pointer (some ⟨b,off,none⟩))
  (hv:∀j v,cs[j]?=some v→At I O b (off+j) v) :
  (execOp (ev ρ) (Oper.mk (some d) (.load t x) ty pos af none)).run P w=.ok (.value ((.agg cs.toArray))) w:=
 (by
  have hl:=run_loadCells_list (P:=P) w ⟨b,off,none⟩ cs (fun j v hj=>by rw[bo];exact hS.at_ (hv j v hj))
  simp[execOp,hx,Instr.loadAt,Instr.sureAddr,loadVar,ha,hs,hl])
theorem Run.idx {b off n c j k:Nat} {e:TypeId} {i:Int} (ht:P.underlying t=some (.slice e)) (hs:∀w,(sizeOf e).run P w=.ok k w) (hx:ev ρ x=.slice (some ⟨b,off,none⟩) n c)
  (hy:ev ρ y=.int .i64 i) (hi:i=(j:Int)) (hj:j<n) :
  (execOp (ev ρ) (Oper.mk (some d) (.indexAddr t x y) ty pos af none)).run P w=.ok (.value ((.pointer (some ⟨b,off+j*k,none⟩)))) w:=
 (by
  subst hi
  simp[execOp,hx,hy,Instr.indexAt,asIntOf,run_underlying ht,hs,hj,bo])
theorem Run.field {fs:Array Field} {f:Field} {i:Nat} {b off r:Nat} {sz:Nat} (ht:P.underlying t=some (.struct fs)) (hf:fs[i]?=some f) (hs:∀w,(sizeOf f.type).run P w=.ok sz w) (hz:sz≠0)
  (hx:ev ρ x=.pointer (some ⟨b,off,none⟩)) (hr:off+f.offset=r) :
  (execOp (ev ρ) (Oper.mk (some d) (.fieldAddr t x i) ty pos af none)).run P w=.ok (.value ((.pointer (some ⟨b,r,none⟩)))) w:=
 (by subst hr;simp[execOp,hx,Instr.fieldAt,run_underlying ht,hf,Instr.sureAddr,fieldPlace,hs,hz,bo])
end
def dR (W:Nat→Bool) (listed:Array Bool):Prop:=∃j,listed.getD j false=true∧W j=true
theorem kl {W:Nat→Bool} {listed:Array Bool} {i:Nat} (h:dR W listed):dR W (listed.setIfInBounds i true):=by
 obtain ⟨j,h1,h2⟩:=h
 refine ⟨j,?_,h2⟩
 rw[Array.getD_eq_getD_getElem?] at h1 ⊢
 rw[Array.getElem?_setIfInBounds]
 split
 ·rename_i e;subst e
  split
  ·rfl
  ·rename_i hn;rw[Array.getElem?_eq_none (by omega)] at h1;cases h1
 ·exact h1
theorem pt {W:Nat→Bool} {listed:Array Bool} {i:Nat} (hi:W i=false) (h:dR W (listed.setIfInBounds i true)):dR W listed:=by
 obtain ⟨j,h1,h2⟩:=h
 refine ⟨j,?_,h2⟩
 rw[Array.getD_eq_getD_getElem?] at h1 ⊢
 rw[Array.getElem?_setIfInBounds] at h1
 split at h1
 ·rename_i e;subst e;rw[hi] at h2;cases h2
 ·exact h1
def bE (P:Program) (ops:Array Oper) (S0 S:World→Prop) (W:Nat→Bool) (Q:bG→World→Prop):Nat→Array Bool→bG→World→Prop
 |0,listed,ρ,w=>Region.ready .any ops listed=[]∧Q ρ w
 |fuel+1,listed,ρ,w=>(Region.ready .any ops listed=[]→Q ρ w) ∧
   ∀i∈Region.ready .any ops listed,∀o,ops[i]?=some o→bx P ops (fun ρ' w'=>(S0 w'∧(dR W (listed.setIfInBounds i true)∨S w'))∧bE P ops S0 S W Q fuel (listed.setIfInBounds i true) ρ' w') [o] ρ w
theorem bE.any {P:Program} {n:Nat} {l:List Oper} {S0 S:World→Prop} {W:Nat→Bool} {Q:Exit→bG→World→Prop} (hd:fx n l=true):∀(fuel:Nat) (listed:Array Bool) (ρ:bG) (w:World) (a:Act),gc n a ρ →
  bE P l.toArray S0 S W (Q .normal) fuel listed ρ w→wpAny P .any l.toArray (E6 n Q) fuel listed a w
 |0,_,ρ,_,_,ha,h=>⟨h.1,ρ,ha,h.2⟩
 |fuel+1,listed,ρ,w,a,ha,h=>by
  refine ⟨fun h0=>⟨ρ,ha,h.1 h0⟩,fun i hi=>?_⟩
  obtain ⟨_,o,ho,_⟩:=mem_ready.1 hi
  have h2:=h.2 i hi o ho
  have hdo:o.dst.all (fun d=>decide (d<n))=true:=List.all_eq_true.1 hd _ (by simpa using Array.mem_of_getElem? ho)
  unfold wpOp
  simp only[ho]
  rw[pg ha _ _ (Az hd)]
  unfold bx at h2
  split
  ·rename_i hw;rw[if_pos hw] at h2
   exact .inl (h2.wp ha fun v w' ⟨_,h3⟩=>bE.any hd fuel _ _ _ _ (ha.put hdo v) h3)
  ·rename_i hw;rw[if_neg hw] at h2
   exact bE.any hd fuel _ _ _ _ (ha.put hdo undef) h2.2
theorem xT (ρ:bG) {x y:Option Nat} (v u:Value) (h:∀d,x=some d→y≠some d):updO (updO ρ x v) y u=updO (updO ρ y u) x v:=by
 cases x with
 |none=>rfl
 |some d=>
  cases y with
  |none=>rfl
  |some e=>
   have hne:d≠e:=fun he=>h d rfl (he▸rfl)
   funext t
   simp only[updO]
   by_cases h1:t=d
   ·subst h1;rw[dk _ _ hne,fK,fK]
   ·rw[dk _ _ h1]
    by_cases h2:t=e
    ·subst h2;rw[fK,fK]
    ·rw[dk _ _ h2,dk _ _ h2,dk _ _ h1]
theorem vQ {ρ:bG} {ops:Array Oper} {o:Oper} {d:Option Nat} {v:Value} (h:∀e,d=some e→e ∉ o.looksAt ops):∀x∈o.op.operands,ev (updO ρ d v) x=ev ρ x:=by
 intro x hx
 cases d with
 |none=>rfl
 |some e=>
  cases x with
  |tmp t=>
   have:t≠e:=fun he=>h e rfl (by
    subst he
    exact List.mem_append_left _ (List.mem_filterMap.2 ⟨.tmp t,by simpa using hx,rfl⟩))
   exact dk _ _ this
  |_=>rfl
theorem kO {ρ:bG} {ops:Array Oper} {o:Oper} {d:Option Nat} {v:Value} (h:∀e,d=some e→e ∉ o.looksAt ops):bM ops o (updO ρ d v)=bM ops o ρ:=by
 cases d with
 |none=>rfl
 |some e=>
  unfold bM
  cases hg:o.guard with
  |none=>rfl
  |some gw=>
   obtain ⟨g,want⟩:=gw
   dsimp only
   cases ht:(ops[g]?).bind (fun o:Oper=>o.dst) with
   |none=>rfl
   |some t=>
    have hne:t≠e:=fun he=>h e rfl (by subst he;simp[Oper.looksAt,hg,ht])
    have:updO ρ (some e) v t=ρ t:=dk _ _ hne
    simp only[this]
def sk (P:Program) (ops:Array Oper) (S:World→Prop) (o:Oper) (v:Value) (ρ:bG):Prop:=
 (bM ops o ρ=true∧∀w,S w→(execOp (ev ρ) o).run P w=.ok (.value v) w)∨(bM ops o ρ=false∧v=undef)
theorem sk.ops {P:Program} {ops:Array Oper} {S:World→Prop} {o:Oper} {v:Value} {ρ:bG} {K:bG→World→Prop} {w:World} (h:sk P ops S o v ρ) (hS:S w) (hK:K (updO ρ o.dst v) w):bx P ops K [o] ρ w:=by
 unfold bx
 rcases h with ⟨h1,h2⟩|⟨h1,rfl⟩
 ·rw[if_pos h1];unfold dQ;rw[h2 w hS];exact hK
 ·rw[if_neg (by simp[h1])];exact hK
theorem bE.first {P:Program} {ops:Array Oper} {S0 S:World→Prop} {W:Nat→Bool} {Q:bG→World→Prop} {i:Nat} {oi:Oper} {v:Value} (hi:ops[i]?=some oi) (hsel:∀(j:Nat) (o:Oper) cs b,ops[j]?=some o→o.op≠.select cs b)
  {Sx:World→Prop} {C:Array Bool→Prop} (hWi:W i=false)
  (hC:∀listed (j:Nat) oj,C listed→ops[j]?=some oj→j≠i→(∀e∈oj.after,Region.binds .any e=true→e.on≠i)→C (listed.setIfInBounds j true)) (hX:∀listed w,C listed→S0 w→(dR W listed∨S w)→Sx w) :
  ∀(fuel:Nat) (listed:Array Bool) (ρ:bG) (w:World),
   (∀j oj,ops[j]?=some oj→j≠i→listed.getD j true=false→(∀e∈oj.after,Region.binds .any e=true→e.on≠i)→oi.apart ops oj=true) →
   i∈Region.ready .any ops listed→sk P ops Sx oi v ρ→C listed→S0 w→(dR W listed∨S w) →
   bE P ops S0 S W Q fuel (listed.setIfInBounds i true) (updO ρ oi.dst v) w→bE P ops S0 S W Q (fuel+1) listed ρ w:=by
 intro fuel
 induction fuel with
 |zero=>
  intro listed ρ w _ hr hy hCl hS0 hS H
  refine ⟨fun h=>(by rw[h] at hr;cases hr),fun j hj o ho=>?_⟩
  by_cases hji:j=i
  ·subst hji
   rw[hi] at ho;cases ho
   exact hy.ops (hX _ _ hCl hS0 hS) ⟨⟨hS0,hS.imp kl id⟩,H⟩
  ·have:=ready_mono hj hji
   rw[H.1] at this
   cases this
 |succ fuel ih=>
  intro listed ρ w hfree hr hy hCl hS0 hS H
  refine ⟨fun h=>(by rw[h] at hr;cases hr),fun j hj oj hoj=>?_⟩
  by_cases hji:j=i
  ·subst hji
   rw[hi] at hoj;cases hoj
   exact hy.ops (hX _ _ hCl hS0 hS) ⟨⟨hS0,hS.imp kl id⟩,H⟩
  ·obtain ⟨hjun,oj',hoj',hall⟩:=mem_ready.1 hj
   rw[hoj] at hoj';cases hoj'
   have hnot:∀e∈oj.after,Region.binds .any e=true→e.on≠i:=fun e he hb heq=>by
    have h1:=hall e he hb
    have h0:=(mem_ready.1 hr).1
    rw[heq] at h1
    rcases Nat.lt_or_ge i listed.size with h'|h'
    ·simp[h'] at h0 h1;rw[h0] at h1;cases h1
    ·simp[Array.getElem?_eq_none h'] at h1
   have h1:=H.2 j (ready_mono hj hji) oj hoj
   obtain ⟨a1,a2,a3⟩:=Oper.apart_spec (hfree j oj hoj hji hjun hnot)
   have hwt:=kO (ρ:=ρ) (v:=v) (ops:=ops) (o:=oj) (d:=oi.dst) a1
   have hex:execOp (ev (updO ρ oi.dst v)) oj=execOp (ev ρ) oj:=execOp_congr oj (fun cs b=>hsel j oj cs b hoj) (vQ a1)
   have hfree':∀k ok,ops[k]?=some ok→k≠i→(listed.setIfInBounds j true).getD k true=false →
     (∀e∈ok.after,Region.binds .any e=true→e.on≠i)→oi.apart ops ok=true:=fun k ok hk hki hun hno=>by
    refine hfree k ok hk hki ?_ hno
    by_cases hjk:j=k
    ·subst hjk;exact hjun
    ·rw[getD_set_ne true hjk] at hun;exact hun
   have keep:∀u,sk P ops Sx oi v (updO ρ oj.dst u):=fun u=>by
    unfold sk at *
    rw[kO a3,execOp_congr oi (fun cs b=>hsel i oi cs b hi) (vQ a3)]
    exact hy
   have next:∀u w',((S0 w'∧(dR W ((listed.setIfInBounds i true).setIfInBounds j true)∨S w'))∧bE P ops S0 S W Q fuel ((listed.setIfInBounds i true).setIfInBounds j true) (updO (updO ρ oi.dst v) oj.dst u) w') →
     (S0 w'∧(dR W (listed.setIfInBounds j true)∨S w'))∧bE P ops S0 S W Q (fuel+1) (listed.setIfInBounds j true) (updO ρ oj.dst u) w':=by
    rintro u w' ⟨h2,h3⟩
    have hS':dR W (listed.setIfInBounds j true)∨S w':=h2.2.imp (fun h=>by
     rw[Array.setIfInBounds_comm _ _ (Ne.symm hji)] at h
     exact pt hWi h) id
    refine ⟨⟨h2.1,hS'⟩,ih _ _ _ hfree' (ready_mono hr (Ne.symm hji)) (keep u) (hC _ _ _ hCl hoj hji hnot) h2.1 hS' ?_⟩
    rw[←xT ρ v u a2,Array.setIfInBounds_comm _ _ hji]
    exact h3
   unfold bx at h1 ⊢
   rw[hwt] at h1
   split
   ·rename_i hw;rw[if_pos hw] at h1
    unfold dQ at h1 ⊢
    rw[hex] at h1
    split
    ·rename_i heq;rw[heq] at h1;exact next _ _ h1
    ·rename_i heq;rw[heq] at h1;exact next _ _ h1
    ·rename_i heq;rw[heq] at h1
     exact h1.mono fun e w'' ⟨u,he,hK⟩=>⟨u,he,next _ _ hK⟩
    ·rename_i h4 h5 h6
     split at h1
     ·rename_i heq;exact (h4 _ _ heq).elim
     ·rename_i heq;exact (h5 _ heq).elim
     ·rename_i heq;exact (h6 _ _ _ heq).elim
     ·exact h1
   ·rename_i hw;rw[if_neg hw] at h1
    exact next _ _ h1
def fO (l:List Oper) (i:Nat) (W:Nat→Bool):Bool:=(List.range l.length).all fun j=>j == i||!W j||(match l[j]? with|some oj=>oj.after.any (fun e=>Region.binds .any e&&e.on == i)|none=>true)
theorem sm {l:List Oper} {i:Nat} {W:Nat→Bool} (h:fO l i W=true) (j:Nat) (oj:Oper) (hj:l.toArray[j]?=some oj) (hne:j≠i) (hw:W j=true):∃e∈oj.after,Region.binds .any e=true∧e.on=i:=by
 simp only[fO,List.all_eq_true,List.mem_range] at h
 have hj':l[j]?=some oj:=by simpa using hj
 have:=h j (List.getElem?_eq_some_iff.1 hj').1
 simp only[hj',hw,Bool.not_true,Bool.or_false,Bool.or_eq_true,beq_iff_eq,hne,false_or] at this
 obtain ⟨e,he,hb⟩:=Array.any_eq_true'.1 this
 simp only[Bool.and_eq_true,beq_iff_eq] at hb
 exact ⟨e,he,hb.1,hb.2⟩
def eW (W:Nat→Bool) (listed:Array Bool):Bool:=(List.range listed.size).all fun j=>!(listed.getD j false&&W j)
theorem iL {W:Nat→Bool} {listed:Array Bool} (h:eW W listed=true):¬dR W listed:=fun ⟨j,h1,h2⟩=>by
 have hj:j<listed.size:=by
  rcases Nat.lt_or_ge j listed.size with h|h
  ·exact h
  ·rw[Array.getD_eq_getD_getElem?,Array.getElem?_eq_none h] at h1;cases h1
 have:=List.all_eq_true.1 h j (List.mem_range.2 hj)
 rw[h1,h2] at this;cases this
theorem iM {l:List Oper} {i:Nat} {W:Nat→Bool} (hW:fO l i W=true) (listed:Array Bool) (j:Nat) (oj:Oper) (hc:¬dR W listed) (hj:l.toArray[j]?=some oj) (hne:j≠i) (hno:∀e∈oj.after,Region.binds .any e=true→e.on≠i):¬dR W (listed.setIfInBounds j true):=fun h=>by
 refine hc (pt ?_ h)
 cases hw:W j with
 |false=>rfl
 |true=>
  obtain ⟨e,he,hb,hon⟩:=sm hW j oj hj hne hw
  exact absurd hon (hno e he hb)
section
variable {P:Program} {n:Nat} {l:List Oper} {S0 S:World→Prop} {W:Nat→Bool} {Q:bG→World→Prop} {fuel:Nat} {listed:Array Bool} {ρ:bG} {w:World}
variable {d ty:Nat} {op:Op} {pos:String} {af:Array Edge}
theorem WP.regionDraw (S0 S:World→Prop) (W:Nat→Bool) {Q:Exit→bG→World→Prop} {id:Nat} (hm:P.follows .mixedOrders=true) (hd:fx n l=true) (h:∀w',w'=w.drew→bE P l.toArray S0 S W (Q .normal) l.length (Array.replicate l.length false) ρ w'):WP P n (.region id l.toArray true) Q ρ w:=fun a ha=>
 wp_region_any hm (by have:=bE.any (S0:=S0) (S:=S) (W:=W) hd _ _ _ _ a ha (h _ rfl);simpa using this)
theorem bE.take {i:Nat} {v:Value} (hi:l[i]?=some (Oper.mk (some d) op ty pos af none)) (hs:Region.noSelect l.toArray=true) (hf:Region.free .any l.toArray listed i=true)
  (hr:(Region.ready .any l.toArray listed).contains i=true) (hW:fO l i W=true) (hWi:W i=false) (hcl:eW W listed=true) (hS0:S0 w) (hS:S w) (hy:∀w,S w→(execOp (ev ρ) (Oper.mk (some d) op ty pos af none)).run P w=.ok (.value v) w)
  (h:bE P l.toArray S0 S W Q fuel (listed.setIfInBounds i true) (upd ρ d v) w):bE P l.toArray S0 S W Q (fuel+1) listed ρ w:=
 bE.first (oi:=Oper.mk (some d) op ty pos af none) (by simpa using hi) (Region.noSelect_spec hs) (Sx:=S) (C:=fun listed=>¬dR W listed) hWi (iM hW) (fun _ _ h1 _ h2=>h2.resolve_left h1) fuel listed ρ w (Region.free_spec (by simpa using hi) hf) (by simpa using hr) (.inl ⟨rfl,hy⟩) (iL hcl) hS0 (.inr hS) h
theorem bE.takeK {i:Nat} {v:Value} (hi:l[i]?=some (Oper.mk (some d) op ty pos af none)) (hs:Region.noSelect l.toArray=true) (hf:Region.free .any l.toArray listed i=true)
  (hr:(Region.ready .any l.toArray listed).contains i=true) (hWi:W i=false) (hS0:S0 w) (hS:dR W listed∨S w) (hy:∀w,S0 w→(execOp (ev ρ) (Oper.mk (some d) op ty pos af none)).run P w=.ok (.value v) w)
  (h:bE P l.toArray S0 S W Q fuel (listed.setIfInBounds i true) (upd ρ d v) w):bE P l.toArray S0 S W Q (fuel+1) listed ρ w:=
 bE.first (oi:=Oper.mk (some d) op ty pos af none) (by simpa using hi) (Region.noSelect_spec hs) (Sx:=S0) (C:=fun _=>True) hWi (fun _ _ _ _ _ _ _=>trivial) (fun _ _ _ h _=>h) fuel listed ρ w (Region.free_spec (by simpa using hi) hf) (by simpa using hr) (.inl ⟨rfl,hy⟩) trivial hS0 hS h
theorem bE.takeT {i j s:Nat} {b t:Bool} {v:Value} (hi:l[i]?=some (Oper.mk (some d) op ty pos af (some (j,b)))) (hg:(l[j]?).bind (fun o:Oper=>o.dst)=some s) (hv:ρ s=.bool t) (ht:t=b) (hs:Region.noSelect l.toArray=true) (hf:Region.free .any l.toArray listed i=true)
  (hr:(Region.ready .any l.toArray listed).contains i=true) (hW:fO l i W=true) (hWi:W i=false) (hcl:eW W listed=true) (hS0:S0 w) (hS:S w) (hy:∀w,S w→(execOp (ev ρ) (Oper.mk (some d) op ty pos af none)).run P w=.ok (.value v) w)
  (h:bE P l.toArray S0 S W Q fuel (listed.setIfInBounds i true) (upd ρ d v) w):bE P l.toArray S0 S W Q (fuel+1) listed ρ w:=
 bE.first (oi:=Oper.mk (some d) op ty pos af (some (j,b))) (by simpa using hi) (Region.noSelect_spec hs) (Sx:=S) (C:=fun listed=>¬dR W listed) hWi (iM hW) (fun _ _ h1 _ h2=>h2.resolve_left h1) fuel listed ρ w (Region.free_spec (by simpa using hi) hf) (by simpa using hr)
  (.inl ⟨by simp only[bM,List.getElem?_toArray,hg,hv,ht];simp,hy⟩) (iL hcl) hS0 (.inr hS) h
theorem bE.takeF {i j s:Nat} {b t:Bool} (hi:l[i]?=some (Oper.mk (some d) op ty pos af (some (j,b)))) (hg:(l[j]?).bind (fun o:Oper=>o.dst)=some s) (hv:ρ s=.bool t) (ht:t=!b) (hs:Region.noSelect l.toArray=true) (hf:Region.free .any l.toArray listed i=true)
  (hr:(Region.ready .any l.toArray listed).contains i=true) (hW:fO l i W=true) (hWi:W i=false) (hcl:eW W listed=true) (hS0:S0 w) (hS:S w)
  (h:bE P l.toArray S0 S W Q fuel (listed.setIfInBounds i true) (upd ρ d undef) w):bE P l.toArray S0 S W Q (fuel+1) listed ρ w:=
 bE.first (oi:=Oper.mk (some d) op ty pos af (some (j,b))) (by simpa using hi) (Region.noSelect_spec hs) (Sx:=S) (C:=fun listed=>¬dR W listed) hWi (iM hW) (fun _ _ h1 _ h2=>h2.resolve_left h1) fuel listed ρ w (Region.free_spec (by simpa using hi) hf) (by simpa using hr)
  (.inr ⟨by simp only[bM,List.getElem?_toArray,hg,hv,ht];cases b<;>simp,rfl⟩) (iL hcl) hS0 (.inr hS) h
theorem bE.one {i:Nat} {o:Oper} (hi:l[i]?=some o) (hr:Region.ready .any l.toArray listed=[i])
  (h:bx P l.toArray (fun ρ' w'=>(S0 w'∧(dR W (listed.setIfInBounds i true)∨S w'))∧bE P l.toArray S0 S W Q fuel (listed.setIfInBounds i true) ρ' w') [o] ρ w):bE P l.toArray S0 S W Q (fuel+1) listed ρ w:=by
 refine ⟨fun h0=>(by rw[hr] at h0;cases h0),fun j hj o' ho'=>?_⟩
 rw[hr,List.mem_singleton] at hj
 subst hj
 have:o'=o:=by
  rw[List.getElem?_toArray,hi] at ho'
  exact (Option.some.inj ho').symm
 subst this
 exact h
theorem bE.done (hr:Region.ready .any l.toArray listed=[]) (h:Q ρ w):bE P l.toArray S0 S W Q fuel listed ρ w:=by
 cases fuel with
 |zero=>exact ⟨hr,h⟩
 |succ fuel=>exact ⟨fun _=>h,by rw[hr];intro i hi;cases hi⟩
end
end
section
section
variable {P:Program} {ops:Array Oper} {K:bG→World→Prop} {ρ:bG} {w:World} {rest:List Oper}
variable {d ty:Nat} {pos:String} {af:Array Edge} {x y:Operand} {t e:TypeId} {I:aC} {O:HU} {E:World}
theorem Fn.ofCalls {f:FuncId} {fn:Func} {c:Code} {args:Array Value} {R:Value→World→Prop} (hf:P.funcs[f]?=some fn) (hb:fn.body=some c) (hn:fn.name≠"runtime.NumGoroutine")
  (h:Calls P f args w fun e w'=>∃v,e=.returned v∧R v w'):Fn P f args w R:=⟨⟨fn,c,hf,hb,hn⟩,h⟩
theorem SL.below {w':World} (h:SL I O E w) (hb:Go.RowKit.Below w.heap.size w w'):SL I O E w':=
 ⟨hb.os.trans h.os,hb.output.trans h.output,hb.tape.trans h.tape,fun b o hI=>by rw[hb.block b (cx (h.pers b o hI))];exact h.pers b o hI,
  fun x hx=>by rw[hb.block x.1 (cx (h.own x hx))];exact h.own x hx,h.nodup,h.apart,h.base,h.flat,h.oflat⟩
theorem bx.rangeT {s:ByteArray} (ht:P.underlying t=some .string) (hS:SL I O E w) (hx:ev ρ x=.string s)
  (h:∀b w',SL I ((b,.stringIter s 0)::O) E w'→bx P ops K rest (upd ρ d (.pointer (some ⟨b,0,none⟩))) w'):bx P ops K (Oper.mk (some d) (.range t x) ty pos af none::rest) ρ w:=by
 refine qi rfl ?_
 unfold dQ
 have:(execOp (ev ρ) (Oper.mk (some d) (.range t x) ty pos af none)).run P w=.ok (.value (.pointer (some ⟨w.heap.size,0,none⟩))) (w.alloc (.stringIter s 0)):=by
  simp[execOp,Instr.range,hx,run_underlying ht]
 rw[this]
 exact h _ _ (hS.alloc _)
theorem eC {s:ByteArray} {p b:Nat} (hb:w.heap[b]?=some (.stringIter s p)):(getObj b).run P w=.ok (.stringIter s p) w:=by
 unfold getObj;rw[Sem.run,hb];rfl
theorem iN {s:ByteArray} {p b:Nat} (hb:w.heap[b]?=some (.stringIter s p)) (o:Obj):(setObj b o).run P w=.ok () { w with heap:=w.heap.setIfInBounds b o }:=by
 unfold setObj;rw[Sem.run,hb];rfl
theorem bx.nextT {s:ByteArray} {p b:Nat} (hS:SL I ((b,.stringIter s p)::O) E w) (hx:ev ρ x=.pointer (some ⟨b,0,none⟩)) (hp:p<s.size)
  (h:∀w',SL I ((b,.stringIter s (p+(Utf8.decode s p).2))::O) E w'→bx P ops K rest (upd ρ d (.tuple [.bool true,.int .i64 p,.int .i32 (Utf8.decode s p).1].toArray)) w'):bx P ops K (Oper.mk (some d) (.next x true) ty pos af none::rest) ρ w:=by
 have hb:=hS.own _ (.head _)
 simp only at hb
 refine qi rfl ?_
 unfold dQ
 have:(execOp (ev ρ) (Oper.mk (some d) (.next x true) ty pos af none)).run P w=.ok (.value (.tuple [.bool true,.int .i64 p,.int .i32 (Utf8.decode s p).1].toArray)) { w with heap:=w.heap.setIfInBounds b (.stringIter s (p+(Utf8.decode s p).2)) }:=by
  simp[execOp,Instr.next,hx,eC hb,iN hb,Result.andThen,hp,goInt]
 rw[this]
 refine h _ (hS.turn rfl rfl rfl ?_ ?_)
 ·simp[cx hb]
 ·intro k hk;simp[Array.getElem?_setIfInBounds,Ne.symm hk]
theorem bx.nextTover {s:ByteArray} {p b:Nat} (hS:SL I ((b,.stringIter s p)::O) E w) (hx:ev ρ x=.pointer (some ⟨b,0,none⟩)) (hp:¬p<s.size)
  (h:bx P ops K rest (upd ρ d (.tuple [.bool false].toArray)) w):bx P ops K (Oper.mk (some d) (.next x true) ty pos af none::rest) ρ w:=by
 have hb:=hS.own _ (.head _)
 simp only at hb
 refine qi rfl ?_
 unfold dQ
 have:(execOp (ev ρ) (Oper.mk (some d) (.next x true) ty pos af none)).run P w=.ok (.value (.tuple [.bool false].toArray)) w:=by
  simp[execOp,Instr.next,hx,eC hb,Result.andThen,hp]
 rw[this]
 exact h
section
variable {n:Nat} {R:Value→World→Prop}
end
theorem kP {s:ByteArray} {p:Nat} {b:UInt8} (h:s.data[p]?=some b) (hb:b<128):Utf8.decode s p=(b.toNat,1):=by
 unfold Utf8.decode
 have h1:s.get! p=b:=by
  show s.data[p]! = b
  rw[getElem!_def,h]
 have h2:b.toNat<128:=hb
 simp[h1,h2]
theorem bx.guardU {dd:Option Nat} {op:Op} {j s:Nat} {b:Bool} (hs:(ops[j]?).bind (fun o:Oper=>o.dst)=some s) (hv:ρ s=undef)
  (k:bx P ops K rest (updO ρ dd undef) w):bx P ops K (Oper.mk dd op ty pos af (some (j,b))::rest) ρ w:=by
 unfold bx
 rw[if_neg (by simp only[bM,hs,hv];simp[undef])]
 exact k
theorem SL.more {w':World} (h:SL I O E w) (h1:w'.os=w.os) (h2:w'.output=w.output) (h3:w'.tape=w.tape) (h4:∀k,k<w.heap.size→w'.heap[k]?=w.heap[k]?):SL I O E w':=
 ⟨h1.trans h.os,h2.trans h.output,h3.trans h.tape,fun b o hI=>by rw[h4 b (cx (h.pers b o hI))];exact h.pers b o hI,
  fun x hx=>by rw[h4 x.1 (cx (h.own x hx))];exact h.own x hx,h.nodup,h.apart,h.base,h.flat,h.oflat⟩
end
end
section
inductive AV where
 |any
 |bool (b:Bool)
 |int (k:IntKind) (n:Int)
 |str (s:ByteArray)
 |agg (cs:List AV)
 |tup (vs:List AV)
 |fro (k:Nat) (rows:List (List AV))
 |own (id n:Nat)
 |po (id off:Nat)
 |os (id off n:Nat)
 |pf (cs:List AV)
 |raw (v:Value)
 |fn (f:FuncId) (first captured:List AV)
 |ifc (t:TypeId) (v:AV)
 |ext (p:aC→Value→Prop)
 deriving Inhabited
structure G where
 k:aC
 h:Nat→Option (Option Nat × Nat)
structure G.le (I J:G):Prop where
 k:I.k.le J.k
 h:∀i x,I.h i=some x→J.h i=some x
theorem G.le.refl (I:G):I.le I:=⟨aC.le.refl _,fun _ _ h=>h⟩
theorem G.le.trans {I J K:G} (h:I.le J) (k:J.le K):I.le K:=⟨h.k.trans k.k,fun i x hi=>k.h i x (h.h i x hi)⟩
def xU (I:aC) (b i:Nat) (v:Value):Prop:=∃c T f,I b=some (.cells c T f)∧c[i]?=some v
theorem xU.mono {I J:aC} (h:I.le J) {b i:Nat} {v:Value} (hk:xU I b i v):xU J b i v:=let ⟨c,T,f,h1,h2⟩:=hk;⟨c,T,f,h _ _ h1,h2⟩
theorem xU.at_ {I:aC} {b i:Nat} {v:Value} (h:xU I b i v) (O:List (Nat × Obj)):At I O b i v:=.inl h
def adr (b:Option Nat):Option Addr:=b.map fun b=>⟨b,0,none⟩
mutual
def br (I:G):AV→Value→Prop
 |.any,_=>True
 |.bool b,v=>v=.bool b
 |.int k n,v=>v=.int k n
 |.str s,v=>v=.string s
 |.agg cs,v=>∃vs:List Value,v=.agg vs.toArray∧RepL I cs vs
 |.tup cs,v=>∃vs:List Value,v=.tuple vs.toArray∧RepL I cs vs
 |.fro k rows,v=>∃a n c,v=.slice a n c∧n=rows.length∧n≤c∧(a=none→c=0)∧RepR I k a 0 rows
 |.own id n,v=>∃b c,I.h id=some (b,c)∧v=.slice (adr b) n c
 |.po id off,v=>∃b c,I.h id=some (some b,c)∧v=.pointer (some ⟨b,off,none⟩)
 |.os id off n,v=>∃b c,I.h id=some (some b,c)∧v=.slice (some ⟨b,off,none⟩) n n
 |.pf cs,v=>∃b off vs,v=.pointer (some ⟨b,off,none⟩)∧RepL I cs vs∧∀(j:Nat) u,vs[j]?=some u→xU I.k b (off+j) u
 |.raw w,v=>v=w
 |.fn f a c,v=>∃vs us:List Value,v=.func (.func f) vs.toArray us.toArray∧RepL I a vs∧RepL I c us
 |.ifc t x,v=>∃u,v=.iface t u∧br I x u
 |.ext p,v=>v.oneCell'=true∧∀J:aC,I.k.le J→p J v
def RepL (I:G):List AV→List Value→Prop
 |[],vs=>vs=[]
 |x::xs,vs=>∃v us,vs=v::us∧br I x v∧RepL I xs us
def RepR (I:G) (k:Nat) (a:Option Addr) (j:Nat):List (List AV)→Prop
 |[]=>True
 |r::rs=>(∃b off vs,a=some ⟨b,off,none⟩∧vs.length=k∧RepL I r vs∧∀(i:Nat) u,vs[i]?=some u→xU I.k b (off+j*k+i) u)∧RepR I k a (j+1) rs
end
mutual
theorem br.mono {I J:G} (h:I.le J):∀(x:AV) (v:Value),br I x v→br J x v
 |.any,_,_=>trivial
 |.bool _,_,e=>e
 |.int _ _,_,e=>e
 |.str _,_,e=>e
 |.agg cs,_,⟨vs,e,h1⟩=>⟨vs,e,RepL.mono h cs vs h1⟩
 |.tup cs,_,⟨vs,e,h1⟩=>⟨vs,e,RepL.mono h cs vs h1⟩
 |.fro k rows,_,⟨a,n,c,e,h1,h2,h3,h4⟩=>⟨a,n,c,e,h1,h2,h3,RepR.mono h k a 0 rows h4⟩
 |.own id _,_,⟨b,c,h1,e⟩=>⟨b,c,h.h _ _ h1,e⟩
 |.po id _,_,⟨b,c,h1,e⟩=>⟨b,c,h.h _ _ h1,e⟩
 |.os id _ _,_,⟨b,c,h1,e⟩=>⟨b,c,h.h _ _ h1,e⟩
 |.pf cs,_,⟨b,off,vs,e,h1,h2⟩=>⟨b,off,vs,e,RepL.mono h cs vs h1,fun j u hj=>(h2 j u hj).mono h.k⟩
 |.raw _,_,e=>e
 |.fn _ a c,_,⟨vs,us,e,h1,h2⟩=>⟨vs,us,e,RepL.mono h a vs h1,RepL.mono h c us h2⟩
 |.ifc _ x,_,⟨u,e,h1⟩=>⟨u,e,br.mono h x u h1⟩
 |.ext _,_,⟨h1,h2⟩=>⟨h1,fun J hJ=>h2 J (h.k.trans hJ)⟩
theorem RepL.mono {I J:G} (h:I.le J):∀(x:List AV) (v:List Value),RepL I x v→RepL J x v
 |[],_,e=>e
 |x::xs,_,⟨v,us,e,h1,h2⟩=>⟨v,us,e,br.mono h x v h1,RepL.mono h xs us h2⟩
theorem RepR.mono {I J:G} (h:I.le J) (k:Nat) (a:Option Addr) (j:Nat):∀(rows:List (List AV)),RepR I k a j rows→RepR J k a j rows
 |[],_=>trivial
 |r::rs,⟨⟨b,off,vs,e,h1,h2,h3⟩,h4⟩=>⟨⟨b,off,vs,e,h1,RepL.mono h r vs h2,fun i u hi=>(h3 i u hi).mono h.k⟩,RepR.mono h k a (j+1) rs h4⟩
end
theorem RepL.length {I:G}:∀{xs:List AV} {vs:List Value},RepL I xs vs→vs.length=xs.length
 |[],_,e=>by simp[RepL] at e;simp[e]
 |x::xs,_,⟨v,us,e,_,h2⟩=>by subst e;simp[RepL.length h2]
theorem RepL.get {I:G}:∀{xs:List AV} {vs:List Value},RepL I xs vs→∀{j:Nat} {x:AV},xs[j]?=some x→∃v,vs[j]?=some v∧br I x v
 |[],_,_,j,x,hj=>by simp at hj
 |y::ys,_,⟨v,us,e,h1,h2⟩,j,x,hj=>by
  subst e
  cases j with
  |zero=>simp at hj;subst hj;exact ⟨v,rfl,h1⟩
  |succ j=>simp at hj;simpa using RepL.get h2 hj
theorem RepL.take {I:G}:∀{xs:List AV} {vs:List Value},RepL I xs vs→∀n,RepL I (xs.take n) (vs.take n)
 |[],_,e,n=>by simp[RepL] at e;simp[e,RepL]
 |y::ys,_,⟨v,us,e,h1,h2⟩,n=>by
  subst e
  cases n with
  |zero=>simp[RepL]
  |succ n=>exact ⟨v,us.take n,by simp,h1,RepL.take h2 n⟩
theorem RepL.drop {I:G}:∀{xs:List AV} {vs:List Value},RepL I xs vs→∀n,RepL I (xs.drop n) (vs.drop n)
 |[],_,e,n=>by simp[RepL] at e;simp[e,RepL]
 |y::ys,_,⟨v,us,e,h1,h2⟩,n=>by
  subst e
  cases n with
  |zero=>exact ⟨v,us,rfl,h1,h2⟩
  |succ n=>simpa using RepL.drop h2 n
theorem RepL.append {I:G}:∀{xs ys:List AV} {vs us:List Value},RepL I xs vs→RepL I ys us→RepL I (xs++ys) (vs++us)
 |[],_,_,_,e,h=>by simp[RepL] at e;simpa [e] using h
 |y::ys,_,_,_,⟨v,us,e,h1,h2⟩,h=>by subst e;exact ⟨v,_,rfl,h1,RepL.append h2 h⟩
theorem RepR.get {I:G} {k:Nat} {a:Option Addr}:∀{rows:List (List AV)} {j0:Nat},RepR I k a j0 rows→∀{j:Nat} {r:List AV},rows[j]?=some r →
  ∃b off vs,a=some ⟨b,off,none⟩∧vs.length=k∧RepL I r vs∧∀(i:Nat) u,vs[i]?=some u→xU I.k b (off+(j0+j)*k+i) u
 |[],_,_,j,r,hj=>by simp at hj
 |r::rs,j0,⟨h1,h2⟩,j,r',hj=>by
  cases j with
  |zero=>simp at hj;subst hj;simpa using h1
  |succ j=>
   simp at hj
   have:=RepR.get h2 hj
   have e:j0+1+j=j0+(j+1):=by omega
   rwa [e] at this
theorem RepR.intro {I:G} {k:Nat} {a:Option Addr}:∀{rows:List (List AV)} {j0:Nat},(∀(j:Nat) (r:List AV),rows[j]?=some r →
  ∃b off vs,a=some ⟨b,off,none⟩∧vs.length=k∧RepL I r vs∧∀(i:Nat) u,vs[i]?=some u→xU I.k b (off+(j0+j)*k+i) u)→RepR I k a j0 rows
 |[],_,_=>trivial
 |r::rs,j0,h=>⟨by simpa using h 0 r rfl,RepR.intro fun j r' hj=>by
   have:=h (j+1) r' (by simpa using hj)
   have e:j0+1+j=j0+(j+1):=by omega
   rwa [e]⟩
theorem RepL.one {I:G} {x:AV} {v:Value} (h:br I x v):RepL I [x] [v]:=⟨v,[],rfl,h,rfl⟩
def AV.cell:AV→Bool
 |.any | .agg _ | .tup _=>false
 |.raw v=>v.oneCell'
 |_=>true
theorem AV.cell_rep {I:G} {x:AV} {v:Value} (h:br I x v) (hc:x.cell=true):v.oneCell'=true:=by
 cases x<;>simp only[br,AV.cell] at h hc
 all_goals first
  |(cases hc;done)
  |exact h.1
  |(subst h;first|rfl|exact hc)
  |(obtain ⟨_,_,_,e,_⟩:=h;subst e;rfl)
  |(obtain ⟨_,_,e,_⟩:=h;subst e;rfl)
  |(obtain ⟨_,_,_,e⟩:=h;subst e;rfl)
  |(obtain ⟨_,e,_⟩:=h;subst e;rfl)
abbrev aH:=Nat→AV
def dx (I:G) (e:aH) (ρ:bG):Prop:=∀t,br I (e t) (ρ t)
def bp (e:aH) (d:Nat) (v:AV):aH:=fun t=>bif Nat.beq t d then v else e t
def AG (e:aH) (d:Option Nat) (v:AV):aH:=match d with|some d=>bp e d v|none=>e
def aP (e:aH):Operand→AV
 |.tmp t=>e t
 |.const (.bool b)=>.bool b
 |.const (.int k n)=>.int k n
 |.const (.string s)=>.str s
 |.const v=>.raw v
 |.global g=>.raw (.pointer (some ⟨g,0,none⟩))
 |.func f=>.fn f [] []
theorem dx.upd {I:G} {e:aH} {ρ:bG} (h:dx I e ρ) (d:Nat) {x:AV} {v:Value} (hx:br I x v):dx I (bp e d x) (upd ρ d v):=fun t=>by
 unfold bp Go.Proofs.YthphijnnbfjikaaGreatDoor.upd
 cases Nat.beq t d
 ·exact h t
 ·exact hx
theorem dx.updO {I:G} {e:aH} {ρ:bG} (h:dx I e ρ) (d:Option Nat) {x:AV} {v:Value} (hx:br I x v):dx I (AG e d x) (updO ρ d v):=by
 cases d with
 |none=>exact h
 |some d=>exact h.upd d hx
theorem dx.ev {I:G} {e:aH} {ρ:bG} (h:dx I e ρ):∀x,br I (aP e x) (ev ρ x)
 |.tmp t=>h t
 |.const v=>by cases v<;>exact rfl
 |.global _=>rfl
 |.func _=>⟨[],[],rfl,rfl,rfl⟩
theorem dx.mono {I J:G} {e:aH} {ρ:bG} (hl:I.le J) (h:dx I e ρ):dx J e ρ:=fun t=>br.mono hl _ _ (h t)
theorem dx.evs {I:G} {e:aH} {ρ:bG} (h:dx I e ρ):∀l:List Operand,RepL I (l.map (aP e)) (l.map (Go.Proofs.YthphijnnbfjikaaGreatDoor.ev ρ))
 |[]=>rfl
 |x::l=>⟨_,_,rfl,h.ev x,h.evs l⟩
inductive bm where
 |cells (T:TypeId) (cs:List AV)
 |grow (k:Nat) (T:TypeId) (cs:List AV)
 |iter (s:ByteArray) (p:Nat)
 |heap (p:List (Nat × Obj)→Prop)
 |heapG (p:G→List (Nat × Obj)→Prop) (hp:∀I J L,G.le I J→p I L→p J L)
 deriving Inhabited
abbrev OL:=List (Nat × bm)
def o5 (I:G) (x:Nat × bm) (L:List (Nat × Obj)):Prop:=
 match x.2 with
 |.cells T cs=>∃b c vs,I.h x.1=some (some b,c)∧RepL I cs vs∧(∀u∈vs,u.oneCell'=true)∧L=[(b,.cells vs.toArray T (0,0))]
 |.grow k T cs=>∃b c n vs,I.h x.1=some (b,c)∧RepL I cs vs∧(∀u∈vs,u.oneCell'=true)∧dM k T (adr b) n c vs L
 |.iter s p=>∃b c,I.h x.1=some (some b,c)∧L=[(b,.stringIter s p)]
 |.heap p=>p L
 |.heapG p _=>p I L
def bH (I:G):OL→List (Nat × Obj)→Prop
 |[],L=>L=[]
 |x::xs,L=>∃A B,L=A++B∧o5 I x A∧bH I xs B
theorem o5.mono {I J:G} (h:I.le J) {x:Nat × bm} {L:List (Nat × Obj)} (hx:o5 I x L):o5 J x L:=by
 obtain ⟨i,o⟩:=x
 cases o<;>simp only[o5] at *
 ·obtain ⟨b,c,vs,h1,h2,h3⟩:=hx;exact ⟨b,c,vs,h.h _ _ h1,RepL.mono h _ _ h2,h3⟩
 ·obtain ⟨b,c,n,vs,h1,h2,h3⟩:=hx;exact ⟨b,c,n,vs,h.h _ _ h1,RepL.mono h _ _ h2,h3⟩
 ·obtain ⟨b,c,h1,h2⟩:=hx;exact ⟨b,c,h.h _ _ h1,h2⟩
 ·exact hx
 ·rename_i p hp;exact hp _ _ _ h hx
theorem bH.mono {I J:G} (h:I.le J):∀{O:OL} {L:List (Nat × Obj)},bH I O L→bH J O L
 |[],_,e=>e
 |_::_,_,⟨A,B,e,h1,h2⟩=>⟨A,B,e,h1.mono h,bH.mono h h2⟩
theorem bH.append {I:G}:∀{O O':OL} {L:List (Nat × Obj)},bH I (O++O') L↔∃A B,L=A++B∧bH I O A∧bH I O' B
 |[],O',L=>⟨fun h=>⟨[],L,rfl,rfl,h⟩,fun ⟨A,B,e,h1,h2⟩=>by
   have h1:A=[]:=h1
   subst h1;subst e;exact h2⟩
 |x::O,O',L=>by
  constructor
  ·rintro ⟨A,B,e,h1,h2⟩
   obtain ⟨C,D,e2,h3,h4⟩:=bH.append.1 h2
   exact ⟨A++C,D,by simp[e,e2],⟨A,C,rfl,h1,h3⟩,h4⟩
  ·rintro ⟨A,B,e,⟨C,D,e2,h1,h2⟩,h3⟩
   exact ⟨C,D++B,by simp[e,e2],h1,bH.append.2 ⟨D,B,rfl,h2,h3⟩⟩
def fI (I:G) (O:OL) (F:List (Nat × Obj)) (E w:World):Prop:=
 (∃top,∀i,top≤i→I.h i=none)∧∃L,bH I O L∧SL I.k (L++F) E w
inductive cz:OL→Nat→bm→OL→Prop
 |head {i o O}:cz ((i,o)::O) i o O
 |tail {x O i o O'}:cz O i o O'→cz (x::O) i o (x::O')
inductive eR:OL→Nat→bm→bm→OL→Prop
 |head {i o o' O}:eR ((i,o)::O) i o o' ((i,o')::O)
 |tail {x O i o o' O'}:eR O i o o' O'→eR (x::O) i o o' (x::O')
theorem cz.rep {I:G} {O O':OL} {i:Nat} {o:bm} (h:cz O i o O'):∀{L},bH I O L→∃A B,L.Perm (A++B)∧o5 I (i,o) A∧bH I O' B:=by
 induction h with
 |head=>rintro L ⟨A,B,e,h1,h2⟩;exact ⟨A,B,e▸.refl _,h1,h2⟩
 |tail h ih=>
  rintro L ⟨A,B,e,h1,h2⟩
  obtain ⟨C,D,hp,h3,h4⟩:=ih h2
  refine ⟨C,A++D,?_,h3,⟨A,D,rfl,h1,h4⟩⟩
  subst e
  refine (hp.append_left A).trans ?_
  rw[←List.append_assoc,←List.append_assoc]
  exact List.perm_append_comm.append_right D
theorem eR.rep {I:G} {O O':OL} {i:Nat} {o o':bm} (h:eR O i o o' O'):∀{L},bH I O L→∃A B,L.Perm (A++B)∧o5 I (i,o) A ∧
  ∀{J:G} {A'},I.le J→o5 J (i,o') A'→∃L',bH J O' L'∧L'.Perm (A'++B):=by
 induction h with
 |head=>rintro L ⟨A,B,e,h1,h2⟩;exact ⟨A,B,e▸.refl _,h1,fun {J A'} hl h=>⟨A'++B,⟨A',B,rfl,h,h2.mono hl⟩,.refl _⟩⟩
 |tail h ih=>
  rintro L ⟨A,B,e,h1,h2⟩
  obtain ⟨C,D,hp,h3,h4⟩:=ih h2
  refine ⟨C,A++D,?_,h3,fun {J A'} hl h=>?_⟩
  ·subst e
   refine (hp.append_left A).trans ?_
   rw[←List.append_assoc,←List.append_assoc]
   exact List.perm_append_comm.append_right D
  ·obtain ⟨L',h5,h6⟩:=h4 hl h
   refine ⟨A++L',⟨A,L',rfl,h1.mono hl,h5⟩,?_⟩
   refine (h6.append_left A).trans ?_
   rw[←List.append_assoc,←List.append_assoc]
   exact List.perm_append_comm.append_right D
inductive EG:OL→OL→Prop
 |refl (O):EG O O
 |keep {x O O'}:EG O O'→EG (x::O) (x::O')
 |drop {x O O'}:EG O O'→EG (x::O) O'
theorem bH.sub {I:G} {O O':OL} (h:EG O O'):∀{L},bH I O L→∃L',bH I O' L'∧L'.Sublist L:=by
 induction h with
 |refl=>intro L h;exact ⟨L,h,.refl _⟩
 |keep _ ih=>rintro L ⟨A,B,e,h1,h2⟩;obtain ⟨B',h3,h4⟩:=ih h2;exact ⟨A++B',⟨A,B',rfl,h1,h3⟩,e▸h4.append_left A⟩
 |drop _ ih=>rintro L ⟨A,B,e,h1,h2⟩;obtain ⟨B',h3,h4⟩:=ih h2;exact ⟨B',h3,e▸h4.trans (List.sublist_append_right A B)⟩
theorem fI.sub {I:G} {O O':OL} {F:List (Nat × Obj)} {E w:World} (h:EG O O') (hs:fI I O F E w):fI I O' F E w:=by
 obtain ⟨ht,L,hL,hS⟩:=hs
 obtain ⟨L',h1,h2⟩:=hL.sub h
 exact ⟨ht,L',h1,hS.sub (h2.append_right F)⟩
def Left (O O':OL):Prop:=∃O'',EG O O''∧O''=O'
theorem Left.sla {I:G} {O O':OL} {F:List (Nat × Obj)} {E w:World} (h:Left O O') (hs:fI I O F E w):fI I O' F E w:=by
 obtain ⟨_,h1,rfl⟩:=h;exact hs.sub h1
end
section
def kQ (I:G) (F:List (Nat × Obj)) (E:World) (Q:Exit→aH→OL→Prop):Exit→bG→World→Prop:=fun e ρ w=>∃J env O,I.le J∧dx J env ρ∧fI J O F E w∧Q e env O
def eS (I:G) (F:List (Nat × Obj)) (E:World) (K:aH→OL→Prop):bG→World→Prop:=fun ρ w=>∃J env O,I.le J∧dx J env ρ∧fI J O F E w∧K env O
theorem kQ.up {I J:G} {F:List (Nat × Obj)} {E:World} {Q:Exit→aH→OL→Prop} (h:I.le J) {e:Exit} {ρ:bG} {w:World}:kQ J F E Q e ρ w→kQ I F E Q e ρ w:=
 fun ⟨K,env,O,h1,h2⟩=>⟨K,env,O,h.trans h1,h2⟩
theorem eS.up {I J:G} {F:List (Nat × Obj)} {E:World} {Q:aH→OL→Prop} (h:I.le J) {ρ:bG} {w:World}:eS J F E Q ρ w→eS I F E Q ρ w:=
 fun ⟨K,env,O,h1,h2⟩=>⟨K,env,O,h.trans h1,h2⟩
def cO (P:Program) (E:World) (n:Nat) (c:Code) (Q:Exit→aH→OL→Prop) (env:aH) (O:OL):Prop:=
 ∀I F ρ w,dx I env ρ→fI I O F E w→WP P n c (kQ I F E Q) ρ w
def nq (K:aH→OL→Prop) (Q:Exit→aH→OL→Prop):Exit→aH→OL→Prop:=fun e env O=>
 match e with
 |.normal=>K env O
 |e=>Q e env O
def qE (id:Nat) (Q:Exit→aH→OL→Prop):Exit→aH→OL→Prop:=fun e env O=>
 match e with
 |.exit i=>if i=id then Q .normal env O else Q (.exit i) env O
 |e=>Q e env O
section
variable {E:World} {P:Program} {n:Nat} {Q:Exit→aH→OL→Prop} {env:aH} {O:OL}
theorem bc {K:aH→OL→Prop} (h:Q .ret env O):nq K Q .ret env O:=h
theorem aO {id:Nat} (h:Q .ret env O):qE id Q .ret env O:=h
theorem cO.mono {c:Code} {Q':Exit→aH→OL→Prop} (h:cO P E n c Q env O) (hq:∀e env O,Q e env O→Q' e env O):cO P E n c Q' env O:=
 fun I F ρ w h1 h2=>(h I F ρ w h1 h2).mono fun _ _ _ ⟨J,env,O,a,b,c,d⟩=>⟨J,env,O,a,b,c,hq _ _ _ d⟩
theorem cO.skip (h:Q .normal env O):cO P E n .skip Q env O:=fun I _ _ _ h1 h2=>WP.skip ⟨I,env,O,.refl _,h1,h2,h⟩
theorem cO.ret (h:Q .ret env O):cO P E n .ret Q env O:=fun I _ _ _ h1 h2=>WP.ret ⟨I,env,O,.refl _,h1,h2,h⟩
theorem cO.exit {id:Nat} (h:Q (.exit id) env O):cO P E n (.exit id) Q env O:=fun I _ _ _ h1 h2=>WP.exit ⟨I,env,O,.refl _,h1,h2,h⟩
theorem cO.seq {x y:Code} (h:cO P E n x (nq (cO P E n y Q) Q) env O):cO P E n (.seq x y) Q env O:=fun I F ρ w h1 h2=>
 WP.seq ((h I F ρ w h1 h2).mono fun e ρ w ⟨J,env,O,a,b,c,d⟩=>by
  cases e<;>first|exact (d J F ρ w b c).mono (fun _ _ _=>kQ.up a)|exact ⟨J,env,O,a,b,c,d⟩)
theorem cO.block {id:Nat} {c:Code} (h:cO P E n c (qE id Q) env O):cO P E n (.block id c) Q env O:=fun I F ρ w h1 h2=>
 WP.block ((h I F ρ w h1 h2).mono fun e ρ w ⟨J,env,O,a,b,c,d⟩=>by
  cases e<;>try exact ⟨J,env,O,a,b,c,d⟩
  rename_i i
  simp only[qE] at d
  simp only[ur]
  split<;>rename_i hi
  ·rw[if_pos hi] at d;exact ⟨J,env,O,a,b,c,d⟩
  ·rw[if_neg hi] at d;exact ⟨J,env,O,a,b,c,d⟩)
theorem cO.cond {c:Operand} {x y:Code} {t:Bool} (hc:aP env c=.bool t) (h:t=true→cO P E n x Q env O) (h':t=false→cO P E n y Q env O):cO P E n (.cond c x y) Q env O:=fun I F ρ w h1 h2=>
 WP.condB (t:=t) (by have:=h1.ev c;rw[hc] at this;exact this) (fun e=>h e I F ρ w h1 h2) (fun e=>h' e I F ρ w h1 h2)
theorem cO.condP {c:Operand} {x y:Code} {p:Prop} [Decidable p] (hc:aP env c=.bool (decide p)) (h:p→cO P E n x Q env O) (h':¬p→cO P E n y Q env O):cO P E n (.cond c x y) Q env O:=
 cO.cond hc (fun e=>h (of_decide_eq_true e)) (fun e=>h' (of_decide_eq_false e))
theorem cO.condT {c:Operand} {x y:Code} {t:Bool} (hc:aP env c=.bool t) (ht:t=true) (h:cO P E n x Q env O):cO P E n (.cond c x y) Q env O:=cO.cond hc (fun _=>h) (fun e=>by rw[ht] at e;cases e)
theorem cO.condF {c:Operand} {x y:Code} {t:Bool} (hc:aP env c=.bool t) (ht:t=false) (h:cO P E n y Q env O):cO P E n (.cond c x y) Q env O:=cO.cond hc (fun e=>by rw[ht] at e;cases e) (fun _=>h)
theorem cO.weak {c:Code} {env':aH} (h:cO P E n c Q env' O) (hw:∀t,env' t=.any∨env' t=env t):cO P E n c Q env O:=fun I F ρ w h1 h2=>
 h I F ρ w (fun t=>by
  rcases hw t with e|e
  ·rw[e];trivial
  ·rw[e];exact h1 t) h2
def keep (env:aH) (l:List Nat):aH:=fun t=>bif l.any (Nat.beq t) then env t else .any
def put (env:aH):List (Nat × AV)→aH
 |[]=>env
 |(d,v)::l=>bp (put env l) d v
def pu (env:aH):List (Nat × AV)→Prop
 |[]=>True
 |(d,v)::l=>env d=v∧pu env l
def gL (env env':aH):List Nat→Prop
 |[]=>True
 |d::l=>env' d=env d∧gL env env' l
theorem sn {env env':aH} {f:List Nat} {l:List (Nat × AV)} (h1:gL env env' f) (h2:pu env' l):∀t,put (Go.Proofs.YthphijnnbfjikaaGreatDoor.keep env f) l t=.any∨put (Go.Proofs.YthphijnnbfjikaaGreatDoor.keep env f) l t=env' t:=by
 intro t
 induction l with
 |nil=>
  simp only[put,Go.Proofs.YthphijnnbfjikaaGreatDoor.keep]
  cases hb:f.any (Nat.beq t) with
  |false=>simp
  |true=>
   right
   simp only[cond_true]
   clear h2
   induction f with
   |nil=>simp at hb
   |cons d f ih=>
    simp only[List.any_cons,Bool.or_eq_true] at hb
    rcases hb with hb|hb
    ·have:t=d:=Nat.eq_of_beq_eq_true hb
     subst this;exact h1.1.symm
    ·exact ih h1.2 hb
 |cons x l ih=>
  obtain ⟨d,v⟩:=x
  simp only[put,bp]
  cases hb:Nat.beq t d with
  |false=>simpa using ih h2.2
  |true=>
   have:t=d:=Nat.eq_of_beq_eq_true hb
   subst this;right;exact h2.1.symm
theorem cO.cut {c:Code} (K:aH→OL→Prop) (h:cO P E n c (nq K Q) env O) (hj:∀env O,K env O→Q .normal env O):cO P E n c Q env O:=
 h.mono fun e ρ w hq=>by cases e<;>first|exact hj _ _ hq|exact hq
theorem cO.loop0 {γ:Type} {c:Code} (Inv:γ→aH→OL→Prop) (μ:γ→Nat) (g₀:γ) (h₀:Inv g₀ env O)
  (round:∀g env O,Inv g env O→cO P E n c (nq (fun env' O'=>∃g',Inv g' env' O'∧μ g'<μ g) Q) env O):cO P E n (.loop c) Q env O:=fun I F ρ w h1 h2=>
 WP.loop (γ:=γ) (fun g ρ w=>∃J env O,I.le J∧dx J env ρ∧fI J O F E w∧Inv g env O) μ g₀ ⟨I,env,O,.refl _,h1,h2,h₀⟩
  (fun g ρ w ⟨J,env,O,hl,h3,h4,h5⟩=>(round g env O h5 J F ρ w h3 h4).mono fun e ρ' w' ⟨K,env',O',a,b,c,d⟩=>by
   cases e with
   |normal=>obtain ⟨g',d1,d2⟩:=d;exact ⟨g',⟨K,env',O',hl.trans a,b,c,d1⟩,d2⟩
   |exit _=>exact ⟨K,env',O',hl.trans a,b,c,d⟩
   |goto _=>exact ⟨K,env',O',hl.trans a,b,c,d⟩
   |ret=>exact ⟨K,env',O',hl.trans a,b,c,d⟩
   |panic _=>exact ⟨K,env',O',hl.trans a,b,c,d⟩
   |outgrown=>exact ⟨K,env',O',hl.trans a,b,c,d⟩)
theorem cO.left {c:Code} {O':OL} (hl:Left O O') (h:cO P E n c Q env O'):cO P E n c Q env O:=fun I F ρ w h1 h2=>h I F ρ w h1 (hl.sla h2)
theorem gL.refl (env:aH):∀f,gL env env f
 |[]=>trivial
 |_::f=>⟨rfl,gL.refl env f⟩
theorem cO.loop {γ:Type} {c:Code} (f:List Nat) (S:γ→List (Nat × AV)) (M:γ→OL) (p:γ→Prop) (μ:γ→Nat) (g₀:γ) (h₀:pu env (S g₀)) (hO:Left O (M g₀)) (hp:p g₀)
  (round:∀g,p g→cO P E n c (nq (fun env' O'=>∃g',gL env env' f∧pu env' (S g')∧Left O' (M g')∧p g'∧μ g'<μ g) Q) (put (Go.Proofs.YthphijnnbfjikaaGreatDoor.keep env f) (S g)) (M g)):cO P E n (.loop c) Q env O:=
 cO.loop0 (fun g env' O'=>gL env env' f∧pu env' (S g)∧Left O' (M g)∧p g) μ g₀ ⟨gL.refl env f,h₀,hO,hp⟩
  (fun g env' O' ⟨h1,h2,h3,h4⟩=>by
   refine (((round g h4).weak (sn h1 h2)).left h3).mono fun e env O hq=>?_
   cases e<;>try exact hq
   obtain ⟨g',a,b,c,d,e⟩:=hq
   exact ⟨g',⟨a,b,c,d⟩,e⟩)
theorem cO.cutS {γ:Type} {c d:Code} {Q':Exit→aH→OL→Prop} (f:List Nat) (S:γ→List (Nat × AV)) (M:γ→OL) (p:γ→Prop) (h:cO P E n c (nq (fun env' O'=>∃g,gL env env' f∧pu env' (S g)∧Left O' (M g)∧p g) Q) env O)
  (hQ:∀env O,cO P E n d Q' env O→Q .normal env O) (hj:∀g,p g→cO P E n d Q' (put (Go.Proofs.YthphijnnbfjikaaGreatDoor.keep env f) (S g)) (M g)):cO P E n c Q env O:=
 cO.cut _ h fun env' O' ⟨g,h1,h2,h3,h4⟩=>hQ _ _ (((hj g h4).weak (sn h1 h2)).left h3)
end
def ai (P:Program) (E:World) (ops:Array Oper) (K:aH→OL→Prop) (l:List Oper) (env:aH) (O:OL):Prop:=
 ∀I F ρ w,dx I env ρ→fI I O F E w→bx P ops (eS I F E K) l ρ w
def Gv (P:Program) (env:aH) (O:OL) (o:Oper) (x:AV):Prop:=
 ∀(I:G) L E ρ,dx I env ρ→bH I O L→∃v,br I x v∧∀w J L',I.k.le J→SL J L' E w→(∀y∈L,y∈L')→(execOp (ev ρ) o).run P w=.ok (.value v) w
section
variable {E:World} {P:Program} {n:Nat} {ops:Array Oper} {K:aH→OL→Prop} {env:aH} {O:OL} {rest:List Oper}
variable {d ty:Nat} {op:Op} {pos:String} {af:Array Edge}
theorem cO.region {Q:Exit→aH→OL→Prop} {id:Nat} {l:List Oper} (hd:fx n l=true) (h:ai P E l.toArray (Q .normal) l env O):cO P E n (.region id l.toArray false) Q env O:=fun I F ρ w h1 h2=>
 WP.region hd (h I F ρ w h1 h2)
theorem ai.nil (h:K env O):ai P E ops K [] env O:=fun I _ _ _ h1 h2=>bx.nil ⟨I,env,O,.refl _,h1,h2,h⟩
theorem ai.val {x:AV} (h:Gv P env O (Oper.mk (some d) op ty pos af none) x) (k:ai P E ops K rest (bp env d x) O):ai P E ops K (Oper.mk (some d) op ty pos af none::rest) env O:=fun I F ρ w h1 h2=>by
 obtain ⟨L,hL,hS⟩:=h2.2
 obtain ⟨v,hv,hr⟩:=h I L E ρ h1 hL
 exact bx.val (hr w I.k (L++F) (.refl _) hS fun _ h=>List.mem_append_left _ h) (k I F _ w (h1.upd d hv) h2)
theorem ai.guardT {dd:Option Nat} {j s:Nat} {b t:Bool} (hs:(ops[j]?).bind (fun o:Oper=>o.dst)=some s) (hv:env s=.bool t) (ht:t=b)
  (k:ai P E ops K (Oper.mk dd op ty pos af none::rest) env O):ai P E ops K (Oper.mk dd op ty pos af (some (j,b))::rest) env O:=fun I F ρ w h1 h2=>
 bx.guardT hs (by have:=h1 s;rw[hv] at this;exact this) ht (k I F ρ w h1 h2)
theorem ai.guardF {dd:Option Nat} {j s:Nat} {b t:Bool} (hs:(ops[j]?).bind (fun o:Oper=>o.dst)=some s) (hv:env s=.bool t) (ht:t=!b)
  (k:ai P E ops K rest (AG env dd (.raw undef)) O):ai P E ops K (Oper.mk dd op ty pos af (some (j,b))::rest) env O:=fun I F ρ w h1 h2=>
 bx.guardF hs (by have:=h1 s;rw[hv] at this;exact this) ht (k I F _ w (h1.updO dd rfl) h2)
theorem ai.guardFd {j s:Nat} {b t:Bool} (hs:(ops[j]?).bind (fun o:Oper=>o.dst)=some s) (hv:env s=.bool t) (ht:t=!b)
  (k:ai P E ops K rest (bp env d (.raw undef)) O):ai P E ops K (Oper.mk (some d) op ty pos af (some (j,b))::rest) env O:=ai.guardF hs hv ht k
theorem ai.guardU {dd:Option Nat} {j s:Nat} {b:Bool} (hs:(ops[j]?).bind (fun o:Oper=>o.dst)=some s) (hv:env s=.raw undef)
  (k:ai P E ops K rest (AG env dd (.raw undef)) O):ai P E ops K (Oper.mk dd op ty pos af (some (j,b))::rest) env O:=fun I F ρ w h1 h2=>
 bx.guardU hs (by have:=h1 s;rw[hv] at this;exact this) (k I F _ w (h1.updO dd rfl) h2)
theorem ai.guardUd {j s:Nat} {b:Bool} (hs:(ops[j]?).bind (fun o:Oper=>o.dst)=some s) (hv:env s=.raw undef)
  (k:ai P E ops K rest (bp env d (.raw undef)) O):ai P E ops K (Oper.mk (some d) op ty pos af (some (j,b))::rest) env O:=ai.guardU hs hv k
theorem ai.case {s:Nat} {t:Bool} {l:List Oper} (hv:env s=.bool t) (h1:t=true→ai P E ops K l env O) (h2:t=false→ai P E ops K l env O):ai P E ops K l env O:=by
 have _:=hv
 cases t
 ·exact h2 rfl
 ·exact h1 rfl
end
end
section
section
variable {E:World} {P:Program} {env:aH} {O:OL} {d ty:Nat} {pos:String} {af:Array Edge} {x y z:Operand} {t u e:TypeId}
theorem Gv.ofEv {op:Op} {v:AV} (h:∀(I:G) ρ,dx I env ρ→∃u,br I v u∧∀w,(execOp (ev ρ) (Oper.mk (some d) op ty pos af none)).run P w=.ok (.value u) w):Gv P env O (Oper.mk (some d) op ty pos af none) v:=
 fun I _ _ ρ h1 _=>let ⟨u,h2,h3⟩:=h I ρ h1;⟨u,h2,fun w _ _ _ _ _=>h3 w⟩
theorem Gv.move {v:AV} (hx:aP env x=v):Gv P env O (Oper.mk (some d) (.move x) ty pos af none) v:=Gv.ofEv fun I ρ h=>⟨ev ρ x,hx▸h.ev x,fun _=>rfl⟩
theorem Gv.assign {v:AV} (hx:aP env x=v):Gv P env O (Oper.mk (some d) (.assign x) ty pos af none) v:=Gv.ofEv fun I ρ h=>⟨ev ρ x,hx▸h.ev x,fun _=>rfl⟩
theorem Fb {I:G} {ρ:bG} {b:Bool} (h:dx I env ρ) (hx:aP env x=.bool b):ev ρ x=.bool b:=by have:=h.ev x;rw[hx] at this;exact this
theorem fz {I:G} {ρ:bG} {k:IntKind} {n:Int} (h:dx I env ρ) (hx:aP env x=.int k n):ev ρ x=.int k n:=by have:=h.ev x;rw[hx] at this;exact this
theorem Fc {I:G} {ρ:bG} {s:ByteArray} (h:dx I env ρ) (hx:aP env x=.str s):ev ρ x=.string s:=by have:=h.ev x;rw[hx] at this;exact this
theorem fA {I:G} {ρ:bG} {v:Value} (h:dx I env ρ) (hx:aP env x=.raw v):ev ρ x=v:=by have:=h.ev x;rw[hx] at this;exact this
theorem Gv.pickT {b:Bool} {v:AV} (hc:aP env x=.bool b) (hb:b=true) (hy:aP env y=v):Gv P env O (Oper.mk (some d) (.pick x y z) ty pos af none) v:=
 Gv.ofEv fun I ρ h=>⟨ev ρ y,hy▸h.ev y,fun _=>Run.pickT (Fb h hc) hb rfl⟩
theorem Gv.pickF {b:Bool} {v:AV} (hc:aP env x=.bool b) (hb:b=false) (hy:aP env z=v):Gv P env O (Oper.mk (some d) (.pick x y z) ty pos af none) v:=
 Gv.ofEv fun I ρ h=>⟨ev ρ z,hy▸h.ev z,fun _=>Run.pickF (Fb h hc) hb rfl⟩
theorem Gv.lss {k:IntKind} {a b:Int} (hx:aP env x=.int k a) (hy:aP env y=.int k b):Gv P env O (Oper.mk (some d) (.binOp .lss t x y u) ty pos af none) (.bool (decide (a<b))):=Gv.ofEv fun I ρ h=>⟨_,rfl,fun _=>Run.lss (fz h hx) (fz h hy)⟩
theorem Gv.leq {k:IntKind} {a b:Int} (hx:aP env x=.int k a) (hy:aP env y=.int k b):Gv P env O (Oper.mk (some d) (.binOp .leq t x y u) ty pos af none) (.bool (decide (a≤b))):=Gv.ofEv fun I ρ h=>⟨_,rfl,fun _=>Run.leq (fz h hx) (fz h hy)⟩
theorem Gv.gtr {k:IntKind} {a b:Int} (hx:aP env x=.int k a) (hy:aP env y=.int k b):Gv P env O (Oper.mk (some d) (.binOp .gtr t x y u) ty pos af none) (.bool (decide (b<a))):=Gv.ofEv fun I ρ h=>⟨_,rfl,fun _=>Run.gtr (fz h hx) (fz h hy)⟩
theorem Gv.geq {k:IntKind} {a b:Int} (hx:aP env x=.int k a) (hy:aP env y=.int k b):Gv P env O (Oper.mk (some d) (.binOp .geq t x y u) ty pos af none) (.bool (decide (b≤a))):=Gv.ofEv fun I ρ h=>⟨_,rfl,fun _=>Run.geq (fz h hx) (fz h hy)⟩
theorem Gv.eqlI {k:IntKind} {a b:Int} (hx:aP env x=.int k a) (hy:aP env y=.int k b):Gv P env O (Oper.mk (some d) (.binOp .eql t x y u) ty pos af none) (.bool (decide (a=b))):=Gv.ofEv fun I ρ h=>⟨_,rfl,fun _=>Run.eqlI (fz h hx) (fz h hy)⟩
theorem Gv.neqI {k:IntKind} {a b:Int} (hx:aP env x=.int k a) (hy:aP env y=.int k b):Gv P env O (Oper.mk (some d) (.binOp .neq t x y u) ty pos af none) (.bool (!decide (a=b))):=Gv.ofEv fun I ρ h=>⟨_,rfl,fun _=>by rw[←decide_not];exact Run.neqI (fz h hx) (fz h hy)⟩
theorem Gv.add {a b:Int} (hx:aP env x=.int .i64 a) (hy:aP env y=.int .i64 b) (hr:pq (a+b)):Gv P env O (Oper.mk (some d) (.binOp .add t x y u) ty pos af none) (.int .i64 (a+b)):=Gv.ofEv fun I ρ h=>⟨_,rfl,fun _=>Run.add (fz h hx) (fz h hy) hr⟩
theorem Gv.sub {a b:Int} (hx:aP env x=.int .i64 a) (hy:aP env y=.int .i64 b) (hr:pq (a - b)):Gv P env O (Oper.mk (some d) (.binOp .sub t x y u) ty pos af none) (.int .i64 (a - b)):=Gv.ofEv fun I ρ h=>⟨_,rfl,fun _=>Run.sub (fz h hx) (fz h hy) hr⟩
theorem Gv.addW {k:IntKind} {a b:Int} (hx:aP env x=.int k a) (hy:aP env y=.int k b):Gv P env O (Oper.mk (some d) (.binOp .add t x y u) ty pos af none) (.int k (k.wrap (a+b))):=Gv.ofEv fun I ρ h=>⟨_,rfl,fun _=>Run.addW (fz h hx) (fz h hy)⟩
theorem Gv.subW {k:IntKind} {a b:Int} (hx:aP env x=.int k a) (hy:aP env y=.int k b):Gv P env O (Oper.mk (some d) (.binOp .sub t x y u) ty pos af none) (.int k (k.wrap (a - b))):=Gv.ofEv fun I ρ h=>⟨_,rfl,fun _=>Run.subW (fz h hx) (fz h hy)⟩
theorem Gv.mulW {k:IntKind} {a b:Int} (hx:aP env x=.int k a) (hy:aP env y=.int k b):Gv P env O (Oper.mk (some d) (.binOp .mul t x y u) ty pos af none) (.int k (k.wrap (a*b))):=Gv.ofEv fun I ρ h=>⟨_,rfl,fun _=>Run.mulW (fz h hx) (fz h hy)⟩
theorem Gv.not {b:Bool} (hx:aP env x=.bool b):Gv P env O (Oper.mk (some d) (.unOp .not t x) ty pos af none) (.bool (!b)):=Gv.ofEv fun I ρ h=>⟨_,rfl,fun _=>Run.not (Fb h hx)⟩
theorem Gv.eqlT {a b:ByteArray} (hx:aP env x=.str a) (hy:aP env y=.str b):Gv P env O (Oper.mk (some d) (.binOp .eql t x y u) ty pos af none) (.bool (decide (a=b))):=Gv.ofEv fun I ρ h=>⟨_,rfl,fun _=>Run.eqlT (Fc h hx) (Fc h hy)⟩
theorem Gv.neqT {a b:ByteArray} (hx:aP env x=.str a) (hy:aP env y=.str b):Gv P env O (Oper.mk (some d) (.binOp .neq t x y u) ty pos af none) (.bool (!decide (a=b))):=Gv.ofEv fun I ρ h=>⟨_,rfl,fun _=>Run.neqT (Fc h hx) (Fc h hy)⟩
theorem Gv.eqlB {a b:Bool} (ht:P.underlying t=some .bool) (hx:aP env x=.bool a) (hy:aP env y=.bool b):Gv P env O (Oper.mk (some d) (.binOp .eql t x y u) ty pos af none) (.bool (a == b)):=Gv.ofEv fun I ρ h=>⟨_,rfl,fun _=>Run.eqlB ht (Fb h hx) (Fb h hy)⟩
theorem Gv.neqB {a b:Bool} (ht:P.underlying t=some .bool) (hx:aP env x=.bool a) (hy:aP env y=.bool b):Gv P env O (Oper.mk (some d) (.binOp .neq t x y u) ty pos af none) (.bool (!(a == b))):=Gv.ofEv fun I ρ h=>⟨_,rfl,fun _=>Run.neqB ht (Fb h hx) (Fb h hy)⟩
theorem Gv.extract {vs:List AV} {i:Nat} {v:AV} (hx:aP env x=.tup vs) (hv:vs[i]?=some v):Gv P env O (Oper.mk (some d) (.extract x i) ty pos af none) v:=Gv.ofEv fun I ρ h=>by
 have:=h.ev x
 rw[hx] at this
 obtain ⟨us,e,hr⟩:=this
 obtain ⟨u,hu,hru⟩:=hr.get hv
 exact ⟨u,hru,fun _=>Run.extract e (by simpa using hu)⟩
theorem Gv.nilCheckF {cs:List AV} (hx:aP env x=.pf cs):Gv P env O (Oper.mk (some d) (.nilCheck x) ty pos af none) (.pf cs):=Gv.ofEv fun I ρ h=>by
 have h2:=h.ev x
 rw[hx] at h2
 obtain ⟨b,off,vs,e,h3⟩:=id h2
 rw[e] at h2
 exact ⟨_,h2,fun _=>Run.nilCheck e⟩
theorem Gv.nilCheckO {i off:Nat} (hx:aP env x=.po i off):Gv P env O (Oper.mk (some d) (.nilCheck x) ty pos af none) (.po i off):=Gv.ofEv fun I ρ h=>by
 have h2:=h.ev x
 rw[hx] at h2
 obtain ⟨b,c,e1,e⟩:=id h2
 rw[e] at h2
 exact ⟨_,h2,fun _=>Run.nilCheck e⟩
theorem Gv.lenF {k:Nat} {rows:List (List AV)} (ht:P.underlying t=some (.slice e)) (hx:aP env x=.fro k rows):Gv P env O (Oper.mk (some d) (.call { callee:=.builtin .len,args:=#[x],argTypes:=#[t] }) ty pos af none) (.int .i64 rows.length):=Gv.ofEv fun I ρ h=>by
 have h2:=h.ev x
 rw[hx] at h2
 obtain ⟨a,n,c,e,rfl,_⟩:=h2
 exact ⟨_,rfl,fun _=>Run.lenS ht e⟩
theorem Gv.lenM {α:Type} {enc:α→List AV} {xs:List α} {k:Nat} (ht:P.underlying t=some (.slice e)) (hx:aP env x=.fro k (xs.map enc)):Gv P env O (Oper.mk (some d) (.call { callee:=.builtin .len,args:=#[x],argTypes:=#[t] }) ty pos af none) (.int .i64 xs.length):=by
 have:=Gv.lenF (d:=d) (ty:=ty) (pos:=pos) (af:=af) (O:=O) ht hx
 rwa [List.length_map] at this
theorem Gv.lenO {i n:Nat} (ht:P.underlying t=some (.slice e)) (hx:aP env x=.own i n):Gv P env O (Oper.mk (some d) (.call { callee:=.builtin .len,args:=#[x],argTypes:=#[t] }) ty pos af none) (.int .i64 n):=Gv.ofEv fun I ρ h=>by
 have h2:=h.ev x
 rw[hx] at h2
 obtain ⟨b,c,_,e⟩:=h2
 exact ⟨_,rfl,fun _=>Run.lenS ht e⟩
theorem Gv.load1F {c:AV} {cs:List AV} (ha:∀w,(isAgg t).run P w=.ok false w) (hx:aP env x=.pf (c::cs)):Gv P env O (Oper.mk (some d) (.load t x) ty pos af none) c:=fun I L E ρ h1 _=>by
 have h2:=h1.ev x
 rw[hx] at h2
 obtain ⟨b,off,vs,e,⟨v,us,e2,h3,h4⟩,h5⟩:=h2
 subst e2
 exact ⟨v,h3,fun w J L' hl hS _=>Run.load1 ha hS e ((h5 0 v rfl).mono hl |>.at_ _)⟩
theorem Gv.loadAF {n:Nat} {cs l:List AV} (ha:∀w,(isAgg t).run P w=.ok true w) (hs:∀w,(sizeOf t).run P w=.ok n w) (hx:aP env x=.pf cs) (hn:Nat.ble n cs.length=true) (hl:cs.take n=l):Gv P env O (Oper.mk (some d) (.load t x) ty pos af none) (.agg l):=fun I L E ρ h1 _=>by
 have h2:=h1.ev x
 rw[hx] at h2
 obtain ⟨b,off,vs,e,h3,h5⟩:=h2
 refine ⟨.agg (vs.take n).toArray,⟨_,rfl,hl▸h3.take n⟩,fun w J L' hk hS _=>Run.loadA ha ?_ hS e ?_⟩
 ·have hn:=Nat.le_of_ble_eq_true hn
  have:=h3.length
  rw[List.length_take,Nat.min_eq_left (by omega)];exact hs
 ·intro j v hj
  rw[List.getElem?_take] at hj
  split at hj
  ·exact ((h5 j v hj).mono hk).at_ _
  ·cases hj
theorem Gv.loadWF {n:Nat} {cs:List AV} (ha:∀w,(isAgg t).run P w=.ok true w) (hs:∀w,(sizeOf t).run P w=.ok n w) (hx:aP env x=.pf cs) (hn:cs.length=n):Gv P env O (Oper.mk (some d) (.load t x) ty pos af none) (.agg cs):=
 Gv.loadAF ha hs hx (by rw[hn];simp) (by rw[←hn];simp)
theorem Gv.fieldF {fs:Array Field} {f:Field} {i sz:Nat} {cs cs':List AV} (ht:P.underlying t=some (.struct fs)) (hf:fs[i]?=some f) (hs:∀w,(sizeOf f.type).run P w=.ok sz w) (hz:sz≠0)
  (hx:aP env x=.pf cs) (hr:cs.drop f.offset=cs'):Gv P env O (Oper.mk (some d) (.fieldAddr t x i) ty pos af none) (.pf cs'):=fun I L E ρ h1 _=>by
 have h2:=h1.ev x
 rw[hx] at h2
 obtain ⟨b,off,vs,e,h3,h5⟩:=h2
 refine ⟨.pointer (some ⟨b,off+f.offset,none⟩),⟨b,_,vs.drop f.offset,rfl,hr▸h3.drop _,fun j u hj=>?_⟩,fun w J L' _ _ _=>Run.field ht hf hs hz e rfl⟩
 rw[List.getElem?_drop] at hj
 have:=h5 _ _ hj
 rwa [←Nat.add_assoc] at this
theorem Gv.fieldO {fs:Array Field} {f:Field} {i id off r sz:Nat} (ht:P.underlying t=some (.struct fs)) (hf:fs[i]?=some f) (hs:∀w,(sizeOf f.type).run P w=.ok sz w) (hz:sz≠0)
  (hx:aP env x=.po id off) (hr:off+f.offset=r):Gv P env O (Oper.mk (some d) (.fieldAddr t x i) ty pos af none) (.po id r):=fun I L E ρ h1 _=>by
 have h2:=h1.ev x
 rw[hx] at h2
 obtain ⟨b,c,e1,e⟩:=h2
 exact ⟨_,⟨b,c,e1,rfl⟩,fun w J L' _ _ _=>Run.field ht hf hs hz e hr⟩
theorem Gv.idxF {k j:Nat} {i:Int} {rows:List (List AV)} {r:List AV} (ht:P.underlying t=some (.slice e)) (hs:∀w,(sizeOf e).run P w=.ok k w) (hx:aP env x=.fro k rows) (hy:aP env y=.int .i64 i) (hi:i=(j:Int)) (hj:rows[j]?=some r) :
  Gv P env O (Oper.mk (some d) (.indexAddr t x y) ty pos af none) (.pf r):=fun I L E ρ h1 _=>by
 have h2:=h1.ev x
 rw[hx] at h2
 obtain ⟨a,n,c,ex,hn,_,_,h3⟩:=h2
 obtain ⟨b,off,vs,rfl,h4,h5,h6⟩:=h3.get hj
 have hlt:j<n:=by rw[hn];exact (List.getElem?_eq_some_iff.1 hj).1
 refine ⟨.pointer (some ⟨b,off+j*k,none⟩),⟨b,_,vs,rfl,h5,fun i u hu=>?_⟩,fun w J L' _ _ _=>Run.idx ht hs ex (fz h1 hy) hi hlt⟩
 have:=h6 i u hu
 rwa [Nat.zero_add] at this
theorem Gv.idxM {α:Type} {enc:α→List AV} {xs:List α} {k j:Nat} {i:Int} {v:α} (ht:P.underlying t=some (.slice e)) (hs:∀w,(sizeOf e).run P w=.ok k w) (hx:aP env x=.fro k (xs.map enc)) (hy:aP env y=.int .i64 i) (hi:i=(j:Int)) (hj:xs[j]?=some v) :
  Gv P env O (Oper.mk (some d) (.indexAddr t x y) ty pos af none) (.pf (enc v)):=Gv.idxF ht hs hx hy hi (by rw[List.getElem?_map,hj];rfl)
end
def o6 (O:OL) (i:Nat) (o:bm):Prop:=∃O',cz O i o O'
theorem o6.cells {I:G} {O:OL} {L:List (Nat × Obj)} {i:Nat} {T:TypeId} {cs:List AV} (h:o6 O i (.cells T cs)) (hL:bH I O L):∃b c vs,I.h i=some (some b,c)∧RepL I cs vs∧(b,Obj.cells vs.toArray T (0,0))∈L:=by
 obtain ⟨O',h⟩:=h
 obtain ⟨A,B,hp,h1,_⟩:=h.rep hL
 obtain ⟨b,c,vs,h2,h3,_,rfl⟩:=h1
 exact ⟨b,c,vs,h2,h3,hp.mem_iff.2 (by simp)⟩
theorem o6.grow {I:G} {O:OL} {L:List (Nat × Obj)} {i k:Nat} {T:TypeId} {cs:List AV} (h:o6 O i (.grow k T cs)) (hL:bH I O L) (hne:cs≠[]):∃b c vs junk,I.h i=some (some b,c)∧RepL I cs vs∧(b,Obj.cells (vs++junk).toArray T (0,0))∈L:=by
 obtain ⟨O',h⟩:=h
 obtain ⟨A,B,hp,h1,_⟩:=h.rep hL
 obtain ⟨b,c,n,vs,h2,h3,_,h4,h5,h6⟩:=h1
 rcases h6 with ⟨_,h6,_⟩|⟨b',junk,e,e2,h6⟩
 ·have:=h3.length
  have:n=0:=by omega
  subst this
  simp at h4
  subst h4
  simp at this
  exact absurd this.symm (by simpa using hne)
 ·cases b with
  |none=>simp[adr] at e
  |some b=>
   simp[adr] at e
   subst e e2
   exact ⟨b,c,vs,junk,h2,h3,hp.mem_iff.2 (by simp)⟩
section
variable {E:World} {P:Program} {env:aH} {O:OL} {d ty:Nat} {pos:String} {af:Array Edge} {x y z:Operand} {t u e:TypeId}
theorem Gv.load1C {i off:Nat} {T:TypeId} {c:AV} {cs tl:List AV} (ha:∀w,(isAgg t).run P w=.ok false w) (hx:aP env x=.po i off) (hO:o6 O i (.cells T cs)) (hv:cs.drop off=c::tl):Gv P env O (Oper.mk (some d) (.load t x) ty pos af none) c:=fun I L E ρ h1 hL=>by
 have h2:=h1.ev x
 rw[hx] at h2
 obtain ⟨b,k,e1,e⟩:=h2
 obtain ⟨b',k',vs,e2,h3,hm⟩:=hO.cells hL
 rw[e1] at e2;cases e2
 have h4:=h3.drop off
 rw[hv] at h4
 obtain ⟨v,us,e5,h6,h7⟩:=h4
 exact ⟨v,h6,fun w J L' hl hS hsub=>Run.load1 ha hS e (.inr ⟨_,_,_,hsub _ hm,by rw[List.getElem?_toArray];exact sj e5⟩)⟩
theorem Gv.loadAC {i off n:Nat} {T:TypeId} {cs l:List AV} (ha:∀w,(isAgg t).run P w=.ok true w) (hs:∀w,(sizeOf t).run P w=.ok n w) (hx:aP env x=.po i off) (hO:o6 O i (.cells T cs)) (hn:Nat.ble (off+n) cs.length=true) (hl:(cs.drop off).take n=l) :
  Gv P env O (Oper.mk (some d) (.load t x) ty pos af none) (.agg l):=fun I L E ρ h1 hL=>by
 have h2:=h1.ev x
 rw[hx] at h2
 obtain ⟨b,k,e1,e⟩:=h2
 obtain ⟨b',k',vs,e2,h3,hm⟩:=hO.cells hL
 rw[e1] at e2;cases e2
 refine ⟨.agg ((vs.drop off).take n).toArray,⟨_,rfl,hl▸(h3.drop off).take n⟩,fun w J L' hk hS hsub=>Run.loadA ha ?_ hS e ?_⟩
 ·have hn:=Nat.le_of_ble_eq_true hn
  have:=h3.length
  rw[List.length_take,List.length_drop,Nat.min_eq_left (by omega)];exact hs
 ·intro j v hj
  rw[List.getElem?_take] at hj
  split at hj
  ·rw[List.getElem?_drop] at hj
   exact .inr ⟨_,_,_,hsub _ hm,by rw[List.getElem?_toArray];exact hj⟩
  ·cases hj
theorem Gv.loadWC {i n:Nat} {T:TypeId} {cs:List AV} (ha:∀w,(isAgg t).run P w=.ok true w) (hs:∀w,(sizeOf t).run P w=.ok n w) (hx:aP env x=.po i 0) (hO:o6 O i (.cells T cs)) (hn:cs.length=n):Gv P env O (Oper.mk (some d) (.load t x) ty pos af none) (.agg cs):=
 Gv.loadAC ha hs hx hO (by rw[hn];simp) (by rw[←hn];simp)
theorem Gv.load1G {i off k:Nat} {T:TypeId} {c:AV} {cs tl:List AV} (ha:∀w,(isAgg t).run P w=.ok false w) (hx:aP env x=.po i off) (hO:o6 O i (.grow k T cs)) (hv:cs.drop off=c::tl):Gv P env O (Oper.mk (some d) (.load t x) ty pos af none) c:=fun I L E ρ h1 hL=>by
 have h2:=h1.ev x
 rw[hx] at h2
 obtain ⟨b,k,e1,e⟩:=h2
 obtain ⟨b',k',vs,junk,e2,h3,hm⟩:=hO.grow hL (by intro h;subst h;simp at hv)
 rw[e1] at e2;cases e2
 have h4:=h3.drop off
 rw[hv] at h4
 obtain ⟨v,us,e5,h6,h7⟩:=h4
 exact ⟨v,h6,fun w J L' hl hS hsub=>Run.load1 ha hS e (.inr ⟨_,_,_,hsub _ hm,by
  have:=sj e5
  rw[List.getElem?_toArray,List.getElem?_append_left (List.getElem?_eq_some_iff.1 this).1];exact this⟩)⟩
theorem Gv.loadAG {i off n k:Nat} {T:TypeId} {cs l:List AV} (ha:∀w,(isAgg t).run P w=.ok true w) (hs:∀w,(sizeOf t).run P w=.ok n w) (hx:aP env x=.po i off) (hO:o6 O i (.grow k T cs)) (hne:cs≠[]) (hn:off+n≤cs.length) (hl:(cs.drop off).take n=l) :
  Gv P env O (Oper.mk (some d) (.load t x) ty pos af none) (.agg l):=fun I L E ρ h1 hL=>by
 have h2:=h1.ev x
 rw[hx] at h2
 obtain ⟨b,k,e1,e⟩:=h2
 obtain ⟨b',k',vs,junk,e2,h3,hm⟩:=hO.grow hL hne
 rw[e1] at e2;cases e2
 refine ⟨.agg ((vs.drop off).take n).toArray,⟨_,rfl,hl▸(h3.drop off).take n⟩,fun w J L' hk hS hsub=>Run.loadA ha ?_ hS e ?_⟩
 ·have:=h3.length
  rw[List.length_take,List.length_drop,Nat.min_eq_left (by omega)];exact hs
 ·intro j v hj
  rw[List.getElem?_take] at hj
  split at hj
  ·rw[List.getElem?_drop] at hj
   exact .inr ⟨_,_,_,hsub _ hm,by rw[List.getElem?_toArray,List.getElem?_append_left (List.getElem?_eq_some_iff.1 hj).1];exact hj⟩
  ·cases hj
theorem Gv.idxO {i n k j:Nat} {a:Int} {T:TypeId} {cs:List AV} (ht:P.underlying t=some (.slice e)) (hs:∀w,(sizeOf e).run P w=.ok k w) (hx:aP env x=.own i n) (hy:aP env y=.int .i64 a) (hi:a=(j:Int)) (hO:o6 O i (.grow k T cs)) (hne:cs≠[]) (hj:j<n) :
  Gv P env O (Oper.mk (some d) (.indexAddr t x y) ty pos af none) (.po i (j*k)):=fun I L E ρ h1 hL=>by
 have h2:=h1.ev x
 rw[hx] at h2
 obtain ⟨b,c,e1,e⟩:=h2
 obtain ⟨b',k',vs,junk,e2,_⟩:=hO.grow hL hne
 rw[e1] at e2;cases e2
 refine ⟨.pointer (some ⟨b',0+j*k,none⟩),⟨b',_,e1,by rw[Nat.zero_add]⟩,fun w J L' _ _ _=>Run.idx ht hs e (fz h1 hy) hi hj⟩
end
end
section
def lit:Value→AV
 |.bool b=>.bool b
 |.int k n=>.int k n
 |.string s=>.str s
 |v=>.raw v
theorem vR (I:G) (v:Value):br I (lit v) v:=by cases v<;>exact rfl
theorem dA (I:G):∀l:List Value,RepL I (l.map lit) l
 |[]=>rfl
 |v::l=>⟨v,l,rfl,vR I v,dA I l⟩
def AV.cs:AV→List AV
 |.agg cs=>cs
 |x=>[x]
def AV.sto:AV→Bool
 |.any | .tup _=>false
 |.raw v=>v.oneCell'
 |_=>true
theorem AV.cs_rep {I:G} {x:AV} {v:Value} (h:br I x v) (hs:x.sto=true):RepL I x.cs v.cells.toList:=by
 cases x
 case agg cs=>obtain ⟨vs,e,h2⟩:=h;subst e;simpa [AV.cs,Value.cells] using h2
 case any=>cases hs
 case tup=>cases hs
 all_goals
  have hc:v.cells=#[v]:=by
   have:=AV.cell_rep h (by first|rfl|exact hs)
   cases v<;>first|rfl|(simp[Value.oneCell'] at this)
  rw[hc]
  exact RepL.one h
theorem fI.name {I:G} {O:OL} {F:List (Nat × Obj)} {E w:World} (h:fI I O F E w):∃i,∀hd:Option Nat × Nat,∃J:G,J.k=I.k∧I.le J∧J.h i=some hd∧∃top,∀i,top≤i→J.h i=none:=by
 obtain ⟨⟨top,ht⟩,_⟩:=h
 refine ⟨top,fun hd=>⟨⟨I.k,fun j=>if j=top then some hd else I.h j⟩,rfl,⟨.refl _,fun i x hi=>?_⟩,by simp,top+1,fun i hi=>?_⟩⟩
 ·have:i≠top:=fun e=>by rw[e,ht top (Nat.le_refl _)] at hi;cases hi
  simp[this,hi]
 ·simp only
  rw[if_neg (by omega)];exact ht i (by omega)
theorem bH.perm {I:G} {O O':OL} (h:O.Perm O'):∀{L},bH I O L→∃L',bH I O' L'∧L.Perm L':=by
 induction h with
 |nil=>intro L h;exact ⟨L,h,.refl _⟩
 |cons x _ ih=>rintro L ⟨A,B,e,h1,h2⟩;obtain ⟨B',h3,h4⟩:=ih h2;exact ⟨A++B',⟨A,B',rfl,h1,h3⟩,e▸h4.append_left A⟩
 |swap x y l=>
  rintro L ⟨A,B,e,h1,C,D,e2,h2,h3⟩
  refine ⟨C++(A++D),⟨C,A++D,rfl,h2,A,D,rfl,h1,h3⟩,?_⟩
  subst e e2
  rw[←List.append_assoc,←List.append_assoc]
  exact List.perm_append_comm.append_right D
 |trans _ _ ih1 ih2=>intro L h;obtain ⟨L1,h1,h2⟩:=ih1 h;obtain ⟨L2,h3,h4⟩:=ih2 h1;exact ⟨L2,h3,h2.trans h4⟩
def aU (P:Program) (E:World) (f:FuncId) (args:List AV) (O:OL) (R:AV→OL→Prop):Prop:=
 ∀I F w vs,RepL I args vs→fI I O F E w→Fn P f vs.toArray w fun v w'=>∃J x O',I.le J∧br J x v∧fI J O' F E w'∧R x O'
def aF (P:Program) (E:World) (f:FuncId) (args:List AV) (r:AV):Prop:=aU P E f args [] fun x _=>x=r
theorem aU.mono {E:World} {P:Program} {f:FuncId} {args:List AV} {O:OL} {R R':AV→OL→Prop} (h:aU P E f args O R) (hr:∀x O,R x O→R' x O):aU P E f args O R':=fun I F w vs h1 h2=>
 (h I F w vs h1 h2).mono fun _ _ ⟨J,x,O',a,b,c,d⟩=>⟨J,x,O',a,b,c,hr _ _ d⟩
def H3 (E:World) (rs:Array ResultVar) (env:aH) (O:OL) (P:Program) (x:AV):Prop:=
 ∀I F ρ w,dx I env ρ→fI I O F E w→∃v,nc rs ρ P w=.ok v w∧br I x v
def dB (P:Program) (E:World) (rs:Array ResultVar) (R:AV→OL→Prop):Exit→aH→OL→Prop:=fun e env O=>
 match e with
 |.normal | .ret=>∀I F ρ w,dx I env ρ→fI I O F E w→∃v,nc rs ρ P w=.ok v w∧∃J x O',I.le J∧br J x v∧fI J O' F E w∧R x O'
 |_=>False
def AH (args:List AV):aH:=fun t=>(args[t]?).getD (.raw undef)
theorem xV {I:G} {args:List AV} {vs:List Value} (h:RepL I args vs):dx I (AH args) (uu vs.toArray):=fun t=>by
 unfold AH uu
 cases ha:args[t]? with
 |none=>
  have:vs[t]?=none:=by
   rw[List.getElem?_eq_none_iff] at ha ⊢
   rw[h.length];exact ha
  simp[Array.getD_eq_getD_getElem?,this,br]
 |some x=>
  obtain ⟨v,hv,hr⟩:=h.get ha
  simp[Array.getD_eq_getD_getElem?,hv,hr]
theorem aU.intro {E:World} {P:Program} {f:FuncId} {fn:Func} {c:Code} {args:List AV} {O:OL} {R:AV→OL→Prop} (hf:P.funcs[f]?=some fn) (hb:fn.body=some c)
  (hn:fn.name≠"runtime.NumGoroutine") (hs:Nat.ble args.length fn.ntmps=true) (h:cO P E fn.ntmps c (dB P E fn.results R) (AH args) O):aU P E f args O R:=fun I F w vs h1 h2=>
 Fn.intro hf hb hn (by rw[List.size_toArray,h1.length];exact hs) ((h I F _ w (xV h1) h2).mono fun e ρ w ⟨J,env,O,a,b,c,d⟩=>by
  cases e<;>first|exact d.elim|(obtain ⟨v,h3,K,x,O',h4,h5,h6,h7⟩:=d J F ρ w b c;exact ⟨v,h3,K,x,O',a.trans h4,h5,h6,h7⟩))
section
variable {E:World} {P:Program} {env:aH} {O:OL} {R:AV→OL→Prop}
theorem dB.of {rs:Array ResultVar} {x:AV} (h:H3 E rs env O P x) (hr:R x O):dB P E rs R .ret env O:=fun I F ρ w h1 h2=>by
 obtain ⟨v,h3,h4⟩:=h I F ρ w h1 h2
 exact ⟨v,h3,I,x,O,.refl _,h4,h2,hr⟩
theorem dB.t1 {t:Nat} {x:AV} (hv:env t=x) (h:R x O):dB P E #[.tmp t] R .ret env O:=dB.of (fun I F ρ w h1 _=>⟨_,by simp[nc],hv▸h1 t⟩) h
theorem dB.t0 (h:R (.tup []) O):dB P E #[] R .ret env O:=dB.of (x:=.tup []) (fun I F ρ w h1 _=>⟨.tuple #[],by simp[nc],⟨[],rfl,rfl⟩⟩) h
theorem dB.t2 {t u:Nat} {x y:AV} (hv:env t=x) (hu:env u=y) (h:R (.tup [x,y]) O):dB P E #[.tmp t,.tmp u] R .ret env O:=
 dB.of (x:=.tup [x,y]) (fun I F ρ w h1 _=>⟨.tuple #[ρ t,ρ u],by simp[nc],⟨[ρ t,ρ u],rfl,⟨_,_,rfl,hv▸h1 t,⟨_,_,rfl,hu▸h1 u,rfl⟩⟩⟩⟩) h
theorem dB.c1 {t T i:Nat} {T':TypeId} {cs:List AV} {n:Nat} (hv:env t=.po i 0) (hO:o6 O i (.cells T' cs)) (ha:∀w,(isAgg T).run P w=.ok true w) (hs:∀w,(sizeOf T).run P w=.ok n w) (hn:cs.length=n) (h:R (.agg cs) O) :
  dB P E #[.cell t T] R .ret env O:=dB.of (fun I F ρ w h1 h2=>by
 obtain ⟨L,hL,hS⟩:=h2.2
 have h3:=h1 t
 rw[hv] at h3
 obtain ⟨b,c,e1,e⟩:=h3
 obtain ⟨b',c',vs,e2,h4,hm⟩:=hO.cells hL
 rw[e1] at e2;cases e2
 have hl:=ig (P:=P) (w:=w) (b:=b) (off:=0) ha (cs:=vs) (by rw[h4.length,hn];exact hs) (fun j v hj=>by
  rw[Nat.zero_add]
  exact hS.at_ (.inr ⟨_,_,_,List.mem_append_left _ hm,by rw[List.getElem?_toArray];exact hj⟩))
 exact ⟨.agg vs.toArray,by simp[nc,e,asAddr,hl],⟨vs,rfl,h4⟩⟩) h
end
section
variable {E:World} {P:Program} {ops:Array Oper} {K:aH→OL→Prop} {env:aH} {O O':OL} {rest:List Oper}
variable {d ty:Nat} {pos:String} {af:Array Edge} {x y z:Operand} {t u e:TypeId}
theorem ai.boxF {v:AV} {cs:List AV} (hx:aP env x=v) (hv:v.sto=true) (hc:v.cs=cs) (k:ai P E ops K rest (bp env d (.pf cs)) O):ai P E ops K (Oper.mk (some d) (.box t x) ty pos af none::rest) env O:=fun I F ρ w h1 h2=>by
 obtain ⟨ht,L,hL,hS⟩:=h2
 refine bx.boxP hS rfl fun b w' J hl hb hS'=>?_
 have h3:=h1.ev x
 rw[hx] at h3
 have h4:=AV.cs_rep h3 hv
 rw[hc] at h4
 let I':G:=⟨J,I.h⟩
 have hle:I.le I':=⟨hl,fun _ _ h=>h⟩
 refine yt (fun _ _=>eS.up hle) _ _ _ (k I' F _ w' ((h1.mono hle).upd d ⟨b,0,_,rfl,RepL.mono hle _ _ h4,fun j u hj=>⟨_,_,_,hb,?_⟩⟩) ⟨ht,L,hL.mono hle,hS'⟩)
 rw[Nat.zero_add];simpa using hj
theorem AJ {I:G} {F:List (Nat × Obj)} {E w w':World} {L:List (Nat × Obj)} {b:Nat} {T:TypeId} {cs:List AV} {vs:List Value} (h2:fI I O F E w) (hL:bH I O L) (hr:RepL I cs vs) (h1c:∀u∈vs,u.oneCell'=true)
  (hS:SL I.k ((b,.cells vs.toArray T (0,0))::(L++F)) E w'):∃i J,I.le J∧J.h i=some (some b,0)∧fI J ((i,.cells T cs)::O) F E w':=by
 obtain ⟨i,hi⟩:=h2.name
 obtain ⟨J,e1,hle,e2,htop⟩:=hi (some b,0)
 exact ⟨i,J,hle,e2,htop,_,⟨_,L,rfl,⟨b,0,vs,e2,RepL.mono hle _ _ hr,h1c,rfl⟩,hL.mono hle⟩,by rw[e1];exact hS⟩
theorem RepL.cell1 {I:G} {cs:List AV} {vs:List Value} (h4:RepL I cs vs) (hc1:cs.all AV.cell=true):∀u∈vs,u.oneCell'=true:=by
 intro u hu
 obtain ⟨j,hj⟩:=List.mem_iff_getElem?.1 hu
 have hlen:=h4.length
 have hjl:=(List.getElem?_eq_some_iff.1 hj).1
 have hx:cs[j]?=some cs[j]:=List.getElem?_eq_getElem (by omega)
 obtain ⟨v',hv',hr'⟩:=h4.get hx
 rw[hj] at hv';cases hv'
 exact AV.cell_rep hr' (List.all_eq_true.1 hc1 _ (List.getElem_mem _))
theorem ai.boxO {v:AV} {cs:List AV} (hx:aP env x=v) (hv:v.sto=true) (hc:v.cs=cs) (hc1:cs.all AV.cell=true) (k:∀i,ai P E ops K rest (bp env d (.po i 0)) ((i,.cells t cs)::O)) :
  ai P E ops K (Oper.mk (some d) (.box t x) ty pos af none::rest) env O:=fun I F ρ w h1 h2=>by
 obtain ⟨L,hL,hS⟩:=h2.2
 refine bx.boxO hS rfl fun b w' hS'=>?_
 have h3:=h1.ev x
 rw[hx] at h3
 have h4:=AV.cs_rep h3 hv
 rw[hc] at h4
 obtain ⟨i,J,hle,e2,h5⟩:=AJ (O:=O) (w':=w') (b:=b) (T:=t) h2 hL h4 (h4.cell1 hc1) (by simpa using hS')
 exact yt (fun _ _=>eS.up hle) _ _ _ (k i J F _ w' ((h1.mono hle).upd d ⟨b,0,e2,rfl⟩) h5)
theorem ai.alloc {zv:Value} {cs:List AV} (hz:∀w,(zeroValue t).run P w=.ok zv w) (hc:zv.cells.toList.map lit=cs) (h1c:zv.cells.toList.all Value.oneCell'=true) (k:∀i,ai P E ops K rest (bp env d (.po i 0)) ((i,.cells t cs)::O)) :
  ai P E ops K (Oper.mk (some d) (.alloc t) ty pos af none::rest) env O:=fun I F ρ w h1 h2=>by
 obtain ⟨L,hL,hS⟩:=h2.2
 refine bx.alloc hz hS fun b w' hS'=>?_
 obtain ⟨i,J,hle,e2,h5⟩:=AJ (O:=O) (w':=w') (b:=b) (T:=t) h2 hL (hc▸dA I zv.cells.toList) (List.all_eq_true.1 h1c) (by simpa using hS')
 exact yt (fun _ _=>eS.up hle) _ _ _ (k i J F _ w' ((h1.mono hle).upd d ⟨b,0,e2,rfl⟩) h5)
theorem iO {b off n:Nat} {vs:List Value} {T:TypeId} {v:Value} {old:List Value} {w:World} (hs:∀w,(sizeOf t).run P w=.ok n w) (hvc:v.cells=vs.toArray) (hn:vs.length=n) (h1c:∀u∈vs,u.oneCell'=true) (hb:off+n≤old.length)
  (hown:w.heap[b]?=some (.cells old.toArray T (0,0))):(Instr.storeAt t (.pointer (some ⟨b,off,none⟩)) v).run P w=.ok () (w.setRow b (old.take off++vs++old.drop (off+n)).toArray):=by
 have hst:(storeCells (⟨b,off,none⟩:Addr) vs 0).run P w=.ok () (w.setRow b (old.take off++vs++old.drop (off+n)).toArray):=by
  rw[run_storeCells_at (P:=P) b off T vs 0 old.toArray w hown (by simp;omega) h1c]
  simp[hn]
 have hvs:v.cells.size=n:=by rw[hvc];simpa using hn
 simp[Instr.storeAt,Instr.sureAddr,storeVar,hs,hvc,hn,hst]
theorem SL.turn1 {I:aC} {L:List (Nat × Obj)} {E w:World} {b:Nat} {old new:List Value} {T:TypeId} (h:SL I ((b,.cells old.toArray T (0,0))::L) E w):SL I ((b,.cells new.toArray T (0,0))::L) E (w.setRow b new.toArray):=by
 have hown:=h.own _ (.head _)
 simp only at hown
 refine h.turn rfl rfl rfl ?_ ?_
 ·simp[World.setRow,Array.getElem?_modify,hown]
 ·intro k hk
  simp only[World.setRow,Array.getElem?_modify]
  rw[if_neg (by omega)]
theorem ai.storeC {i off n:Nat} {T:TypeId} {v:AV} {cs l new:List AV} (hs:∀w,(sizeOf t).run P w=.ok n w) (hx:aP env x=.po i off) (hy:aP env y=v) (hv:v.sto=true) (hl:v.cs=l) (hl1:l.all AV.cell=true) (hn:l.length=n)
  (hO:eR O i (.cells T cs) (.cells T new) O') (hb:Nat.ble (off+n) cs.length=true) (hnew:cs.take off++l++cs.drop (off+n)=new) (k:ai P E ops K rest env O'):ai P E ops K (Oper.mk none (.store t x y) ty pos af none::rest) env O:=fun I F ρ w h1 h2=>by
 obtain ⟨htop,L,hL,hS⟩:=h2
 have h3:=h1.ev x
 rw[hx] at h3
 obtain ⟨b,c,e1,e⟩:=h3
 have h4:=h1.ev y
 rw[hy] at h4
 have h5:=AV.cs_rep h4 hv
 rw[hl] at h5
 obtain ⟨A,B,hp,⟨b',c',vs,e2,h6,h6c,rfl⟩,hback⟩:=hO.rep hL
 rw[e1] at e2;cases e2
 have hS2:SL I.k ((b,.cells vs.toArray T (0,0))::(B++F)) E w:=hS.perm ((hp.append_right F).symm)
 have hb:=Nat.le_of_ble_eq_true hb
 have hrun:=iO (P:=P) (t:=t) (b:=b) (off:=off) (v:=ev ρ y) (vs:=(ev ρ y).cells.toList) (old:=vs) (w:=w) hs (by simp) (by rw[h5.length,hn]) (h5.cell1 hl1) (by rw[h6.length];exact hb) (hS2.own _ (.head _))
 refine qi rfl ?_
 unfold dQ
 have:(execOp (ev ρ) (Oper.mk none (.store t x y) ty pos af none)).run P w=.ok .skip (w.setRow b (vs.take off++(ev ρ y).cells.toList++vs.drop (off+n)).toArray):=by
  simp only[execOp,e]
  rw[Sem.run_bind,hrun];rfl
 rw[this]
 have hnr:RepL I new (vs.take off++(ev ρ y).cells.toList++vs.drop (off+n)):=hnew▸((h6.take off).append h5).append (h6.drop (off+n))
 obtain ⟨L',h7,h8⟩:=hback (G.le.refl I) (A':=[(b,.cells (vs.take off++(ev ρ y).cells.toList++vs.drop (off+n)).toArray T (0,0))]) ⟨b,c,_,e1,hnr,by
  intro u hu
  simp only[List.mem_append] at hu
  rcases hu with (hu|hu)|hu
  ·exact h6c u (List.mem_of_mem_take hu)
  ·exact h5.cell1 hl1 u hu
  ·exact h6c u (List.mem_of_mem_drop hu),rfl⟩
 exact k I F ρ _ h1 ⟨htop,L',h7,(hS2.turn1).perm (h8.append_right F)⟩
end
end
section
def ii (place:Nat→Option (Nat × Nat)):List AV→List (Nat × List AV)→Option (List AV)
 |cells,[]=>some cells
 |cells,(i,xs)::rest=>
  match place i with
  |none=>none
  |some (off,size)=>bif Nat.beq xs.length size&&Nat.ble (off+size) cells.length then ii place (cells.take off++(xs++cells.drop (off+size))) rest else none
theorem pw (off:Nat):∀(l:List Value) (k:Nat) (cs:Array Value),off+k+l.length≤cs.size→((l.zipIdx k).foldl (fun cs (x:Value × Nat)=>cs.setIfInBounds (off+x.2) x.1) cs).toList=cs.toList.take (off+k)++l++cs.toList.drop (off+k+l.length):=by
 intro l
 induction l with
 |nil=>intro k cs _;simp
 |cons c l ih=>
  intro k cs hk
  simp only[List.zipIdx_cons,List.foldl_cons]
  rw[ih (k+1) _ (by simp at hk ⊢;omega)]
  simp only[Array.toList_setIfInBounds,List.length_cons]
  have hk':off+k<cs.toList.length:=by simp at hk ⊢;omega
  rw[←Nat.add_assoc off k 1,List.take_succ_eq_append_getElem (by simpa using hk'),List.getElem_set_self,List.take_set_of_le (Nat.le_refl _)]
  rw[List.drop_set_of_lt (by omega:off+k<off+k+1+l.length)]
  simp only[List.append_assoc,List.singleton_append]
  have:off+k+1+l.length=off+k+(l.length+1):=by omega
  rw[this]
theorem kR {I:G} {place:Nat→Option (Nat × Nat)}:∀(l:List (Nat × Value)) (cps:List (Nat × List AV)) (cells:List AV) (vcells:Array Value) (rs:List AV),
  cps.map (·.1)=l.map (·.1)→(∀(j:Nat) p q,l[j]?=some p→cps[j]?=some q→RepL I q.2 p.2.cells.toList)→RepL I cells vcells.toList→ii place cells cps=some rs →
  ∃vc,Instr.fill place vcells l=some vc∧RepL I rs vc.toList
 |[],[],cells,vcells,rs,_,_,h,hf=>⟨vcells,rfl,by cases hf;exact h⟩
 |[],_::_,_,_,_,h,_,_,_=>by cases h
 |_::_,[],_,_,_,h,_,_,_=>by cases h
 |(i,v)::l,(i',xs)::cps,cells,vcells,rs,hk,hp,h,hf=>by
  simp only[List.map_cons,List.cons.injEq] at hk
  obtain ⟨rfl,hk⟩:=hk
  unfold ii at hf
  unfold Instr.fill
  cases hpl:place i' with
  |none=>rw[hpl] at hf;cases hf
  |some os=>
   obtain ⟨off,size⟩:=os
   rw[hpl] at hf
   simp only at hf ⊢
   have hx:=hp 0 _ _ rfl rfl
   simp only at hx
   have hxl:=hx.length
   have hcl:=h.length
   simp only[Array.length_toList] at hxl hcl
   cases hb:(Nat.beq xs.length size&&Nat.ble (off+size) cells.length) with
   |false=>rw[hb] at hf;cases hf
   |true=>
    rw[hb] at hf
    simp only[cond_true] at hf
    simp only[Bool.and_eq_true] at hb
    have e1:=Nat.eq_of_beq_eq_true hb.1
    have e2:=Nat.le_of_ble_eq_true hb.2
    rw[if_neg (show ¬((v.cells.size≠size||off+v.cells.size>vcells.size)=true) by simp;omega)]
    have hfold:=pw off v.cells.toList 0 vcells (by simp;omega)
    simp only[Nat.add_zero] at hfold
    have hfa:(v.cells.zipIdx.foldl (fun cs (x:Value × Nat)=>cs.setIfInBounds (off+x.2) x.1) vcells).toList=vcells.toList.take off++v.cells.toList++vcells.toList.drop (off+size):=by
     rw[←Array.foldl_toList]
     have:v.cells.zipIdx.toList=v.cells.toList.zipIdx 0:=by simp
     have hlen:v.cells.toList.length=size:=by rw[Array.length_toList];omega
     rw[this,hfold,hlen]
    refine kR l cps _ _ rs hk (fun j p q h1 h2=>hp (j+1) p q (by simpa using h1) (by simpa using h2)) ?_ hf
    rw[hfa,List.append_assoc]
    exact (h.take off).append (hx.append (h.drop _))
def eD (P:Program) (t:TypeId) (places:Array (Nat × Nat)) (zs:List AV):Prop:=
 ∃fs zv,P.underlying t=some (.struct fs)∧(∀w,(zeroValue t).run P w=.ok zv w)∧(∀w,(fs.mapM (m:=Sem) fun f=>do pure (f.offset,←sizeOf f.type)).run P w=.ok places w)∧zv.cells.toList.map lit=zs
def gM (P:Program) (t:TypeId) (k:Nat) (zs:List AV):Prop:=
 ∃n e zv,P.underlying t=some (.array n e)∧(∀w,(zeroValue t).run P w=.ok zv w)∧(∀w,(sizeOf e).run P w=.ok k w)∧zv.cells.toList.map lit=zs
section
variable {E:World} {P:Program} {ops:Array Oper} {K:aH→OL→Prop} {env:aH} {O O':OL} {rest:List Oper}
variable {d ty:Nat} {pos:String} {af:Array Edge} {x y z:Operand} {t u e:TypeId}
theorem ly {I:G} {ρ:bG} (h1:dx I env ρ) (l:List (Nat × Operand)) (hs:l.all (fun p=>(aP env p.2).sto)=true) (j:Nat) (p:Nat × Value) (q:Nat × List AV)
  (hp:(l.map fun p=>(p.1,ev ρ p.2))[j]?=some p) (hq:(l.map fun p=>(p.1,(aP env p.2).cs))[j]?=some q):RepL I q.2 p.2.cells.toList:=by
 rw[List.getElem?_map] at hp hq
 cases hl:l[j]? with
 |none=>rw[hl] at hp;cases hp
 |some o=>
  rw[hl] at hp hq
  cases hp;cases hq
  exact AV.cs_rep (h1.ev o.2) (List.all_eq_true.1 hs _ (List.mem_of_getElem? hl))
theorem Gv.build {places:Array (Nat × Nat)} {zs rs:List AV} {l:List (Nat × Operand)} {cps:List (Nat × List AV)} (hpl:eD P t places zs) (hs:l.all (fun p=>(aP env p.2).sto)=true) (hv:l.map (fun p=>(p.1,(aP env p.2).cs))=cps)
  (hf:ii (places[·]?) zs cps=some rs):Gv P env O (Oper.mk (some d) (.build t l.toArray) ty pos af none) (.agg rs):=Gv.ofEv fun I ρ h=>by
 obtain ⟨fs,zv,ht,hz,hp,hc⟩:=hpl
 obtain ⟨vc,h1,h2⟩:=kR (I:=I) (place:=(places[·]?)) (l.map fun p=>(p.1,ev ρ p.2)) cps zs zv.cells rs (by subst hv;simp) (fun j p q hj hq=>ly h l hs j p q hj (hv▸hq)) (hc▸dA I _) hf
 refine ⟨.agg vc,⟨vc.toList,by simp,h2⟩,fun w=>?_⟩
 have hrun:(Instr.build t (l.map fun p=>(p.1,ev ρ p.2)).toArray).run P w=.ok (.agg vc) w:=by
  unfold Instr.build
  simp only[Sem.run_bind,hz,Result.andThen_ok,run_underlying ht]
  rw[hp]
  simp only[Result.andThen_ok,h1]
  rfl
 simp only[execOp,List.map_toArray]
 rw[Sem.run_bind,hrun];rfl
theorem Gv.buildA {k:Nat} {zs rs:List AV} {l:List (Nat × Operand)} {cps:List (Nat × List AV)} (hpl:gM P t k zs) (hs:l.all (fun p=>(aP env p.2).sto)=true) (hv:l.map (fun p=>(p.1,(aP env p.2).cs))=cps)
  (hf:ii (fun i=>some (i*k,k)) zs cps=some rs):Gv P env O (Oper.mk (some d) (.build t l.toArray) ty pos af none) (.agg rs):=Gv.ofEv fun I ρ h=>by
 obtain ⟨n,e,zv,ht,hz,hp,hc⟩:=hpl
 obtain ⟨vc,h1,h2⟩:=kR (I:=I) (place:=fun i=>some (i*k,k)) (l.map fun p=>(p.1,ev ρ p.2)) cps zs zv.cells rs (by subst hv;simp) (fun j p q hj hq=>ly h l hs j p q hj (hv▸hq)) (hc▸dA I _) hf
 refine ⟨.agg vc,⟨vc.toList,by simp,h2⟩,fun w=>?_⟩
 have hrun:(Instr.build t (l.map fun p=>(p.1,ev ρ p.2)).toArray).run P w=.ok (.agg vc) w:=by
  unfold Instr.build
  simp only[Sem.run_bind,hz,Result.andThen_ok,run_underlying ht,hp,h1]
  rfl
 simp only[execOp,List.map_toArray]
 rw[Sem.run_bind,hrun];rfl
def dt (P:Program) (t e:TypeId) (n k:Nat) (zs:List AV):Prop:=
 ∃zv,P.underlying t=some (.slice e)∧(∀w,(sizeOf e).run P w=.ok k w)∧(∀w,(zeroValue e).run P w=.ok zv w)∧0<n*k∧n*k≤2 ^ 24∧((Array.range (n*k)).map (zv.cells[·% zv.cells.size]!)).toList.map lit=zs
theorem im {n k:Nat} {zs rs:List AV} {l:List (Nat × Operand)} {cps:List (Nat × List AV)} (hpl:dt P t e n k zs) (hs:l.all (fun p=>(aP env p.2).sto)=true) (hv:l.map (fun p=>(p.1,(aP env p.2).cs))=cps)
  (hf:ii (fun i=>some (i*k,k)) zs cps=some rs) {I:G} {ρ:bG} (h:dx I env ρ):∃vc:List Value,RepL I rs vc∧∀w,(execOp (ev ρ) (Oper.mk (some d) (.buildSlice t n l.toArray) ty pos af none)).run P w=.ok (.value (.slice (some ⟨w.heap.size,0,none⟩) n n)) (w.alloc (.cells vc.toArray e)):=by
 obtain ⟨zv,ht,hsz,hz,h0,h24,hc⟩:=hpl
 obtain ⟨vc,h1,h2⟩:=kR (I:=I) (place:=fun i=>some (i*k,k)) (l.map fun p=>(p.1,ev ρ p.2)) cps zs ((Array.range (n*k)).map (zv.cells[·% zv.cells.size]!)) rs (by subst hv;simp) (fun j p q hj hq=>ly h l hs j p q hj (hv▸hq)) (hc▸dA I _) hf
 refine ⟨vc.toList,h2,fun w=>?_⟩
 have hrun:(Instr.buildSlice t n (l.map fun p=>(p.1,ev ρ p.2)).toArray).run P w=.ok (.slice (some ⟨w.heap.size,0,none⟩) n n) (w.alloc (.cells vc e)):=by
  unfold Instr.buildSlice
  simp only[Sem.run_bind,Result.andThen_ok,run_underlying ht,hsz]
  rw[if_neg (by omega)]
  simp only[Sem.run_pure,Result.andThen_ok,if_neg (by omega:¬n*k=0),Sem.run_bind,hz,h1,newRow]
  simp
 simp only[execOp,List.map_toArray]
 rw[Sem.run_bind,hrun];simp
theorem RepR.of_flat {I:G} {k b:Nat} {c:Array Value} {T:TypeId} {f:Nat × Nat} (hb:I.k b=some (.cells c T f)):∀(rows:List (List AV)) (vs:List Value) (j:Nat),(∀r∈rows,r.length=k)→RepL I rows.flatten vs→(∀(i:Nat) u,vs[i]?=some u→c[j*k+i]?=some u)→RepR I k (some ⟨b,0,none⟩) j rows
 |[],_,_,_,_,_=>trivial
 |r::rows,vs,j,hk,h,hc=>by
  have hr:=hk r (by simp)
  have h1:=h.take r.length
  have h2:=h.drop r.length
  simp only[List.flatten_cons,List.take_left,List.drop_left] at h1 h2
  refine ⟨⟨b,0,vs.take r.length,rfl,?_,h1,fun i u hu=>⟨c,T,f,hb,?_⟩⟩,RepR.of_flat hb rows _ (j+1) (fun r hr=>hk r (by simp[hr])) h2 fun i u hu=>?_⟩
  ·rw[h1.length,hr]
  ·rw[List.getElem?_take] at hu
   split at hu
   ·rw[Nat.zero_add];exact hc i u hu
   ·cases hu
  ·rw[List.getElem?_drop,hr] at hu
   have:=hc _ u hu
   rw[Nat.add_mul,Nat.one_mul,Nat.add_assoc];exact this
theorem ai.buildSliceF {n k:Nat} {zs rs:List AV} {rows:List (List AV)} {l:List (Nat × Operand)} {cps:List (Nat × List AV)} (hpl:dt P t e n k zs) (hs:l.all (fun p=>(aP env p.2).sto)=true) (hv:l.map (fun p=>(p.1,(aP env p.2).cs))=cps)
  (hf:ii (fun i=>some (i*k,k)) zs cps=some rs) (hr:rows.flatten=rs) (hk:rows.all (fun r=>Nat.beq r.length k)=true) (hn:rows.length=n) (kk:ai P E ops K rest (bp env d (.fro k rows)) O) :
  ai P E ops K (Oper.mk (some d) (.buildSlice t n l.toArray) ty pos af none::rest) env O:=fun I F ρ w h1 h2=>by
 obtain ⟨htop,L,hL,hS⟩:=h2
 obtain ⟨vc,hrep,hrun⟩:=im (d:=d) (ty:=ty) (pos:=pos) (af:=af) hpl hs hv hf h1
 refine qi rfl ?_
 unfold dQ
 rw[hrun w]
 obtain ⟨hl,hS'⟩:=hS.alloc_pers (.cells vc.toArray e)
 let J:G:=⟨I.k.put w.heap.size (.cells vc.toArray e),I.h⟩
 have hle:I.le J:=⟨hl,fun _ _ h=>h⟩
 have hb:J.k w.heap.size=some (.cells vc.toArray e):=aC.put_same _ _ _
 refine yt (fun _ _=>eS.up hle) _ _ _ (kk J F _ _ ((h1.mono hle).upd d ⟨_,n,n,rfl,hn.symm,Nat.le_refl _,fun h=>by (cases h),?_⟩) ⟨htop,L,hL.mono hle,hS'⟩)
 exact RepR.of_flat hb rows vc 0 (fun r h=>Nat.eq_of_beq_eq_true (List.all_eq_true.1 hk r h)) (hr▸RepL.mono hle _ _ hrep) (fun i u hu=>by simpa using hu)
theorem ai.buildSliceO {n k:Nat} {zs rs:List AV} {l:List (Nat × Operand)} {cps:List (Nat × List AV)} (hpl:dt P t e n k zs) (hs:l.all (fun p=>(aP env p.2).sto)=true) (hv:l.map (fun p=>(p.1,(aP env p.2).cs))=cps)
  (hf:ii (fun i=>some (i*k,k)) zs cps=some rs) (hk:rs.length=n*k) (hc1:rs.all AV.cell=true) (kk:∀i,ai P E ops K rest (bp env d (.own i n)) ((i,.grow k e rs)::O)) :
  ai P E ops K (Oper.mk (some d) (.buildSlice t n l.toArray) ty pos af none::rest) env O:=fun I F ρ w h1 h2=>by
 obtain ⟨L,hL,hS⟩:=h2.2
 obtain ⟨vc,hrep,hrun⟩:=im (d:=d) (ty:=ty) (pos:=pos) (af:=af) hpl hs hv hf h1
 refine qi rfl ?_
 unfold dQ
 rw[hrun w]
 obtain ⟨i,hi⟩:=h2.name
 obtain ⟨J,e1,hle,e2,htop⟩:=hi (some w.heap.size,n)
 have hS':=hS.alloc (.cells vc.toArray e)
 refine yt (fun _ _=>eS.up hle) _ _ _ (kk i J F _ _ ((h1.mono hle).upd d ⟨_,n,e2,rfl⟩) ⟨htop,_,⟨[(w.heap.size,.cells vc.toArray e (0,0))],L,rfl,⟨_,n,n,vc,e2,RepL.mono hle _ _ hrep,hrep.cell1 hc1,dM.made (by rw[hrep.length,hk])⟩,hL.mono hle⟩,by rw[e1];exact hS'⟩)
theorem ai.buildSlice0 {i:TypeInfo} {k:Nat} (ht:P.underlying t=some (.slice e)) (hi:P.info? e=some i) (kk:∀j,ai P E ops K rest (bp env d (.own j 0)) ((j,.grow k e [])::O)) :
  ai P E ops K (Oper.mk (some d) (.buildSlice t 0 #[]) ty pos af none::rest) env O:=fun I F ρ w h1 h2=>by
 obtain ⟨L,hL,hS⟩:=h2.2
 obtain ⟨j,hj⟩:=h2.name
 refine bx.buildSlice0 ht hi hS fun b w' hS'=>?_
 obtain ⟨J,e1,hle,e2,htop⟩:=hj (some b,0)
 refine yt (fun _ _=>eS.up hle) _ _ _ (kk j J F _ _ ((h1.mono hle).upd d ⟨_,0,e2,rfl⟩) ⟨htop,_,⟨[(b,.cells [].toArray e (0,0))],L,rfl,⟨some b,0,0,[],e2,rfl,(by simp),dM.made (n:=0) (by simp)⟩,hL.mono hle⟩,by rw[e1];exact hS'⟩)
theorem ai.make1 {i:TypeInfo} {zv z1:Value} {m:Nat} {k1 k2:IntKind} {l l':Int} (ht:P.underlying t=some (.slice e)) (hi:P.info? e=some i) (hz:i.zero=some zv) (hzc:zv.cells=#[z1]) (hk:i.size=1) (hx:aP env x=.int k1 l) (hy:aP env y=.int k2 l')
  (hl:l=(m:Int)) (hl':l'=(m:Int)) (hb:(i.bytes:Int)*(m:Int)≤281474976710656) (hm:m≤281474976710656) (hz1:z1.oneCell'=true) (kk:∀j,ai P E ops K rest (bp env d (.own j m)) ((j,.grow 1 e (List.replicate m (lit z1)))::O)) :
  ai P E ops K (Oper.mk (some d) (.makeSlice t x y) ty pos af none::rest) env O:=fun I F ρ w h1 h2=>by
 obtain ⟨L,hL,hS⟩:=h2.2
 obtain ⟨j,hj⟩:=h2.name
 refine bx.make1 ht hi hz hzc hk (fz h1 hx) (fz h1 hy) hl hl' hb hm hS fun b w' hS'=>?_
 obtain ⟨J,e1,hle,e2,htop⟩:=hj (some b,m)
 have hrep:RepL J (List.replicate m (lit z1)) (List.replicate m z1):=by
  have:=dA J (List.replicate m z1)
  rwa [List.map_replicate] at this
 refine yt (fun _ _=>eS.up hle) _ _ _ (kk j J F _ _ ((h1.mono hle).upd d ⟨_,m,e2,rfl⟩) ⟨htop,_,⟨[(b,.cells (List.replicate m z1).toArray e (0,0))],L,rfl,⟨some b,m,m,_,e2,hrep,(fun u hu=>by rw[List.eq_of_mem_replicate hu];exact hz1),dM.made (by simp)⟩,hL.mono hle⟩,by rw[e1];exact hS'⟩)
end
set_option linter.defProp false
def z6:=@ai.nil
def z7:=@ai.val
def z8:=@ai.guardFd
def za:=@ai.guardT
def ze:=@cO.seq
def zh:=@cO.ret
def zi:=@cO.skip
def zj:=@cO.block
def zk:=@aU.intro
def zm:=@dB.t1
def zo:=@ai.alloc
def zp:=@cO.condP
def zt:=@Gv.build
def zx:=@ai.case
def zy:=@ai.boxF
def zz:=@cO.cond
def y0:=@Gv.fieldO
def y7:=@Gv.assign
def y8:=@cO.exit
def y9:=@cO.region
def ya:=@cO.loop
def yb:=@Gv.move
def yc:=@dB.c1
def yd:=@Gv.load1C
def yf:=@Gv.loadAC
def yi:=@ai.boxO
def yj:=@Gv.nilCheckO
def yl:=@Gv.loadWF
def ym:=@cO.cutS
def yn:=@cO.condF
def yo:=@Gv.not
def yq:=@cO.condT
def yr:=@Gv.nilCheckF
def yw:=@Gv.neqI
def q0:=@Gv.loadWC
def q4:=@Gv.extract
def q7:=@Gv.load1F
def q8:=@ai.storeC
def qa:=@Gv.geq
def qb:=@Gv.ofEv
def qe:=@eS.up
end
end Go.Proofs.YthphijnnbfjikaaGreatDoor
