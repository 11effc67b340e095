/- Structs and slices that are built; slices that grow; calls; what is known henceforth. No conditions but bounds. -/
import Derived.Test.YtbanfokidalbaaaGreatDoorJa
import Derived.RegionTactic
import Derived.Laws.StructEq
set_option linter.unusedVariables false
set_option linter.unusedSimpArgs false
set_option linter.unusedSectionVars false
namespace Go.Proofs.YtbanfokidalbaaaGreatDoor
section
section
variable {P:Program} {ρ:cO} {w:World}
variable {d ty:Nat} {pos:String} {af:Array Edge} {x y z:Operand} {t u e:TypeId}
variable {I:aT} {O:MV} {E:World}
theorem Run.pickT {b:Bool} {v:Value} (hc:ev ρ x=.bool b) (hb:b=true) (hy:ev ρ y=v) :
  (execOp (ev ρ) (Oper.mk (some d) (.pick x y z) ty pos af none)).run P w=.ok (.value (v)) w:=
 (by subst hb;simp[execOp,hc,hy,asBool])
theorem Run.pickF {b:Bool} {v:Value} (hc:ev ρ x=.bool b) (hb:b=false) (hz:ev ρ z=v) :
  (execOp (ev ρ) (Oper.mk (some d) (.pick x y z) ty pos af none)).run P w=.ok (.value (v)) w:=
 (by subst hb;simp[execOp,hc,hz,asBool])
theorem Run.lss {k:IntKind} {a b:Int} (hx:ev ρ x=.int k a) (hy:ev ρ y=.int k b) :
  (execOp (ev ρ) (Oper.mk (some d) (.binOp .lss t x y u) ty pos af none)).run P w=.ok (.value ((.bool (decide (a<b))))) w:=
 (by rw[cH hx hy (by decide) (by decide)];simp[binOp,Op.intCmp])
theorem Run.leq {k:IntKind} {a b:Int} (hx:ev ρ x=.int k a) (hy:ev ρ y=.int k b) :
  (execOp (ev ρ) (Oper.mk (some d) (.binOp .leq t x y u) ty pos af none)).run P w=.ok (.value ((.bool (decide (a≤b))))) w:=
 (by rw[cH hx hy (by decide) (by decide)];simp[binOp,Op.intCmp])
theorem Run.gtr {k:IntKind} {a b:Int} (hx:ev ρ x=.int k a) (hy:ev ρ y=.int k b) :
  (execOp (ev ρ) (Oper.mk (some d) (.binOp .gtr t x y u) ty pos af none)).run P w=.ok (.value ((.bool (decide (b<a))))) w:=
 (by rw[cH hx hy (by decide) (by decide)];simp[binOp,Op.intCmp])
theorem Run.geq {k:IntKind} {a b:Int} (hx:ev ρ x=.int k a) (hy:ev ρ y=.int k b) :
  (execOp (ev ρ) (Oper.mk (some d) (.binOp .geq t x y u) ty pos af none)).run P w=.ok (.value ((.bool (decide (b≤a))))) w:=
 (by rw[cH hx hy (by decide) (by decide)];simp[binOp,Op.intCmp])
theorem Run.eqlI {k:IntKind} {a b:Int} (hx:ev ρ x=.int k a) (hy:ev ρ y=.int k b) :
  (execOp (ev ρ) (Oper.mk (some d) (.binOp .eql t x y u) ty pos af none)).run P w=.ok (.value ((.bool (decide (a=b))))) w:=
 (by
  rw[cH hx hy (by decide) (by decide)]
  have e:(decide (a=b))=(a == b):=by by_cases h:a=b<;>simp[h]
  rw[e];simp[binOp,Op.intCmp])
theorem Run.neqI {k:IntKind} {a b:Int} (hx:ev ρ x=.int k a) (hy:ev ρ y=.int k b) :
  (execOp (ev ρ) (Oper.mk (some d) (.binOp .neq t x y u) ty pos af none)).run P w=.ok (.value ((.bool (decide (a≠b))))) w:=
 (by
  rw[cH hx hy (by decide) (by decide)]
  have e:(decide (a≠b))=(a != b):=by by_cases h:a=b<;>simp[h]
  rw[e];simp[binOp,Op.intCmp])
theorem Run.add {a b:Int} (hx:ev ρ x=.int .i64 a) (hy:ev ρ y=.int .i64 b) (hr:nN (a+b)) :
  (execOp (ev ρ) (Oper.mk (some d) (.binOp .add t x y u) ty pos af none)).run P w=.ok (.value ((.int .i64 (a+b)))) w:=
 (by rw[cH hx hy (by decide) (by decide)];simp[binOp,Op.intArith,IntWalk.i64_in _ hr])
theorem Run.sub {a b:Int} (hx:ev ρ x=.int .i64 a) (hy:ev ρ y=.int .i64 b) (hr:nN (a - b)) :
  (execOp (ev ρ) (Oper.mk (some d) (.binOp .sub t x y u) ty pos af none)).run P w=.ok (.value ((.int .i64 (a - b)))) w:=
 (by rw[cH hx hy (by decide) (by decide)];simp[binOp,Op.intArith,IntWalk.i64_in _ hr])
theorem Run.mul {a b:Int} (hx:ev ρ x=.int .i64 a) (hy:ev ρ y=.int .i64 b) (hr:nN (a*b)) :
  (execOp (ev ρ) (Oper.mk (some d) (.binOp .mul t x y u) ty pos af none)).run P w=.ok (.value ((.int .i64 (a*b)))) w:=
 (by rw[cH hx hy (by decide) (by decide)];simp[binOp,Op.intArith,IntWalk.i64_in _ hr])
theorem Run.addW {k:IntKind} {a b:Int} (hx:ev ρ x=.int k a) (hy:ev ρ y=.int k b) :
  (execOp (ev ρ) (Oper.mk (some d) (.binOp .add t x y u) ty pos af none)).run P w=.ok (.value ((.int k (k.wrap (a+b))))) w:=
 (by rw[cH hx hy (by decide) (by decide)];simp[binOp,Op.intArith])
theorem Run.subW {k:IntKind} {a b:Int} (hx:ev ρ x=.int k a) (hy:ev ρ y=.int k b) :
  (execOp (ev ρ) (Oper.mk (some d) (.binOp .sub t x y u) ty pos af none)).run P w=.ok (.value ((.int k (k.wrap (a - b))))) w:=
 (by rw[cH hx hy (by decide) (by decide)];simp[binOp,Op.intArith])
theorem Run.mulW {k:IntKind} {a b:Int} (hx:ev ρ x=.int k a) (hy:ev ρ y=.int k b) :
  (execOp (ev ρ) (Oper.mk (some d) (.binOp .mul t x y u) ty pos af none)).run P w=.ok (.value ((.int k (k.wrap (a*b))))) w:=
 (by rw[cH hx hy (by decide) (by decide)];simp[binOp,Op.intArith])
theorem Run.not {b:Bool} (hx:ev ρ x=.bool b) :
  (execOp (ev ρ) (Oper.mk (some d) (.unOp .not t x) ty pos af none)).run P w=.ok (.value ((.bool (!b)))) w:=
 (by simp[execOp,hx,unary_not])
theorem Run.extract {vs:Array Value} {ix:Nat} {v:Value} (hx:ev ρ x=.tuple vs) (hv:vs[ix]?=some v) :
  (execOp (ev ρ) (Oper.mk (some d) (.extract x ix) ty pos af none)).run P w=.ok (.value (v)) w:=
 (by simp[execOp,hx,Instr.extract,hv])
theorem Run.nilCheck {a:Addr} (hx:ev ρ x=.pointer (some a)) :
  (execOp (ev ρ) (Oper.mk (some d) (.nilCheck x) ty pos af none)).run P w=.ok (.value ((.pointer (some a)))) w:=
 (by simp[execOp,hx])
theorem Run.lenS {a:Option Addr} {n c:Nat} {e:TypeId} (ht:P.underlying t=some (.slice e)) (hx:ev ρ x=.slice a n c) :
  (execOp (ev ρ) (Oper.mk (some d) (.call { callee:=.builtin .len,args:=#[x],argTypes:=#[t] }) ty pos af none)).run P w=.ok (.value ((.int .i64 n))) w:=
 (by simp[execOp,resolve,hx,invoke,builtin,Builtin.len_,run_underlying ht,goInt])
theorem Run.lenT {s:ByteArray} (ht:P.underlying t=some .string) (hx:ev ρ x=.string s) :
  (execOp (ev ρ) (Oper.mk (some d) (.call { callee:=.builtin .len,args:=#[x],argTypes:=#[t] }) ty pos af none)).run P w=.ok (.value ((.int .i64 s.size))) w:=
 (by simp[execOp,resolve,hx,invoke,builtin,Builtin.len_,run_underlying ht,goInt])
theorem Run.eqlT {a b:ByteArray} (hx:ev ρ x=.string a) (hy:ev ρ y=.string b) :
  (execOp (ev ρ) (Oper.mk (some d) (.binOp .eql t x y u) ty pos af none)).run P w=.ok (.value ((.bool (decide (a=b))))) w:=
 (by
  rw[←mT];simp only[execOp,hx,hy];simp[ij,binOp_string_eql])
theorem Run.neqT {a b:ByteArray} (hx:ev ρ x=.string a) (hy:ev ρ y=.string b) :
  (execOp (ev ρ) (Oper.mk (some d) (.binOp .neq t x y u) ty pos af none)).run P w=.ok (.value ((.bool (!decide (a=b))))) w:=
 (by
  rw[←mT];simp only[execOp,hx,hy];simp[ij,binOp_string_neq])
theorem Run.eqlB {a b:Bool} (ht:P.underlying t=some .bool) (hx:ev ρ x=.bool a) (hy:ev ρ y=.bool b) :
  (execOp (ev ρ) (Oper.mk (some d) (.binOp .eql t x y u) ty pos af none)).run P w=.ok (.value ((.bool (a == b)))) w:=
 (by simp only[execOp,hx,hy];simp[kg,run_eql_bool w t a b ht])
theorem Run.neqB {a b:Bool} (ht:P.underlying t=some .bool) (hx:ev ρ x=.bool a) (hy:ev ρ y=.bool b) :
  (execOp (ev ρ) (Oper.mk (some d) (.binOp .neq t x y u) ty pos af none)).run P w=.ok (.value ((.bool (!(a == b))))) w:=
 (by simp only[execOp,hx,hy];simp[kg,run_neq_bool w t a b ht])
theorem Run.load1 {b off:Nat} {v:Value} (ha:∀w,(isAgg t).run P w=.ok false w) (hS:SL I O E w) (hx:ev ρ x=.pointer (some ⟨b,off,none⟩)) (hv:At I O b off v)
  :
  (execOp (ev ρ) (Oper.mk (some d) (.load t x) ty pos af none)).run P w=.ok (.value (v)) w:=
 (by simp[execOp,hx,Instr.loadAt,Instr.sureAddr,loadVar,ha,hS.at_ hv])
theorem Run.loadA {b off:Nat} {cs:List Value} (ha:∀w,(isAgg t).run P w=.ok true w) (hs:∀w,(sizeOf t).run P w=.ok cs.length w) (hS:SL I O E w) (hx:ev ρ x=.pointer (some ⟨b,off,none⟩))
  (hv:∀j v,cs[j]?=some v→At I O b (off+j) v) :
  (execOp (ev ρ) (Oper.mk (some d) (.load t x) ty pos af none)).run P w=.ok (.value ((.agg cs.toArray))) w:=
 (by
  have hl:=run_loadCells_list (P:=P) w ⟨b,off,none⟩ cs (fun j v hj=>by rw[bE];exact hS.at_ (hv j v hj))
  simp[execOp,hx,Instr.loadAt,Instr.sureAddr,loadVar,ha,hs,hl])
theorem Run.idx {b off n c j k:Nat} {e:TypeId} {i:Int} (ht:P.underlying t=some (.slice e)) (hs:∀w,(sizeOf e).run P w=.ok k w) (hx:ev ρ x=.slice (some ⟨b,off,none⟩) n c)
  (hy:ev ρ y=.int .i64 i) (hi:i=(j:Int)) (hj:j<n) :
  (execOp (ev ρ) (Oper.mk (some d) (.indexAddr t x y) ty pos af none)).run P w=.ok (.value ((.pointer (some ⟨b,off+j*k,none⟩)))) w:=
 (by
  subst hi
  simp[execOp,hx,hy,Instr.indexAt,asIntOf,run_underlying ht,hs,hj,bE])
theorem Run.field {fs:Array Field} {f:Field} {i:Nat} {b off r:Nat} {sz:Nat} (ht:P.underlying t=some (.struct fs)) (hf:fs[i]?=some f) (hs:∀w,(sizeOf f.type).run P w=.ok sz w) (hz:sz≠0)
  (hx:ev ρ x=.pointer (some ⟨b,off,none⟩)) (hr:off+f.offset=r) :
  (execOp (ev ρ) (Oper.mk (some d) (.fieldAddr t x i) ty pos af none)).run P w=.ok (.value ((.pointer (some ⟨b,r,none⟩)))) w:=
 (by subst hr;simp[execOp,hx,Instr.fieldAt,run_underlying ht,hf,Instr.sureAddr,fieldPlace,hs,hz,bE])
end
def eW (W:Nat→Bool) (listed:Array Bool):Prop:=∃j,listed.getD j false=true∧W j=true
theorem ml {W:Nat→Bool} {listed:Array Bool} {i:Nat} (h:eW W listed):eW W (listed.setIfInBounds i true):=by
 obtain ⟨j,h1,h2⟩:=h
 refine ⟨j,?_,h2⟩
 rw[Array.getD_eq_getD_getElem?] at h1 ⊢
 rw[Array.getElem?_setIfInBounds]
 split
 ·rename_i e;subst e
  split
  ·rfl
  ·rename_i hn;rw[Array.getElem?_eq_none (by omega)] at h1;cases h1
 ·exact h1
theorem tf {W:Nat→Bool} {listed:Array Bool} {i:Nat} (hi:W i=false) (h:eW W (listed.setIfInBounds i true)):eW W listed:=by
 obtain ⟨j,h1,h2⟩:=h
 refine ⟨j,?_,h2⟩
 rw[Array.getD_eq_getD_getElem?] at h1 ⊢
 rw[Array.getElem?_setIfInBounds] at h1
 split at h1
 ·rename_i e;subst e;rw[hi] at h2;cases h2
 ·exact h1
def cL (P:Program) (ops:Array Oper) (S0 S:World→Prop) (W:Nat→Bool) (Q:cO→World→Prop):Nat→Array Bool→cO→World→Prop
 |0,listed,ρ,w=>Region.ready .any ops listed=[]∧Q ρ w
 |fuel+1,listed,ρ,w=>(Region.ready .any ops listed=[]→Q ρ w) ∧
   ∀i∈Region.ready .any ops listed,∀o,ops[i]?=some o→bP P ops (fun ρ' w'=>(S0 w'∧(eW W (listed.setIfInBounds i true)∨S w'))∧cL P ops S0 S W Q fuel (listed.setIfInBounds i true) ρ' w') [o] ρ w
theorem cL.any {P:Program} {n:Nat} {l:List Oper} {S0 S:World→Prop} {W:Nat→Bool} {Q:Exit→cO→World→Prop} (hd:gJ n l=true):∀(fuel:Nat) (listed:Array Bool) (ρ:cO) (w:World) (a:Act),iV n a ρ →
  cL P l.toArray S0 S W (Q .normal) fuel listed ρ w→wpAny P .any l.toArray (J3 n Q) fuel listed a w
 |0,_,ρ,_,_,ha,h=>⟨h.1,ρ,ha,h.2⟩
 |fuel+1,listed,ρ,w,a,ha,h=>by
  refine ⟨fun h0=>⟨ρ,ha,h.1 h0⟩,fun i hi=>?_⟩
  obtain ⟨_,o,ho,_⟩:=mem_ready.1 hi
  have h2:=h.2 i hi o ho
  have hdo:o.dst.all (fun d=>decide (d<n))=true:=List.all_eq_true.1 hd _ (by simpa using Array.mem_of_getElem? ho)
  unfold wpOp
  simp only[ho]
  rw[sY ha _ _ (EM hd)]
  unfold bP at h2
  split
  ·rename_i hw;rw[if_pos hw] at h2
   exact .inl (h2.wp ha fun v w' ⟨_,h3⟩=>cL.any hd fuel _ _ _ _ (ha.put hdo v) h3)
  ·rename_i hw;rw[if_neg hw] at h2
   exact cL.any hd fuel _ _ _ _ (ha.put hdo undef) h2.2
theorem C5 (ρ:cO) {x y:Option Nat} (v u:Value) (h:∀d,x=some d→y≠some d):updO (updO ρ x v) y u=updO (updO ρ y u) x v:=by
 cases x with
 |none=>rfl
 |some d=>
  cases y with
  |none=>rfl
  |some e=>
   have hne:d≠e:=fun he=>h d rfl (he▸rfl)
   funext t
   simp only[updO]
   by_cases h1:t=d
   ·subst h1;rw[eh _ _ hne,ig,ig]
   ·rw[eh _ _ h1]
    by_cases h2:t=e
    ·subst h2;rw[ig,ig]
    ·rw[eh _ _ h2,eh _ _ h2,eh _ _ h1]
theorem Bf {ρ:cO} {ops:Array Oper} {o:Oper} {d:Option Nat} {v:Value} (h:∀e,d=some e→e ∉ o.looksAt ops):∀x∈o.op.operands,ev (updO ρ d v) x=ev ρ x:=by
 intro x hx
 cases d with
 |none=>rfl
 |some e=>
  cases x with
  |tmp t=>
   have:t≠e:=fun he=>h e rfl (by
    subst he
    exact List.mem_append_left _ (List.mem_filterMap.2 ⟨.tmp t,by simpa using hx,rfl⟩))
   exact eh _ _ this
  |_=>rfl
theorem mU {ρ:cO} {ops:Array Oper} {o:Oper} {d:Option Nat} {v:Value} (h:∀e,d=some e→e ∉ o.looksAt ops):dB ops o (updO ρ d v)=dB ops o ρ:=by
 cases d with
 |none=>rfl
 |some e=>
  unfold dB
  cases hg:o.guard with
  |none=>rfl
  |some gw=>
   obtain ⟨g,want⟩:=gw
   dsimp only
   cases ht:(ops[g]?).bind (fun o:Oper=>o.dst) with
   |none=>rfl
   |some t=>
    have hne:t≠e:=fun he=>h e rfl (by subst he;simp[Oper.looksAt,hg,ht])
    have:updO ρ (some e) v t=ρ t:=eh _ _ hne
    simp only[this]
def vE (P:Program) (ops:Array Oper) (S:World→Prop) (o:Oper) (v:Value) (ρ:cO):Prop:=
 (dB ops o ρ=true∧∀w,S w→(execOp (ev ρ) o).run P w=.ok (.value v) w)∨(dB ops o ρ=false∧v=undef)
theorem vE.ops {P:Program} {ops:Array Oper} {S:World→Prop} {o:Oper} {v:Value} {ρ:cO} {K:cO→World→Prop} {w:World} (h:vE P ops S o v ρ) (hS:S w) (hK:K (updO ρ o.dst v) w):bP P ops K [o] ρ w:=by
 unfold bP
 rcases h with ⟨h1,h2⟩|⟨h1,rfl⟩
 ·rw[if_pos h1];unfold eY;rw[h2 w hS];exact hK
 ·rw[if_neg (by simp[h1])];exact hK
theorem cL.first {P:Program} {ops:Array Oper} {S0 S:World→Prop} {W:Nat→Bool} {Q:cO→World→Prop} {i:Nat} {oi:Oper} {v:Value} (hi:ops[i]?=some oi) (hsel:∀(j:Nat) (o:Oper) cs b,ops[j]?=some o→o.op≠.select cs b)
  {Sx:World→Prop} {C:Array Bool→Prop} (hWi:W i=false)
  (hC:∀listed (j:Nat) oj,C listed→ops[j]?=some oj→j≠i→(∀e∈oj.after,Region.binds .any e=true→e.on≠i)→C (listed.setIfInBounds j true)) (hX:∀listed w,C listed→S0 w→(eW W listed∨S w)→Sx w) :
  ∀(fuel:Nat) (listed:Array Bool) (ρ:cO) (w:World),
   (∀j oj,ops[j]?=some oj→j≠i→listed.getD j true=false→(∀e∈oj.after,Region.binds .any e=true→e.on≠i)→oi.apart ops oj=true) →
   i∈Region.ready .any ops listed→vE P ops Sx oi v ρ→C listed→S0 w→(eW W listed∨S w) →
   cL P ops S0 S W Q fuel (listed.setIfInBounds i true) (updO ρ oi.dst v) w→cL P ops S0 S W Q (fuel+1) listed ρ w:=by
 intro fuel
 induction fuel with
 |zero=>
  intro listed ρ w _ hr hy hCl hS0 hS H
  refine ⟨fun h=>(by rw[h] at hr;cases hr),fun j hj o ho=>?_⟩
  by_cases hji:j=i
  ·subst hji
   rw[hi] at ho;cases ho
   exact hy.ops (hX _ _ hCl hS0 hS) ⟨⟨hS0,hS.imp ml id⟩,H⟩
  ·have:=ready_mono hj hji
   rw[H.1] at this
   cases this
 |succ fuel ih=>
  intro listed ρ w hfree hr hy hCl hS0 hS H
  refine ⟨fun h=>(by rw[h] at hr;cases hr),fun j hj oj hoj=>?_⟩
  by_cases hji:j=i
  ·subst hji
   rw[hi] at hoj;cases hoj
   exact hy.ops (hX _ _ hCl hS0 hS) ⟨⟨hS0,hS.imp ml id⟩,H⟩
  ·obtain ⟨hjun,oj',hoj',hall⟩:=mem_ready.1 hj
   rw[hoj] at hoj';cases hoj'
   have hnot:∀e∈oj.after,Region.binds .any e=true→e.on≠i:=fun e he hb heq=>by
    have h1:=hall e he hb
    have h0:=(mem_ready.1 hr).1
    rw[heq] at h1
    rcases Nat.lt_or_ge i listed.size with h'|h'
    ·simp[h'] at h0 h1;rw[h0] at h1;cases h1
    ·simp[Array.getElem?_eq_none h'] at h1
   have h1:=H.2 j (ready_mono hj hji) oj hoj
   obtain ⟨a1,a2,a3⟩:=Oper.apart_spec (hfree j oj hoj hji hjun hnot)
   have hwt:=mU (ρ:=ρ) (v:=v) (ops:=ops) (o:=oj) (d:=oi.dst) a1
   have hex:execOp (ev (updO ρ oi.dst v)) oj=execOp (ev ρ) oj:=execOp_congr oj (fun cs b=>hsel j oj cs b hoj) (Bf a1)
   have hfree':∀k ok,ops[k]?=some ok→k≠i→(listed.setIfInBounds j true).getD k true=false →
     (∀e∈ok.after,Region.binds .any e=true→e.on≠i)→oi.apart ops ok=true:=fun k ok hk hki hun hno=>by
    refine hfree k ok hk hki ?_ hno
    by_cases hjk:j=k
    ·subst hjk;exact hjun
    ·rw[getD_set_ne true hjk] at hun;exact hun
   have keep:∀u,vE P ops Sx oi v (updO ρ oj.dst u):=fun u=>by
    unfold vE at *
    rw[mU a3,execOp_congr oi (fun cs b=>hsel i oi cs b hi) (Bf a3)]
    exact hy
   have next:∀u w',((S0 w'∧(eW W ((listed.setIfInBounds i true).setIfInBounds j true)∨S w'))∧cL P ops S0 S W Q fuel ((listed.setIfInBounds i true).setIfInBounds j true) (updO (updO ρ oi.dst v) oj.dst u) w') →
     (S0 w'∧(eW W (listed.setIfInBounds j true)∨S w'))∧cL P ops S0 S W Q (fuel+1) (listed.setIfInBounds j true) (updO ρ oj.dst u) w':=by
    rintro u w' ⟨h2,h3⟩
    have hS':eW W (listed.setIfInBounds j true)∨S w':=h2.2.imp (fun h=>by
     rw[Array.setIfInBounds_comm _ _ (Ne.symm hji)] at h
     exact tf hWi h) id
    refine ⟨⟨h2.1,hS'⟩,ih _ _ _ hfree' (ready_mono hr (Ne.symm hji)) (keep u) (hC _ _ _ hCl hoj hji hnot) h2.1 hS' ?_⟩
    rw[←C5 ρ v u a2,Array.setIfInBounds_comm _ _ hji]
    exact h3
   unfold bP at h1 ⊢
   rw[hwt] at h1
   split
   ·rename_i hw;rw[if_pos hw] at h1
    unfold eY at h1 ⊢
    rw[hex] at h1
    split
    ·rename_i heq;rw[heq] at h1;exact next _ _ h1
    ·rename_i heq;rw[heq] at h1;exact next _ _ h1
    ·rename_i heq;rw[heq] at h1
     exact h1.mono fun e w'' ⟨u,he,hK⟩=>⟨u,he,next _ _ hK⟩
    ·rename_i h4 h5 h6
     split at h1
     ·rename_i heq;exact (h4 _ _ heq).elim
     ·rename_i heq;exact (h5 _ heq).elim
     ·rename_i heq;exact (h6 _ _ _ heq).elim
     ·exact h1
   ·rename_i hw;rw[if_neg hw] at h1
    exact next _ _ h1
def f9 (l:List Oper) (i:Nat) (W:Nat→Bool):Bool:=(List.range l.length).all fun j=>j == i||!W j||(match l[j]? with|some oj=>oj.after.any (fun e=>Region.binds .any e&&e.on == i)|none=>true)
theorem vF {l:List Oper} {i:Nat} {W:Nat→Bool} (h:f9 l i W=true) (j:Nat) (oj:Oper) (hj:l.toArray[j]?=some oj) (hne:j≠i) (hw:W j=true):∃e∈oj.after,Region.binds .any e=true∧e.on=i:=by
 simp only[f9,List.all_eq_true,List.mem_range] at h
 have hj':l[j]?=some oj:=by simpa using hj
 have:=h j (List.getElem?_eq_some_iff.1 hj').1
 simp only[hj',hw,Bool.not_true,Bool.or_false,Bool.or_eq_true,beq_iff_eq,hne,false_or] at this
 obtain ⟨e,he,hb⟩:=Array.any_eq_true'.1 this
 simp only[Bool.and_eq_true,beq_iff_eq] at hb
 exact ⟨e,he,hb.1,hb.2⟩
def ft (W:Nat→Bool) (listed:Array Bool):Bool:=(List.range listed.size).all fun j=>!(listed.getD j false&&W j)
theorem iX {W:Nat→Bool} {listed:Array Bool} (h:ft W listed=true):¬eW W listed:=fun ⟨j,h1,h2⟩=>by
 have hj:j<listed.size:=by
  rcases Nat.lt_or_ge j listed.size with h|h
  ·exact h
  ·rw[Array.getD_eq_getD_getElem?,Array.getElem?_eq_none h] at h1;cases h1
 have:=List.all_eq_true.1 h j (List.mem_range.2 hj)
 rw[h1,h2] at this;cases this
theorem iY {l:List Oper} {i:Nat} {W:Nat→Bool} (hW:f9 l i W=true) (listed:Array Bool) (j:Nat) (oj:Oper) (hc:¬eW W listed) (hj:l.toArray[j]?=some oj) (hne:j≠i) (hno:∀e∈oj.after,Region.binds .any e=true→e.on≠i):¬eW W (listed.setIfInBounds j true):=fun h=>by
 refine hc (tf ?_ h)
 cases hw:W j with
 |false=>rfl
 |true=>
  obtain ⟨e,he,hb,hon⟩:=vF hW j oj hj hne hw
  exact absurd hon (hno e he hb)
section
variable {P:Program} {n:Nat} {l:List Oper} {S0 S:World→Prop} {W:Nat→Bool} {Q:cO→World→Prop} {fuel:Nat} {listed:Array Bool} {ρ:cO} {w:World}
variable {d ty:Nat} {op:Op} {pos:String} {af:Array Edge}
theorem WP.regionDraw (S0 S:World→Prop) (W:Nat→Bool) {Q:Exit→cO→World→Prop} {id:Nat} (hm:P.follows .mixedOrders=true) (hd:gJ n l=true) (h:∀w',w'=w.drew→cL P l.toArray S0 S W (Q .normal) l.length (Array.replicate l.length false) ρ w'):WP P n (.region id l.toArray true) Q ρ w:=fun a ha=>
 wp_region_any hm (by have:=cL.any (S0:=S0) (S:=S) (W:=W) hd _ _ _ _ a ha (h _ rfl);simpa using this)
theorem cL.take {i:Nat} {v:Value} (hi:l[i]?=some (Oper.mk (some d) op ty pos af none)) (hs:Region.noSelect l.toArray=true) (hf:Region.free .any l.toArray listed i=true)
  (hr:(Region.ready .any l.toArray listed).contains i=true) (hW:f9 l i W=true) (hWi:W i=false) (hcl:ft W listed=true) (hS0:S0 w) (hS:S w) (hy:∀w,S w→(execOp (ev ρ) (Oper.mk (some d) op ty pos af none)).run P w=.ok (.value v) w)
  (h:cL P l.toArray S0 S W Q fuel (listed.setIfInBounds i true) (upd ρ d v) w):cL P l.toArray S0 S W Q (fuel+1) listed ρ w:=
 cL.first (oi:=Oper.mk (some d) op ty pos af none) (by simpa using hi) (Region.noSelect_spec hs) (Sx:=S) (C:=fun listed=>¬eW W listed) hWi (iY hW) (fun _ _ h1 _ h2=>h2.resolve_left h1) fuel listed ρ w (Region.free_spec (by simpa using hi) hf) (by simpa using hr) (.inl ⟨rfl,hy⟩) (iX hcl) hS0 (.inr hS) h
theorem cL.takeK {i:Nat} {v:Value} (hi:l[i]?=some (Oper.mk (some d) op ty pos af none)) (hs:Region.noSelect l.toArray=true) (hf:Region.free .any l.toArray listed i=true)
  (hr:(Region.ready .any l.toArray listed).contains i=true) (hWi:W i=false) (hS0:S0 w) (hS:eW W listed∨S w) (hy:∀w,S0 w→(execOp (ev ρ) (Oper.mk (some d) op ty pos af none)).run P w=.ok (.value v) w)
  (h:cL P l.toArray S0 S W Q fuel (listed.setIfInBounds i true) (upd ρ d v) w):cL P l.toArray S0 S W Q (fuel+1) listed ρ w:=
 cL.first (oi:=Oper.mk (some d) op ty pos af none) (by simpa using hi) (Region.noSelect_spec hs) (Sx:=S0) (C:=fun _=>True) hWi (fun _ _ _ _ _ _ _=>trivial) (fun _ _ _ h _=>h) fuel listed ρ w (Region.free_spec (by simpa using hi) hf) (by simpa using hr) (.inl ⟨rfl,hy⟩) trivial hS0 hS h
theorem cL.takeT {i j s:Nat} {b t:Bool} {v:Value} (hi:l[i]?=some (Oper.mk (some d) op ty pos af (some (j,b)))) (hg:(l[j]?).bind (fun o:Oper=>o.dst)=some s) (hv:ρ s=.bool t) (ht:t=b) (hs:Region.noSelect l.toArray=true) (hf:Region.free .any l.toArray listed i=true)
  (hr:(Region.ready .any l.toArray listed).contains i=true) (hW:f9 l i W=true) (hWi:W i=false) (hcl:ft W listed=true) (hS0:S0 w) (hS:S w) (hy:∀w,S w→(execOp (ev ρ) (Oper.mk (some d) op ty pos af none)).run P w=.ok (.value v) w)
  (h:cL P l.toArray S0 S W Q fuel (listed.setIfInBounds i true) (upd ρ d v) w):cL P l.toArray S0 S W Q (fuel+1) listed ρ w:=
 cL.first (oi:=Oper.mk (some d) op ty pos af (some (j,b))) (by simpa using hi) (Region.noSelect_spec hs) (Sx:=S) (C:=fun listed=>¬eW W listed) hWi (iY hW) (fun _ _ h1 _ h2=>h2.resolve_left h1) fuel listed ρ w (Region.free_spec (by simpa using hi) hf) (by simpa using hr)
  (.inl ⟨by simp only[dB,List.getElem?_toArray,hg,hv,ht];simp,hy⟩) (iX hcl) hS0 (.inr hS) h
theorem cL.takeF {i j s:Nat} {b t:Bool} (hi:l[i]?=some (Oper.mk (some d) op ty pos af (some (j,b)))) (hg:(l[j]?).bind (fun o:Oper=>o.dst)=some s) (hv:ρ s=.bool t) (ht:t=!b) (hs:Region.noSelect l.toArray=true) (hf:Region.free .any l.toArray listed i=true)
  (hr:(Region.ready .any l.toArray listed).contains i=true) (hW:f9 l i W=true) (hWi:W i=false) (hcl:ft W listed=true) (hS0:S0 w) (hS:S w)
  (h:cL P l.toArray S0 S W Q fuel (listed.setIfInBounds i true) (upd ρ d undef) w):cL P l.toArray S0 S W Q (fuel+1) listed ρ w:=
 cL.first (oi:=Oper.mk (some d) op ty pos af (some (j,b))) (by simpa using hi) (Region.noSelect_spec hs) (Sx:=S) (C:=fun listed=>¬eW W listed) hWi (iY hW) (fun _ _ h1 _ h2=>h2.resolve_left h1) fuel listed ρ w (Region.free_spec (by simpa using hi) hf) (by simpa using hr)
  (.inr ⟨by simp only[dB,List.getElem?_toArray,hg,hv,ht];cases b<;>simp,rfl⟩) (iX hcl) hS0 (.inr hS) h
theorem cL.one {i:Nat} {o:Oper} (hi:l[i]?=some o) (hr:Region.ready .any l.toArray listed=[i])
  (h:bP P l.toArray (fun ρ' w'=>(S0 w'∧(eW W (listed.setIfInBounds i true)∨S w'))∧cL P l.toArray S0 S W Q fuel (listed.setIfInBounds i true) ρ' w') [o] ρ w):cL P l.toArray S0 S W Q (fuel+1) listed ρ w:=by
 refine ⟨fun h0=>(by rw[hr] at h0;cases h0),fun j hj o' ho'=>?_⟩
 rw[hr,List.mem_singleton] at hj
 subst hj
 have:o'=o:=by
  rw[List.getElem?_toArray,hi] at ho'
  exact (Option.some.inj ho').symm
 subst this
 exact h
theorem cL.done (hr:Region.ready .any l.toArray listed=[]) (h:Q ρ w):cL P l.toArray S0 S W Q fuel listed ρ w:=by
 cases fuel with
 |zero=>exact ⟨hr,h⟩
 |succ fuel=>exact ⟨fun _=>h,by rw[hr];intro i hi;cases hi⟩
end
end
section
section
variable {P:Program} {ops:Array Oper} {K:cO→World→Prop} {ρ:cO} {w:World} {rest:List Oper}
variable {d ty:Nat} {pos:String} {af:Array Edge} {x y:Operand} {t e:TypeId} {I:aT} {O:MV} {E:World}
theorem Fn.ofCalls {f:FuncId} {fn:Func} {c:Code} {args:Array Value} {R:Value→World→Prop} (hf:P.funcs[f]?=some fn) (hb:fn.body=some c) (hn:fn.name≠"runtime.NumGoroutine")
  (h:Calls P f args w fun e w'=>∃v,e=.returned v∧R v w'):Fn P f args w R:=⟨⟨fn,c,hf,hb,hn⟩,h⟩
theorem SL.below {w':World} (h:SL I O E w) (hb:Go.RowKit.Below w.heap.size w w'):SL I O E w':=
 ⟨hb.os.trans h.os,hb.output.trans h.output,hb.tape.trans h.tape,fun b o hI=>by rw[hb.block b (dv (h.pers b o hI))];exact h.pers b o hI,
  fun x hx=>by rw[hb.block x.1 (dv (h.own x hx))];exact h.own x hx,h.nodup,h.apart,h.base,h.flat,h.oflat⟩
theorem bP.rangeT {s:ByteArray} (ht:P.underlying t=some .string) (hS:SL I O E w) (hx:ev ρ x=.string s)
  (h:∀b w',SL I ((b,.stringIter s 0)::O) E w'→bP P ops K rest (upd ρ d (.pointer (some ⟨b,0,none⟩))) w'):bP P ops K (Oper.mk (some d) (.range t x) ty pos af none::rest) ρ w:=by
 refine bP.step rfl ?_
 unfold eY
 have:(execOp (ev ρ) (Oper.mk (some d) (.range t x) ty pos af none)).run P w=.ok (.value (.pointer (some ⟨w.heap.size,0,none⟩))) (w.alloc (.stringIter s 0)):=by
  simp[execOp,Instr.range,hx,run_underlying ht]
 rw[this]
 exact h _ _ (hS.alloc _)
theorem fJ {s:ByteArray} {p b:Nat} (hb:w.heap[b]?=some (.stringIter s p)):(getObj b).run P w=.ok (.stringIter s p) w:=by
 unfold getObj;rw[Sem.run,hb];rfl
theorem k6 {s:ByteArray} {p b:Nat} (hb:w.heap[b]?=some (.stringIter s p)) (o:Obj):(setObj b o).run P w=.ok () { w with heap:=w.heap.setIfInBounds b o }:=by
 unfold setObj;rw[Sem.run,hb];rfl
theorem bP.nextT {s:ByteArray} {p b:Nat} (hS:SL I ((b,.stringIter s p)::O) E w) (hx:ev ρ x=.pointer (some ⟨b,0,none⟩)) (hp:p<s.size)
  (h:∀w',SL I ((b,.stringIter s (p+(Utf8.decode s p).2))::O) E w'→bP P ops K rest (upd ρ d (.tuple [.bool true,.int .i64 p,.int .i32 (Utf8.decode s p).1].toArray)) w'):bP P ops K (Oper.mk (some d) (.next x true) ty pos af none::rest) ρ w:=by
 have hb:=hS.own _ (.head _)
 simp only at hb
 refine bP.step rfl ?_
 unfold eY
 have:(execOp (ev ρ) (Oper.mk (some d) (.next x true) ty pos af none)).run P w=.ok (.value (.tuple [.bool true,.int .i64 p,.int .i32 (Utf8.decode s p).1].toArray)) { w with heap:=w.heap.setIfInBounds b (.stringIter s (p+(Utf8.decode s p).2)) }:=by
  simp[execOp,Instr.next,hx,fJ hb,k6 hb,Result.andThen,hp,goInt]
 rw[this]
 refine h _ (hS.turn rfl rfl rfl ?_ ?_)
 ·simp[dv hb]
 ·intro k hk;simp[Array.getElem?_setIfInBounds,Ne.symm hk]
theorem bP.nextTover {s:ByteArray} {p b:Nat} (hS:SL I ((b,.stringIter s p)::O) E w) (hx:ev ρ x=.pointer (some ⟨b,0,none⟩)) (hp:¬p<s.size)
  (h:bP P ops K rest (upd ρ d (.tuple [.bool false].toArray)) w):bP P ops K (Oper.mk (some d) (.next x true) ty pos af none::rest) ρ w:=by
 have hb:=hS.own _ (.head _)
 simp only at hb
 refine bP.step rfl ?_
 unfold eY
 have:(execOp (ev ρ) (Oper.mk (some d) (.next x true) ty pos af none)).run P w=.ok (.value (.tuple [.bool false].toArray)) w:=by
  simp[execOp,Instr.next,hx,fJ hb,Result.andThen,hp]
 rw[this]
 exact h
section
variable {n:Nat} {R:Value→World→Prop}
end
theorem mV {s:ByteArray} {p:Nat} {b:UInt8} (h:s.data[p]?=some b) (hb:b<128):Utf8.decode s p=(b.toNat,1):=by
 unfold Utf8.decode
 have h1:s.get! p=b:=by
  show s.data[p]! = b
  rw[getElem!_def,h]
 have h2:b.toNat<128:=hb
 simp[h1,h2]
theorem bP.guardU {dd:Option Nat} {op:Op} {j s:Nat} {b:Bool} (hs:(ops[j]?).bind (fun o:Oper=>o.dst)=some s) (hv:ρ s=undef)
  (k:bP P ops K rest (updO ρ dd undef) w):bP P ops K (Oper.mk dd op ty pos af (some (j,b))::rest) ρ w:=by
 unfold bP
 rw[if_neg (by simp only[dB,hs,hv];simp[undef])]
 exact k
theorem SL.more {w':World} (h:SL I O E w) (h1:w'.os=w.os) (h2:w'.output=w.output) (h3:w'.tape=w.tape) (h4:∀k,k<w.heap.size→w'.heap[k]?=w.heap[k]?):SL I O E w':=
 ⟨h1.trans h.os,h2.trans h.output,h3.trans h.tape,fun b o hI=>by rw[h4 b (dv (h.pers b o hI))];exact h.pers b o hI,
  fun x hx=>by rw[h4 x.1 (dv (h.own x hx))];exact h.own x hx,h.nodup,h.apart,h.base,h.flat,h.oflat⟩
end
end
section
inductive AV where
 |any
 |bool (b:Bool)
 |int (k:IntKind) (n:Int)
 |str (s:ByteArray)
 |agg (cs:List AV)
 |tup (vs:List AV)
 |fro (k:Nat) (rows:List (List AV))
 |own (id n:Nat)
 |po (id off:Nat)
 |os (id off n:Nat)
 |pf (cs:List AV)
 |raw (v:Value)
 |fn (f:FuncId) (first captured:List AV)
 |ifc (t:TypeId) (v:AV)
 |ext (p:aT→Value→Prop)
 deriving Inhabited
structure G where
 k:aT
 h:Nat→Option (Option Nat × Nat)
structure G.le (I J:G):Prop where
 k:I.k.le J.k
 h:∀i x,I.h i=some x→J.h i=some x
theorem G.le.refl (I:G):I.le I:=⟨aT.le.refl _,fun _ _ h=>h⟩
theorem G.le.trans {I J K:G} (h:I.le J) (k:J.le K):I.le K:=⟨h.k.trans k.k,fun i x hi=>k.h i x (h.h i x hi)⟩
def Bg (I:aT) (b i:Nat) (v:Value):Prop:=∃c T f,I b=some (.cells c T f)∧c[i]?=some v
theorem Bg.mono {I J:aT} (h:I.le J) {b i:Nat} {v:Value} (hk:Bg I b i v):Bg J b i v:=let ⟨c,T,f,h1,h2⟩:=hk;⟨c,T,f,h _ _ h1,h2⟩
theorem Bg.at_ {I:aT} {b i:Nat} {v:Value} (h:Bg I b i v) (O:List (Nat × Obj)):At I O b i v:=.inl h
def adr (b:Option Nat):Option Addr:=b.map fun b=>⟨b,0,none⟩
mutual
def bI (I:G):AV→Value→Prop
 |.any,_=>True
 |.bool b,v=>v=.bool b
 |.int k n,v=>v=.int k n
 |.str s,v=>v=.string s
 |.agg cs,v=>∃vs:List Value,v=.agg vs.toArray∧RepL I cs vs
 |.tup cs,v=>∃vs:List Value,v=.tuple vs.toArray∧RepL I cs vs
 |.fro k rows,v=>∃a n c,v=.slice a n c∧n=rows.length∧n≤c∧(a=none→c=0)∧RepR I k a 0 rows
 |.own id n,v=>∃b c,I.h id=some (b,c)∧v=.slice (adr b) n c
 |.po id off,v=>∃b c,I.h id=some (some b,c)∧v=.pointer (some ⟨b,off,none⟩)
 |.os id off n,v=>∃b c,I.h id=some (some b,c)∧v=.slice (some ⟨b,off,none⟩) n n
 |.pf cs,v=>∃b off vs,v=.pointer (some ⟨b,off,none⟩)∧RepL I cs vs∧∀(j:Nat) u,vs[j]?=some u→Bg I.k b (off+j) u
 |.raw w,v=>v=w
 |.fn f a c,v=>∃vs us:List Value,v=.func (.func f) vs.toArray us.toArray∧RepL I a vs∧RepL I c us
 |.ifc t x,v=>∃u,v=.iface t u∧bI I x u
 |.ext p,v=>v.oneCell'=true∧∀J:aT,I.k.le J→p J v
def RepL (I:G):List AV→List Value→Prop
 |[],vs=>vs=[]
 |x::xs,vs=>∃v us,vs=v::us∧bI I x v∧RepL I xs us
def RepR (I:G) (k:Nat) (a:Option Addr) (j:Nat):List (List AV)→Prop
 |[]=>True
 |r::rs=>(∃b off vs,a=some ⟨b,off,none⟩∧vs.length=k∧RepL I r vs∧∀(i:Nat) u,vs[i]?=some u→Bg I.k b (off+j*k+i) u)∧RepR I k a (j+1) rs
end
mutual
theorem bI.mono {I J:G} (h:I.le J):∀(x:AV) (v:Value),bI I x v→bI J x v
 |.any,_,_=>trivial
 |.bool _,_,e=>e
 |.int _ _,_,e=>e
 |.str _,_,e=>e
 |.agg cs,_,⟨vs,e,h1⟩=>⟨vs,e,RepL.mono h cs vs h1⟩
 |.tup cs,_,⟨vs,e,h1⟩=>⟨vs,e,RepL.mono h cs vs h1⟩
 |.fro k rows,_,⟨a,n,c,e,h1,h2,h3,h4⟩=>⟨a,n,c,e,h1,h2,h3,RepR.mono h k a 0 rows h4⟩
 |.own id _,_,⟨b,c,h1,e⟩=>⟨b,c,h.h _ _ h1,e⟩
 |.po id _,_,⟨b,c,h1,e⟩=>⟨b,c,h.h _ _ h1,e⟩
 |.os id _ _,_,⟨b,c,h1,e⟩=>⟨b,c,h.h _ _ h1,e⟩
 |.pf cs,_,⟨b,off,vs,e,h1,h2⟩=>⟨b,off,vs,e,RepL.mono h cs vs h1,fun j u hj=>(h2 j u hj).mono h.k⟩
 |.raw _,_,e=>e
 |.fn _ a c,_,⟨vs,us,e,h1,h2⟩=>⟨vs,us,e,RepL.mono h a vs h1,RepL.mono h c us h2⟩
 |.ifc _ x,_,⟨u,e,h1⟩=>⟨u,e,bI.mono h x u h1⟩
 |.ext _,_,⟨h1,h2⟩=>⟨h1,fun J hJ=>h2 J (h.k.trans hJ)⟩
theorem RepL.mono {I J:G} (h:I.le J):∀(x:List AV) (v:List Value),RepL I x v→RepL J x v
 |[],_,e=>e
 |x::xs,_,⟨v,us,e,h1,h2⟩=>⟨v,us,e,bI.mono h x v h1,RepL.mono h xs us h2⟩
theorem RepR.mono {I J:G} (h:I.le J) (k:Nat) (a:Option Addr) (j:Nat):∀(rows:List (List AV)),RepR I k a j rows→RepR J k a j rows
 |[],_=>trivial
 |r::rs,⟨⟨b,off,vs,e,h1,h2,h3⟩,h4⟩=>⟨⟨b,off,vs,e,h1,RepL.mono h r vs h2,fun i u hi=>(h3 i u hi).mono h.k⟩,RepR.mono h k a (j+1) rs h4⟩
end
theorem RepL.length {I:G}:∀{xs:List AV} {vs:List Value},RepL I xs vs→vs.length=xs.length
 |[],_,e=>by simp[RepL] at e;simp[e]
 |x::xs,_,⟨v,us,e,_,h2⟩=>by subst e;simp[RepL.length h2]
theorem RepL.get {I:G}:∀{xs:List AV} {vs:List Value},RepL I xs vs→∀{j:Nat} {x:AV},xs[j]?=some x→∃v,vs[j]?=some v∧bI I x v
 |[],_,_,j,x,hj=>by simp at hj
 |y::ys,_,⟨v,us,e,h1,h2⟩,j,x,hj=>by
  subst e
  cases j with
  |zero=>simp at hj;subst hj;exact ⟨v,rfl,h1⟩
  |succ j=>simp at hj;simpa using RepL.get h2 hj
theorem RepL.take {I:G}:∀{xs:List AV} {vs:List Value},RepL I xs vs→∀n,RepL I (xs.take n) (vs.take n)
 |[],_,e,n=>by simp[RepL] at e;simp[e,RepL]
 |y::ys,_,⟨v,us,e,h1,h2⟩,n=>by
  subst e
  cases n with
  |zero=>simp[RepL]
  |succ n=>exact ⟨v,us.take n,by simp,h1,RepL.take h2 n⟩
theorem RepL.drop {I:G}:∀{xs:List AV} {vs:List Value},RepL I xs vs→∀n,RepL I (xs.drop n) (vs.drop n)
 |[],_,e,n=>by simp[RepL] at e;simp[e,RepL]
 |y::ys,_,⟨v,us,e,h1,h2⟩,n=>by
  subst e
  cases n with
  |zero=>exact ⟨v,us,rfl,h1,h2⟩
  |succ n=>simpa using RepL.drop h2 n
theorem RepL.append {I:G}:∀{xs ys:List AV} {vs us:List Value},RepL I xs vs→RepL I ys us→RepL I (xs++ys) (vs++us)
 |[],_,_,_,e,h=>by simp[RepL] at e;simpa [e] using h
 |y::ys,_,_,_,⟨v,us,e,h1,h2⟩,h=>by subst e;exact ⟨v,_,rfl,h1,RepL.append h2 h⟩
theorem RepR.get {I:G} {k:Nat} {a:Option Addr}:∀{rows:List (List AV)} {j0:Nat},RepR I k a j0 rows→∀{j:Nat} {r:List AV},rows[j]?=some r →
  ∃b off vs,a=some ⟨b,off,none⟩∧vs.length=k∧RepL I r vs∧∀(i:Nat) u,vs[i]?=some u→Bg I.k b (off+(j0+j)*k+i) u
 |[],_,_,j,r,hj=>by simp at hj
 |r::rs,j0,⟨h1,h2⟩,j,r',hj=>by
  cases j with
  |zero=>simp at hj;subst hj;simpa using h1
  |succ j=>
   simp at hj
   have:=RepR.get h2 hj
   have e:j0+1+j=j0+(j+1):=by omega
   rwa [e] at this
theorem RepR.intro {I:G} {k:Nat} {a:Option Addr}:∀{rows:List (List AV)} {j0:Nat},(∀(j:Nat) (r:List AV),rows[j]?=some r →
  ∃b off vs,a=some ⟨b,off,none⟩∧vs.length=k∧RepL I r vs∧∀(i:Nat) u,vs[i]?=some u→Bg I.k b (off+(j0+j)*k+i) u)→RepR I k a j0 rows
 |[],_,_=>trivial
 |r::rs,j0,h=>⟨by simpa using h 0 r rfl,RepR.intro fun j r' hj=>by
   have:=h (j+1) r' (by simpa using hj)
   have e:j0+1+j=j0+(j+1):=by omega
   rwa [e]⟩
theorem RepL.one {I:G} {x:AV} {v:Value} (h:bI I x v):RepL I [x] [v]:=⟨v,[],rfl,h,rfl⟩
def AV.cell:AV→Bool
 |.any | .agg _ | .tup _=>false
 |.raw v=>v.oneCell'
 |_=>true
theorem AV.cell_rep {I:G} {x:AV} {v:Value} (h:bI I x v) (hc:x.cell=true):v.oneCell'=true:=by
 cases x<;>simp only[bI,AV.cell] at h hc
 all_goals first
  |(cases hc;done)
  |exact h.1
  |(subst h;first|rfl|exact hc)
  |(obtain ⟨_,_,_,e,_⟩:=h;subst e;rfl)
  |(obtain ⟨_,_,e,_⟩:=h;subst e;rfl)
  |(obtain ⟨_,_,_,e⟩:=h;subst e;rfl)
  |(obtain ⟨_,e,_⟩:=h;subst e;rfl)
abbrev aS:=Nat→AV
def eH (I:G) (e:aS) (ρ:cO):Prop:=∀t,bI I (e t) (ρ t)
def bC (e:aS) (d:Nat) (v:AV):aS:=fun t=>bif Nat.beq t d then v else e t
def ET (e:aS) (d:Option Nat) (v:AV):aS:=match d with|some d=>bC e d v|none=>e
def bb (e:aS):Operand→AV
 |.tmp t=>e t
 |.const (.bool b)=>.bool b
 |.const (.int k n)=>.int k n
 |.const (.string s)=>.str s
 |.const v=>.raw v
 |.global g=>.raw (.pointer (some ⟨g,0,none⟩))
 |.func f=>.fn f [] []
theorem eH.upd {I:G} {e:aS} {ρ:cO} (h:eH I e ρ) (d:Nat) {x:AV} {v:Value} (hx:bI I x v):eH I (bC e d x) (upd ρ d v):=fun t=>by
 unfold bC Go.Proofs.YtbanfokidalbaaaGreatDoor.upd
 cases Nat.beq t d
 ·exact h t
 ·exact hx
theorem eH.updO {I:G} {e:aS} {ρ:cO} (h:eH I e ρ) (d:Option Nat) {x:AV} {v:Value} (hx:bI I x v):eH I (ET e d x) (updO ρ d v):=by
 cases d with
 |none=>exact h
 |some d=>exact h.upd d hx
theorem eH.ev {I:G} {e:aS} {ρ:cO} (h:eH I e ρ):∀x,bI I (bb e x) (ev ρ x)
 |.tmp t=>h t
 |.const v=>by cases v<;>exact rfl
 |.global _=>rfl
 |.func _=>⟨[],[],rfl,rfl,rfl⟩
theorem eH.mono {I J:G} {e:aS} {ρ:cO} (hl:I.le J) (h:eH I e ρ):eH J e ρ:=fun t=>bI.mono hl _ _ (h t)
theorem eH.evs {I:G} {e:aS} {ρ:cO} (h:eH I e ρ):∀l:List Operand,RepL I (l.map (bb e)) (l.map (Go.Proofs.YtbanfokidalbaaaGreatDoor.ev ρ))
 |[]=>rfl
 |x::l=>⟨_,_,rfl,h.ev x,h.evs l⟩
inductive bQ where
 |cells (T:TypeId) (cs:List AV)
 |grow (k:Nat) (T:TypeId) (cs:List AV)
 |iter (s:ByteArray) (p:Nat)
 |heap (p:List (Nat × Obj)→Prop)
 |heapG (p:G→List (Nat × Obj)→Prop) (hp:∀I J L,G.le I J→p I L→p J L)
 deriving Inhabited
abbrev OL:=List (Nat × bQ)
def sC (I:G) (x:Nat × bQ) (L:List (Nat × Obj)):Prop:=
 match x.2 with
 |.cells T cs=>∃b c vs,I.h x.1=some (some b,c)∧RepL I cs vs∧(∀u∈vs,u.oneCell'=true)∧L=[(b,.cells vs.toArray T (0,0))]
 |.grow k T cs=>∃b c n vs,I.h x.1=some (b,c)∧RepL I cs vs∧(∀u∈vs,u.oneCell'=true)∧fT k T (adr b) n c vs L
 |.iter s p=>∃b c,I.h x.1=some (some b,c)∧L=[(b,.stringIter s p)]
 |.heap p=>p L
 |.heapG p _=>p I L
def cM (I:G):OL→List (Nat × Obj)→Prop
 |[],L=>L=[]
 |x::xs,L=>∃A B,L=A++B∧sC I x A∧cM I xs B
theorem sC.mono {I J:G} (h:I.le J) {x:Nat × bQ} {L:List (Nat × Obj)} (hx:sC I x L):sC J x L:=by
 obtain ⟨i,o⟩:=x
 cases o<;>simp only[sC] at *
 ·obtain ⟨b,c,vs,h1,h2,h3⟩:=hx;exact ⟨b,c,vs,h.h _ _ h1,RepL.mono h _ _ h2,h3⟩
 ·obtain ⟨b,c,n,vs,h1,h2,h3⟩:=hx;exact ⟨b,c,n,vs,h.h _ _ h1,RepL.mono h _ _ h2,h3⟩
 ·obtain ⟨b,c,h1,h2⟩:=hx;exact ⟨b,c,h.h _ _ h1,h2⟩
 ·exact hx
 ·rename_i p hp;exact hp _ _ _ h hx
theorem cM.mono {I J:G} (h:I.le J):∀{O:OL} {L:List (Nat × Obj)},cM I O L→cM J O L
 |[],_,e=>e
 |_::_,_,⟨A,B,e,h1,h2⟩=>⟨A,B,e,h1.mono h,cM.mono h h2⟩
theorem cM.append {I:G}:∀{O O':OL} {L:List (Nat × Obj)},cM I (O++O') L↔∃A B,L=A++B∧cM I O A∧cM I O' B
 |[],O',L=>⟨fun h=>⟨[],L,rfl,rfl,h⟩,fun ⟨A,B,e,h1,h2⟩=>by
   have h1:A=[]:=h1
   subst h1;subst e;exact h2⟩
 |x::O,O',L=>by
  constructor
  ·rintro ⟨A,B,e,h1,h2⟩
   obtain ⟨C,D,e2,h3,h4⟩:=cM.append.1 h2
   exact ⟨A++C,D,by simp[e,e2],⟨A,C,rfl,h1,h3⟩,h4⟩
  ·rintro ⟨A,B,e,⟨C,D,e2,h1,h2⟩,h3⟩
   exact ⟨C,D++B,by simp[e,e2],h1,cM.append.2 ⟨D,B,rfl,h2,h3⟩⟩
def g9 (I:G) (O:OL) (F:List (Nat × Obj)) (E w:World):Prop:=
 (∃top,∀i,top≤i→I.h i=none)∧∃L,cM I O L∧SL I.k (L++F) E w
inductive dw:OL→Nat→bQ→OL→Prop
 |head {i o O}:dw ((i,o)::O) i o O
 |tail {x O i o O'}:dw O i o O'→dw (x::O) i o (x::O')
inductive gr:OL→Nat→bQ→bQ→OL→Prop
 |head {i o o' O}:gr ((i,o)::O) i o o' ((i,o')::O)
 |tail {x O i o o' O'}:gr O i o o' O'→gr (x::O) i o o' (x::O')
theorem dw.rep {I:G} {O O':OL} {i:Nat} {o:bQ} (h:dw O i o O'):∀{L},cM I O L→∃A B,L.Perm (A++B)∧sC I (i,o) A∧cM I O' B:=by
 induction h with
 |head=>rintro L ⟨A,B,e,h1,h2⟩;exact ⟨A,B,e▸.refl _,h1,h2⟩
 |tail h ih=>
  rintro L ⟨A,B,e,h1,h2⟩
  obtain ⟨C,D,hp,h3,h4⟩:=ih h2
  refine ⟨C,A++D,?_,h3,⟨A,D,rfl,h1,h4⟩⟩
  subst e
  refine (hp.append_left A).trans ?_
  rw[←List.append_assoc,←List.append_assoc]
  exact List.perm_append_comm.append_right D
theorem gr.rep {I:G} {O O':OL} {i:Nat} {o o':bQ} (h:gr O i o o' O'):∀{L},cM I O L→∃A B,L.Perm (A++B)∧sC I (i,o) A ∧
  ∀{J:G} {A'},I.le J→sC J (i,o') A'→∃L',cM J O' L'∧L'.Perm (A'++B):=by
 induction h with
 |head=>rintro L ⟨A,B,e,h1,h2⟩;exact ⟨A,B,e▸.refl _,h1,fun {J A'} hl h=>⟨A'++B,⟨A',B,rfl,h,h2.mono hl⟩,.refl _⟩⟩
 |tail h ih=>
  rintro L ⟨A,B,e,h1,h2⟩
  obtain ⟨C,D,hp,h3,h4⟩:=ih h2
  refine ⟨C,A++D,?_,h3,fun {J A'} hl h=>?_⟩
  ·subst e
   refine (hp.append_left A).trans ?_
   rw[←List.append_assoc,←List.append_assoc]
   exact List.perm_append_comm.append_right D
  ·obtain ⟨L',h5,h6⟩:=h4 hl h
   refine ⟨A++L',⟨A,L',rfl,h1.mono hl,h5⟩,?_⟩
   refine (h6.append_left A).trans ?_
   rw[←List.append_assoc,←List.append_assoc]
   exact List.perm_append_comm.append_right D
inductive JB:OL→OL→Prop
 |refl (O):JB O O
 |keep {x O O'}:JB O O'→JB (x::O) (x::O')
 |drop {x O O'}:JB O O'→JB (x::O) O'
theorem cM.sub {I:G} {O O':OL} (h:JB O O'):∀{L},cM I O L→∃L',cM I O' L'∧L'.Sublist L:=by
 induction h with
 |refl=>intro L h;exact ⟨L,h,.refl _⟩
 |keep _ ih=>rintro L ⟨A,B,e,h1,h2⟩;obtain ⟨B',h3,h4⟩:=ih h2;exact ⟨A++B',⟨A,B',rfl,h1,h3⟩,e▸h4.append_left A⟩
 |drop _ ih=>rintro L ⟨A,B,e,h1,h2⟩;obtain ⟨B',h3,h4⟩:=ih h2;exact ⟨B',h3,e▸h4.trans (List.sublist_append_right A B)⟩
theorem g9.sub {I:G} {O O':OL} {F:List (Nat × Obj)} {E w:World} (h:JB O O') (hs:g9 I O F E w):g9 I O' F E w:=by
 obtain ⟨ht,L,hL,hS⟩:=hs
 obtain ⟨L',h1,h2⟩:=hL.sub h
 exact ⟨ht,L',h1,hS.sub (h2.append_right F)⟩
def Left (O O':OL):Prop:=∃O'',JB O O''∧O''=O'
theorem Left.sla {I:G} {O O':OL} {F:List (Nat × Obj)} {E w:World} (h:Left O O') (hs:g9 I O F E w):g9 I O' F E w:=by
 obtain ⟨_,h1,rfl⟩:=h;exact hs.sub h1
end
section
def mW (I:G) (F:List (Nat × Obj)) (E:World) (Q:Exit→aS→OL→Prop):Exit→cO→World→Prop:=fun e ρ w=>∃J env O,I.le J∧eH J env ρ∧g9 J O F E w∧Q e env O
def fX (I:G) (F:List (Nat × Obj)) (E:World) (K:aS→OL→Prop):cO→World→Prop:=fun ρ w=>∃J env O,I.le J∧eH J env ρ∧g9 J O F E w∧K env O
theorem mW.up {I J:G} {F:List (Nat × Obj)} {E:World} {Q:Exit→aS→OL→Prop} (h:I.le J) {e:Exit} {ρ:cO} {w:World}:mW J F E Q e ρ w→mW I F E Q e ρ w:=
 fun ⟨K,env,O,h1,h2⟩=>⟨K,env,O,h.trans h1,h2⟩
theorem fX.up {I J:G} {F:List (Nat × Obj)} {E:World} {Q:aS→OL→Prop} (h:I.le J) {ρ:cO} {w:World}:fX J F E Q ρ w→fX I F E Q ρ w:=
 fun ⟨K,env,O,h1,h2⟩=>⟨K,env,O,h.trans h1,h2⟩
def dQ (P:Program) (E:World) (n:Nat) (c:Code) (Q:Exit→aS→OL→Prop) (env:aS) (O:OL):Prop:=
 ∀I F ρ w,eH I env ρ→g9 I O F E w→WP P n c (mW I F E Q) ρ w
def pS (K:aS→OL→Prop) (Q:Exit→aS→OL→Prop):Exit→aS→OL→Prop:=fun e env O=>
 match e with
 |.normal=>K env O
 |e=>Q e env O
def ur (id:Nat) (Q:Exit→aS→OL→Prop):Exit→aS→OL→Prop:=fun e env O=>
 match e with
 |.exit i=>if i=id then Q .normal env O else Q (.exit i) env O
 |e=>Q e env O
section
variable {E:World} {P:Program} {n:Nat} {Q:Exit→aS→OL→Prop} {env:aS} {O:OL}
theorem br {K:aS→OL→Prop} (h:Q .ret env O):pS K Q .ret env O:=h
theorem aZ {id:Nat} (h:Q .ret env O):ur id Q .ret env O:=h
theorem dQ.mono {c:Code} {Q':Exit→aS→OL→Prop} (h:dQ P E n c Q env O) (hq:∀e env O,Q e env O→Q' e env O):dQ P E n c Q' env O:=
 fun I F ρ w h1 h2=>(h I F ρ w h1 h2).mono fun _ _ _ ⟨J,env,O,a,b,c,d⟩=>⟨J,env,O,a,b,c,hq _ _ _ d⟩
theorem dQ.skip (h:Q .normal env O):dQ P E n .skip Q env O:=fun I _ _ _ h1 h2=>WP.skip ⟨I,env,O,.refl _,h1,h2,h⟩
theorem dQ.ret (h:Q .ret env O):dQ P E n .ret Q env O:=fun I _ _ _ h1 h2=>WP.ret ⟨I,env,O,.refl _,h1,h2,h⟩
theorem dQ.exit {id:Nat} (h:Q (.exit id) env O):dQ P E n (.exit id) Q env O:=fun I _ _ _ h1 h2=>WP.exit ⟨I,env,O,.refl _,h1,h2,h⟩
theorem dQ.seq {x y:Code} (h:dQ P E n x (pS (dQ P E n y Q) Q) env O):dQ P E n (.seq x y) Q env O:=fun I F ρ w h1 h2=>
 WP.seq ((h I F ρ w h1 h2).mono fun e ρ w ⟨J,env,O,a,b,c,d⟩=>by
  cases e<;>first|exact (d J F ρ w b c).mono (fun _ _ _=>mW.up a)|exact ⟨J,env,O,a,b,c,d⟩)
theorem dQ.block {id:Nat} {c:Code} (h:dQ P E n c (ur id Q) env O):dQ P E n (.block id c) Q env O:=fun I F ρ w h1 h2=>
 WP.block ((h I F ρ w h1 h2).mono fun e ρ w ⟨J,env,O,a,b,c,d⟩=>by
  cases e<;>try exact ⟨J,env,O,a,b,c,d⟩
  rename_i i
  simp only[ur] at d
  simp only[zB]
  split<;>rename_i hi
  ·rw[if_pos hi] at d;exact ⟨J,env,O,a,b,c,d⟩
  ·rw[if_neg hi] at d;exact ⟨J,env,O,a,b,c,d⟩)
theorem dQ.cond {c:Operand} {x y:Code} {t:Bool} (hc:bb env c=.bool t) (h:t=true→dQ P E n x Q env O) (h':t=false→dQ P E n y Q env O):dQ P E n (.cond c x y) Q env O:=fun I F ρ w h1 h2=>
 WP.condB (t:=t) (by have:=h1.ev c;rw[hc] at this;exact this) (fun e=>h e I F ρ w h1 h2) (fun e=>h' e I F ρ w h1 h2)
theorem dQ.condP {c:Operand} {x y:Code} {p:Prop} [Decidable p] (hc:bb env c=.bool (decide p)) (h:p→dQ P E n x Q env O) (h':¬p→dQ P E n y Q env O):dQ P E n (.cond c x y) Q env O:=
 dQ.cond hc (fun e=>h (of_decide_eq_true e)) (fun e=>h' (of_decide_eq_false e))
theorem dQ.condT {c:Operand} {x y:Code} {t:Bool} (hc:bb env c=.bool t) (ht:t=true) (h:dQ P E n x Q env O):dQ P E n (.cond c x y) Q env O:=dQ.cond hc (fun _=>h) (fun e=>by rw[ht] at e;cases e)
theorem dQ.condF {c:Operand} {x y:Code} {t:Bool} (hc:bb env c=.bool t) (ht:t=false) (h:dQ P E n y Q env O):dQ P E n (.cond c x y) Q env O:=dQ.cond hc (fun e=>by rw[ht] at e;cases e) (fun _=>h)
theorem dQ.weak {c:Code} {env':aS} (h:dQ P E n c Q env' O) (hw:∀t,env' t=.any∨env' t=env t):dQ P E n c Q env O:=fun I F ρ w h1 h2=>
 h I F ρ w (fun t=>by
  rcases hw t with e|e
  ·rw[e];trivial
  ·rw[e];exact h1 t) h2
def keep (env:aS) (l:List Nat):aS:=fun t=>bif l.any (Nat.beq t) then env t else .any
def put (env:aS):List (Nat × AV)→aS
 |[]=>env
 |(d,v)::l=>bC (put env l) d v
def tg (env:aS):List (Nat × AV)→Prop
 |[]=>True
 |(d,v)::l=>env d=v∧tg env l
def kh (env env':aS):List Nat→Prop
 |[]=>True
 |d::l=>env' d=env d∧kh env env' l
theorem vG {env env':aS} {f:List Nat} {l:List (Nat × AV)} (h1:kh env env' f) (h2:tg env' l):∀t,put (Go.Proofs.YtbanfokidalbaaaGreatDoor.keep env f) l t=.any∨put (Go.Proofs.YtbanfokidalbaaaGreatDoor.keep env f) l t=env' t:=by
 intro t
 induction l with
 |nil=>
  simp only[put,Go.Proofs.YtbanfokidalbaaaGreatDoor.keep]
  cases hb:f.any (Nat.beq t) with
  |false=>simp
  |true=>
   right
   simp only[cond_true]
   clear h2
   induction f with
   |nil=>simp at hb
   |cons d f ih=>
    simp only[List.any_cons,Bool.or_eq_true] at hb
    rcases hb with hb|hb
    ·have:t=d:=Nat.eq_of_beq_eq_true hb
     subst this;exact h1.1.symm
    ·exact ih h1.2 hb
 |cons x l ih=>
  obtain ⟨d,v⟩:=x
  simp only[put,bC]
  cases hb:Nat.beq t d with
  |false=>simpa using ih h2.2
  |true=>
   have:t=d:=Nat.eq_of_beq_eq_true hb
   subst this;right;exact h2.1.symm
theorem dQ.cut {c:Code} (K:aS→OL→Prop) (h:dQ P E n c (pS K Q) env O) (hj:∀env O,K env O→Q .normal env O):dQ P E n c Q env O:=
 h.mono fun e ρ w hq=>by cases e<;>first|exact hj _ _ hq|exact hq
theorem dQ.loop0 {γ:Type} {c:Code} (Inv:γ→aS→OL→Prop) (μ:γ→Nat) (g₀:γ) (h₀:Inv g₀ env O)
  (round:∀g env O,Inv g env O→dQ P E n c (pS (fun env' O'=>∃g',Inv g' env' O'∧μ g'<μ g) Q) env O):dQ P E n (.loop c) Q env O:=fun I F ρ w h1 h2=>
 WP.loop (γ:=γ) (fun g ρ w=>∃J env O,I.le J∧eH J env ρ∧g9 J O F E w∧Inv g env O) μ g₀ ⟨I,env,O,.refl _,h1,h2,h₀⟩
  (fun g ρ w ⟨J,env,O,hl,h3,h4,h5⟩=>(round g env O h5 J F ρ w h3 h4).mono fun e ρ' w' ⟨K,env',O',a,b,c,d⟩=>by
   cases e with
   |normal=>obtain ⟨g',d1,d2⟩:=d;exact ⟨g',⟨K,env',O',hl.trans a,b,c,d1⟩,d2⟩
   |exit _=>exact ⟨K,env',O',hl.trans a,b,c,d⟩
   |goto _=>exact ⟨K,env',O',hl.trans a,b,c,d⟩
   |ret=>exact ⟨K,env',O',hl.trans a,b,c,d⟩
   |panic _=>exact ⟨K,env',O',hl.trans a,b,c,d⟩
   |outgrown=>exact ⟨K,env',O',hl.trans a,b,c,d⟩)
theorem dQ.left {c:Code} {O':OL} (hl:Left O O') (h:dQ P E n c Q env O'):dQ P E n c Q env O:=fun I F ρ w h1 h2=>h I F ρ w h1 (hl.sla h2)
theorem kh.refl (env:aS):∀f,kh env env f
 |[]=>trivial
 |_::f=>⟨rfl,kh.refl env f⟩
theorem dQ.loop {γ:Type} {c:Code} (f:List Nat) (S:γ→List (Nat × AV)) (M:γ→OL) (p:γ→Prop) (μ:γ→Nat) (g₀:γ) (h₀:tg env (S g₀)) (hO:Left O (M g₀)) (hp:p g₀)
  (round:∀g,p g→dQ P E n c (pS (fun env' O'=>∃g',kh env env' f∧tg env' (S g')∧Left O' (M g')∧p g'∧μ g'<μ g) Q) (put (Go.Proofs.YtbanfokidalbaaaGreatDoor.keep env f) (S g)) (M g)):dQ P E n (.loop c) Q env O:=
 dQ.loop0 (fun g env' O'=>kh env env' f∧tg env' (S g)∧Left O' (M g)∧p g) μ g₀ ⟨kh.refl env f,h₀,hO,hp⟩
  (fun g env' O' ⟨h1,h2,h3,h4⟩=>by
   refine (((round g h4).weak (vG h1 h2)).left h3).mono fun e env O hq=>?_
   cases e<;>try exact hq
   obtain ⟨g',a,b,c,d,e⟩:=hq
   exact ⟨g',⟨a,b,c,d⟩,e⟩)
theorem dQ.cutS {γ:Type} {c d:Code} {Q':Exit→aS→OL→Prop} (f:List Nat) (S:γ→List (Nat × AV)) (M:γ→OL) (p:γ→Prop) (h:dQ P E n c (pS (fun env' O'=>∃g,kh env env' f∧tg env' (S g)∧Left O' (M g)∧p g) Q) env O)
  (hQ:∀env O,dQ P E n d Q' env O→Q .normal env O) (hj:∀g,p g→dQ P E n d Q' (put (Go.Proofs.YtbanfokidalbaaaGreatDoor.keep env f) (S g)) (M g)):dQ P E n c Q env O:=
 dQ.cut _ h fun env' O' ⟨g,h1,h2,h3,h4⟩=>hQ _ _ (((hj g h4).weak (vG h1 h2)).left h3)
end
def az (P:Program) (E:World) (ops:Array Oper) (K:aS→OL→Prop) (l:List Oper) (env:aS) (O:OL):Prop:=
 ∀I F ρ w,eH I env ρ→g9 I O F E w→bP P ops (fX I F E K) l ρ w
def Gv (P:Program) (env:aS) (O:OL) (o:Oper) (x:AV):Prop:=
 ∀(I:G) L E ρ,eH I env ρ→cM I O L→∃v,bI I x v∧∀w J L',I.k.le J→SL J L' E w→(∀y∈L,y∈L')→(execOp (ev ρ) o).run P w=.ok (.value v) w
section
variable {E:World} {P:Program} {n:Nat} {ops:Array Oper} {K:aS→OL→Prop} {env:aS} {O:OL} {rest:List Oper}
variable {d ty:Nat} {op:Op} {pos:String} {af:Array Edge}
theorem dQ.region {Q:Exit→aS→OL→Prop} {id:Nat} {l:List Oper} (hd:gJ n l=true) (h:az P E l.toArray (Q .normal) l env O):dQ P E n (.region id l.toArray false) Q env O:=fun I F ρ w h1 h2=>
 WP.region hd (h I F ρ w h1 h2)
theorem az.nil (h:K env O):az P E ops K [] env O:=fun I _ _ _ h1 h2=>bP.nil ⟨I,env,O,.refl _,h1,h2,h⟩
theorem az.val {x:AV} (h:Gv P env O (Oper.mk (some d) op ty pos af none) x) (k:az P E ops K rest (bC env d x) O):az P E ops K (Oper.mk (some d) op ty pos af none::rest) env O:=fun I F ρ w h1 h2=>by
 obtain ⟨L,hL,hS⟩:=h2.2
 obtain ⟨v,hv,hr⟩:=h I L E ρ h1 hL
 exact bP.val (hr w I.k (L++F) (.refl _) hS fun _ h=>List.mem_append_left _ h) (k I F _ w (h1.upd d hv) h2)
theorem az.guardT {dd:Option Nat} {j s:Nat} {b t:Bool} (hs:(ops[j]?).bind (fun o:Oper=>o.dst)=some s) (hv:env s=.bool t) (ht:t=b)
  (k:az P E ops K (Oper.mk dd op ty pos af none::rest) env O):az P E ops K (Oper.mk dd op ty pos af (some (j,b))::rest) env O:=fun I F ρ w h1 h2=>
 bP.guardT hs (by have:=h1 s;rw[hv] at this;exact this) ht (k I F ρ w h1 h2)
theorem az.guardF {dd:Option Nat} {j s:Nat} {b t:Bool} (hs:(ops[j]?).bind (fun o:Oper=>o.dst)=some s) (hv:env s=.bool t) (ht:t=!b)
  (k:az P E ops K rest (ET env dd (.raw undef)) O):az P E ops K (Oper.mk dd op ty pos af (some (j,b))::rest) env O:=fun I F ρ w h1 h2=>
 bP.guardF hs (by have:=h1 s;rw[hv] at this;exact this) ht (k I F _ w (h1.updO dd rfl) h2)
theorem az.guardFd {j s:Nat} {b t:Bool} (hs:(ops[j]?).bind (fun o:Oper=>o.dst)=some s) (hv:env s=.bool t) (ht:t=!b)
  (k:az P E ops K rest (bC env d (.raw undef)) O):az P E ops K (Oper.mk (some d) op ty pos af (some (j,b))::rest) env O:=az.guardF hs hv ht k
theorem az.guardU {dd:Option Nat} {j s:Nat} {b:Bool} (hs:(ops[j]?).bind (fun o:Oper=>o.dst)=some s) (hv:env s=.raw undef)
  (k:az P E ops K rest (ET env dd (.raw undef)) O):az P E ops K (Oper.mk dd op ty pos af (some (j,b))::rest) env O:=fun I F ρ w h1 h2=>
 bP.guardU hs (by have:=h1 s;rw[hv] at this;exact this) (k I F _ w (h1.updO dd rfl) h2)
theorem az.guardUd {j s:Nat} {b:Bool} (hs:(ops[j]?).bind (fun o:Oper=>o.dst)=some s) (hv:env s=.raw undef)
  (k:az P E ops K rest (bC env d (.raw undef)) O):az P E ops K (Oper.mk (some d) op ty pos af (some (j,b))::rest) env O:=az.guardU hs hv k
theorem az.case {s:Nat} {t:Bool} {l:List Oper} (hv:env s=.bool t) (h1:t=true→az P E ops K l env O) (h2:t=false→az P E ops K l env O):az P E ops K l env O:=by
 have _:=hv
 cases t
 ·exact h2 rfl
 ·exact h1 rfl
end
end
section
section
variable {E:World} {P:Program} {env:aS} {O:OL} {d ty:Nat} {pos:String} {af:Array Edge} {x y z:Operand} {t u e:TypeId}
theorem Gv.ofEv {op:Op} {v:AV} (h:∀(I:G) ρ,eH I env ρ→∃u,bI I v u∧∀w,(execOp (ev ρ) (Oper.mk (some d) op ty pos af none)).run P w=.ok (.value u) w):Gv P env O (Oper.mk (some d) op ty pos af none) v:=
 fun I _ _ ρ h1 _=>let ⟨u,h2,h3⟩:=h I ρ h1;⟨u,h2,fun w _ _ _ _ _=>h3 w⟩
theorem Gv.move {v:AV} (hx:bb env x=v):Gv P env O (Oper.mk (some d) (.move x) ty pos af none) v:=Gv.ofEv fun I ρ h=>⟨ev ρ x,hx▸h.ev x,fun _=>rfl⟩
theorem Gv.assign {v:AV} (hx:bb env x=v):Gv P env O (Oper.mk (some d) (.assign x) ty pos af none) v:=Gv.ofEv fun I ρ h=>⟨ev ρ x,hx▸h.ev x,fun _=>rfl⟩
theorem J8 {I:G} {ρ:cO} {b:Bool} (h:eH I env ρ) (hx:bb env x=.bool b):ev ρ x=.bool b:=by have:=h.ev x;rw[hx] at this;exact this
theorem fY {I:G} {ρ:cO} {k:IntKind} {n:Int} (h:eH I env ρ) (hx:bb env x=.int k n):ev ρ x=.int k n:=by have:=h.ev x;rw[hx] at this;exact this
theorem HO {I:G} {ρ:cO} {s:ByteArray} (h:eH I env ρ) (hx:bb env x=.str s):ev ρ x=.string s:=by have:=h.ev x;rw[hx] at this;exact this
theorem gy {I:G} {ρ:cO} {v:Value} (h:eH I env ρ) (hx:bb env x=.raw v):ev ρ x=v:=by have:=h.ev x;rw[hx] at this;exact this
theorem Gv.pickT {b:Bool} {v:AV} (hc:bb env x=.bool b) (hb:b=true) (hy:bb env y=v):Gv P env O (Oper.mk (some d) (.pick x y z) ty pos af none) v:=
 Gv.ofEv fun I ρ h=>⟨ev ρ y,hy▸h.ev y,fun _=>Run.pickT (J8 h hc) hb rfl⟩
theorem Gv.pickF {b:Bool} {v:AV} (hc:bb env x=.bool b) (hb:b=false) (hy:bb env z=v):Gv P env O (Oper.mk (some d) (.pick x y z) ty pos af none) v:=
 Gv.ofEv fun I ρ h=>⟨ev ρ z,hy▸h.ev z,fun _=>Run.pickF (J8 h hc) hb rfl⟩
theorem Gv.lss {k:IntKind} {a b:Int} (hx:bb env x=.int k a) (hy:bb env y=.int k b):Gv P env O (Oper.mk (some d) (.binOp .lss t x y u) ty pos af none) (.bool (decide (a<b))):=Gv.ofEv fun I ρ h=>⟨_,rfl,fun _=>Run.lss (fY h hx) (fY h hy)⟩
theorem Gv.leq {k:IntKind} {a b:Int} (hx:bb env x=.int k a) (hy:bb env y=.int k b):Gv P env O (Oper.mk (some d) (.binOp .leq t x y u) ty pos af none) (.bool (decide (a≤b))):=Gv.ofEv fun I ρ h=>⟨_,rfl,fun _=>Run.leq (fY h hx) (fY h hy)⟩
theorem Gv.gtr {k:IntKind} {a b:Int} (hx:bb env x=.int k a) (hy:bb env y=.int k b):Gv P env O (Oper.mk (some d) (.binOp .gtr t x y u) ty pos af none) (.bool (decide (b<a))):=Gv.ofEv fun I ρ h=>⟨_,rfl,fun _=>Run.gtr (fY h hx) (fY h hy)⟩
theorem Gv.geq {k:IntKind} {a b:Int} (hx:bb env x=.int k a) (hy:bb env y=.int k b):Gv P env O (Oper.mk (some d) (.binOp .geq t x y u) ty pos af none) (.bool (decide (b≤a))):=Gv.ofEv fun I ρ h=>⟨_,rfl,fun _=>Run.geq (fY h hx) (fY h hy)⟩
theorem Gv.eqlI {k:IntKind} {a b:Int} (hx:bb env x=.int k a) (hy:bb env y=.int k b):Gv P env O (Oper.mk (some d) (.binOp .eql t x y u) ty pos af none) (.bool (decide (a=b))):=Gv.ofEv fun I ρ h=>⟨_,rfl,fun _=>Run.eqlI (fY h hx) (fY h hy)⟩
theorem Gv.neqI {k:IntKind} {a b:Int} (hx:bb env x=.int k a) (hy:bb env y=.int k b):Gv P env O (Oper.mk (some d) (.binOp .neq t x y u) ty pos af none) (.bool (!decide (a=b))):=Gv.ofEv fun I ρ h=>⟨_,rfl,fun _=>by rw[←decide_not];exact Run.neqI (fY h hx) (fY h hy)⟩
theorem Gv.add {a b:Int} (hx:bb env x=.int .i64 a) (hy:bb env y=.int .i64 b) (hr:nN (a+b)):Gv P env O (Oper.mk (some d) (.binOp .add t x y u) ty pos af none) (.int .i64 (a+b)):=Gv.ofEv fun I ρ h=>⟨_,rfl,fun _=>Run.add (fY h hx) (fY h hy) hr⟩
theorem Gv.sub {a b:Int} (hx:bb env x=.int .i64 a) (hy:bb env y=.int .i64 b) (hr:nN (a - b)):Gv P env O (Oper.mk (some d) (.binOp .sub t x y u) ty pos af none) (.int .i64 (a - b)):=Gv.ofEv fun I ρ h=>⟨_,rfl,fun _=>Run.sub (fY h hx) (fY h hy) hr⟩
theorem Gv.mul {a b:Int} (hx:bb env x=.int .i64 a) (hy:bb env y=.int .i64 b) (hr:nN (a*b)):Gv P env O (Oper.mk (some d) (.binOp .mul t x y u) ty pos af none) (.int .i64 (a*b)):=Gv.ofEv fun I ρ h=>⟨_,rfl,fun _=>Run.mul (fY h hx) (fY h hy) hr⟩
theorem Gv.addW {k:IntKind} {a b:Int} (hx:bb env x=.int k a) (hy:bb env y=.int k b):Gv P env O (Oper.mk (some d) (.binOp .add t x y u) ty pos af none) (.int k (k.wrap (a+b))):=Gv.ofEv fun I ρ h=>⟨_,rfl,fun _=>Run.addW (fY h hx) (fY h hy)⟩
theorem Gv.subW {k:IntKind} {a b:Int} (hx:bb env x=.int k a) (hy:bb env y=.int k b):Gv P env O (Oper.mk (some d) (.binOp .sub t x y u) ty pos af none) (.int k (k.wrap (a - b))):=Gv.ofEv fun I ρ h=>⟨_,rfl,fun _=>Run.subW (fY h hx) (fY h hy)⟩
theorem Gv.mulW {k:IntKind} {a b:Int} (hx:bb env x=.int k a) (hy:bb env y=.int k b):Gv P env O (Oper.mk (some d) (.binOp .mul t x y u) ty pos af none) (.int k (k.wrap (a*b))):=Gv.ofEv fun I ρ h=>⟨_,rfl,fun _=>Run.mulW (fY h hx) (fY h hy)⟩
theorem Gv.not {b:Bool} (hx:bb env x=.bool b):Gv P env O (Oper.mk (some d) (.unOp .not t x) ty pos af none) (.bool (!b)):=Gv.ofEv fun I ρ h=>⟨_,rfl,fun _=>Run.not (J8 h hx)⟩
theorem Gv.eqlT {a b:ByteArray} (hx:bb env x=.str a) (hy:bb env y=.str b):Gv P env O (Oper.mk (some d) (.binOp .eql t x y u) ty pos af none) (.bool (decide (a=b))):=Gv.ofEv fun I ρ h=>⟨_,rfl,fun _=>Run.eqlT (HO h hx) (HO h hy)⟩
theorem Gv.neqT {a b:ByteArray} (hx:bb env x=.str a) (hy:bb env y=.str b):Gv P env O (Oper.mk (some d) (.binOp .neq t x y u) ty pos af none) (.bool (!decide (a=b))):=Gv.ofEv fun I ρ h=>⟨_,rfl,fun _=>Run.neqT (HO h hx) (HO h hy)⟩
theorem Gv.eqlB {a b:Bool} (ht:P.underlying t=some .bool) (hx:bb env x=.bool a) (hy:bb env y=.bool b):Gv P env O (Oper.mk (some d) (.binOp .eql t x y u) ty pos af none) (.bool (a == b)):=Gv.ofEv fun I ρ h=>⟨_,rfl,fun _=>Run.eqlB ht (J8 h hx) (J8 h hy)⟩
theorem Gv.neqB {a b:Bool} (ht:P.underlying t=some .bool) (hx:bb env x=.bool a) (hy:bb env y=.bool b):Gv P env O (Oper.mk (some d) (.binOp .neq t x y u) ty pos af none) (.bool (!(a == b))):=Gv.ofEv fun I ρ h=>⟨_,rfl,fun _=>Run.neqB ht (J8 h hx) (J8 h hy)⟩
theorem Gv.extract {vs:List AV} {i:Nat} {v:AV} (hx:bb env x=.tup vs) (hv:vs[i]?=some v):Gv P env O (Oper.mk (some d) (.extract x i) ty pos af none) v:=Gv.ofEv fun I ρ h=>by
 have:=h.ev x
 rw[hx] at this
 obtain ⟨us,e,hr⟩:=this
 obtain ⟨u,hu,hru⟩:=hr.get hv
 exact ⟨u,hru,fun _=>Run.extract e (by simpa using hu)⟩
theorem Gv.nilCheckF {cs:List AV} (hx:bb env x=.pf cs):Gv P env O (Oper.mk (some d) (.nilCheck x) ty pos af none) (.pf cs):=Gv.ofEv fun I ρ h=>by
 have h2:=h.ev x
 rw[hx] at h2
 obtain ⟨b,off,vs,e,h3⟩:=id h2
 rw[e] at h2
 exact ⟨_,h2,fun _=>Run.nilCheck e⟩
theorem Gv.nilCheckO {i off:Nat} (hx:bb env x=.po i off):Gv P env O (Oper.mk (some d) (.nilCheck x) ty pos af none) (.po i off):=Gv.ofEv fun I ρ h=>by
 have h2:=h.ev x
 rw[hx] at h2
 obtain ⟨b,c,e1,e⟩:=id h2
 rw[e] at h2
 exact ⟨_,h2,fun _=>Run.nilCheck e⟩
theorem Gv.lenF {k:Nat} {rows:List (List AV)} (ht:P.underlying t=some (.slice e)) (hx:bb env x=.fro k rows):Gv P env O (Oper.mk (some d) (.call { callee:=.builtin .len,args:=#[x],argTypes:=#[t] }) ty pos af none) (.int .i64 rows.length):=Gv.ofEv fun I ρ h=>by
 have h2:=h.ev x
 rw[hx] at h2
 obtain ⟨a,n,c,e,rfl,_⟩:=h2
 exact ⟨_,rfl,fun _=>Run.lenS ht e⟩
theorem Gv.lenM {α:Type} {enc:α→List AV} {xs:List α} {k:Nat} (ht:P.underlying t=some (.slice e)) (hx:bb env x=.fro k (xs.map enc)):Gv P env O (Oper.mk (some d) (.call { callee:=.builtin .len,args:=#[x],argTypes:=#[t] }) ty pos af none) (.int .i64 xs.length):=by
 have:=Gv.lenF (d:=d) (ty:=ty) (pos:=pos) (af:=af) (O:=O) ht hx
 rwa [List.length_map] at this
theorem Gv.lenO {i n:Nat} (ht:P.underlying t=some (.slice e)) (hx:bb env x=.own i n):Gv P env O (Oper.mk (some d) (.call { callee:=.builtin .len,args:=#[x],argTypes:=#[t] }) ty pos af none) (.int .i64 n):=Gv.ofEv fun I ρ h=>by
 have h2:=h.ev x
 rw[hx] at h2
 obtain ⟨b,c,_,e⟩:=h2
 exact ⟨_,rfl,fun _=>Run.lenS ht e⟩
theorem Gv.lenT {s:ByteArray} (ht:P.underlying t=some .string) (hx:bb env x=.str s):Gv P env O (Oper.mk (some d) (.call { callee:=.builtin .len,args:=#[x],argTypes:=#[t] }) ty pos af none) (.int .i64 s.size):=Gv.ofEv fun I ρ h=>⟨_,rfl,fun _=>Run.lenT ht (HO h hx)⟩
theorem Gv.load1F {c:AV} {cs:List AV} (ha:∀w,(isAgg t).run P w=.ok false w) (hx:bb env x=.pf (c::cs)):Gv P env O (Oper.mk (some d) (.load t x) ty pos af none) c:=fun I L E ρ h1 _=>by
 have h2:=h1.ev x
 rw[hx] at h2
 obtain ⟨b,off,vs,e,⟨v,us,e2,h3,h4⟩,h5⟩:=h2
 subst e2
 exact ⟨v,h3,fun w J L' hl hS _=>Run.load1 ha hS e ((h5 0 v rfl).mono hl |>.at_ _)⟩
theorem Gv.loadAF {n:Nat} {cs l:List AV} (ha:∀w,(isAgg t).run P w=.ok true w) (hs:∀w,(sizeOf t).run P w=.ok n w) (hx:bb env x=.pf cs) (hn:Nat.ble n cs.length=true) (hl:cs.take n=l):Gv P env O (Oper.mk (some d) (.load t x) ty pos af none) (.agg l):=fun I L E ρ h1 _=>by
 have h2:=h1.ev x
 rw[hx] at h2
 obtain ⟨b,off,vs,e,h3,h5⟩:=h2
 refine ⟨.agg (vs.take n).toArray,⟨_,rfl,hl▸h3.take n⟩,fun w J L' hk hS _=>Run.loadA ha ?_ hS e ?_⟩
 ·have hn:=Nat.le_of_ble_eq_true hn
  have:=h3.length
  rw[List.length_take,Nat.min_eq_left (by omega)];exact hs
 ·intro j v hj
  rw[List.getElem?_take] at hj
  split at hj
  ·exact ((h5 j v hj).mono hk).at_ _
  ·cases hj
theorem Gv.loadWF {n:Nat} {cs:List AV} (ha:∀w,(isAgg t).run P w=.ok true w) (hs:∀w,(sizeOf t).run P w=.ok n w) (hx:bb env x=.pf cs) (hn:cs.length=n):Gv P env O (Oper.mk (some d) (.load t x) ty pos af none) (.agg cs):=
 Gv.loadAF ha hs hx (by rw[hn];simp) (by rw[←hn];simp)
theorem Gv.fieldF {fs:Array Field} {f:Field} {i sz:Nat} {cs cs':List AV} (ht:P.underlying t=some (.struct fs)) (hf:fs[i]?=some f) (hs:∀w,(sizeOf f.type).run P w=.ok sz w) (hz:sz≠0)
  (hx:bb env x=.pf cs) (hr:cs.drop f.offset=cs'):Gv P env O (Oper.mk (some d) (.fieldAddr t x i) ty pos af none) (.pf cs'):=fun I L E ρ h1 _=>by
 have h2:=h1.ev x
 rw[hx] at h2
 obtain ⟨b,off,vs,e,h3,h5⟩:=h2
 refine ⟨.pointer (some ⟨b,off+f.offset,none⟩),⟨b,_,vs.drop f.offset,rfl,hr▸h3.drop _,fun j u hj=>?_⟩,fun w J L' _ _ _=>Run.field ht hf hs hz e rfl⟩
 rw[List.getElem?_drop] at hj
 have:=h5 _ _ hj
 rwa [←Nat.add_assoc] at this
theorem Gv.fieldO {fs:Array Field} {f:Field} {i id off r sz:Nat} (ht:P.underlying t=some (.struct fs)) (hf:fs[i]?=some f) (hs:∀w,(sizeOf f.type).run P w=.ok sz w) (hz:sz≠0)
  (hx:bb env x=.po id off) (hr:off+f.offset=r):Gv P env O (Oper.mk (some d) (.fieldAddr t x i) ty pos af none) (.po id r):=fun I L E ρ h1 _=>by
 have h2:=h1.ev x
 rw[hx] at h2
 obtain ⟨b,c,e1,e⟩:=h2
 exact ⟨_,⟨b,c,e1,rfl⟩,fun w J L' _ _ _=>Run.field ht hf hs hz e hr⟩
theorem Gv.idxF {k j:Nat} {i:Int} {rows:List (List AV)} {r:List AV} (ht:P.underlying t=some (.slice e)) (hs:∀w,(sizeOf e).run P w=.ok k w) (hx:bb env x=.fro k rows) (hy:bb env y=.int .i64 i) (hi:i=(j:Int)) (hj:rows[j]?=some r) :
  Gv P env O (Oper.mk (some d) (.indexAddr t x y) ty pos af none) (.pf r):=fun I L E ρ h1 _=>by
 have h2:=h1.ev x
 rw[hx] at h2
 obtain ⟨a,n,c,ex,hn,_,_,h3⟩:=h2
 obtain ⟨b,off,vs,rfl,h4,h5,h6⟩:=h3.get hj
 have hlt:j<n:=by rw[hn];exact (List.getElem?_eq_some_iff.1 hj).1
 refine ⟨.pointer (some ⟨b,off+j*k,none⟩),⟨b,_,vs,rfl,h5,fun i u hu=>?_⟩,fun w J L' _ _ _=>Run.idx ht hs ex (fY h1 hy) hi hlt⟩
 have:=h6 i u hu
 rwa [Nat.zero_add] at this
theorem Gv.idxM {α:Type} {enc:α→List AV} {xs:List α} {k j:Nat} {i:Int} {v:α} (ht:P.underlying t=some (.slice e)) (hs:∀w,(sizeOf e).run P w=.ok k w) (hx:bb env x=.fro k (xs.map enc)) (hy:bb env y=.int .i64 i) (hi:i=(j:Int)) (hj:xs[j]?=some v) :
  Gv P env O (Oper.mk (some d) (.indexAddr t x y) ty pos af none) (.pf (enc v)):=Gv.idxF ht hs hx hy hi (by rw[List.getElem?_map,hj];rfl)
end
def pm (O:OL) (i:Nat) (o:bQ):Prop:=∃O',dw O i o O'
theorem pm.cells {I:G} {O:OL} {L:List (Nat × Obj)} {i:Nat} {T:TypeId} {cs:List AV} (h:pm O i (.cells T cs)) (hL:cM I O L):∃b c vs,I.h i=some (some b,c)∧RepL I cs vs∧(b,Obj.cells vs.toArray T (0,0))∈L:=by
 obtain ⟨O',h⟩:=h
 obtain ⟨A,B,hp,h1,_⟩:=h.rep hL
 obtain ⟨b,c,vs,h2,h3,_,rfl⟩:=h1
 exact ⟨b,c,vs,h2,h3,hp.mem_iff.2 (by simp)⟩
theorem pm.grow {I:G} {O:OL} {L:List (Nat × Obj)} {i k:Nat} {T:TypeId} {cs:List AV} (h:pm O i (.grow k T cs)) (hL:cM I O L) (hne:cs≠[]):∃b c vs junk,I.h i=some (some b,c)∧RepL I cs vs∧(b,Obj.cells (vs++junk).toArray T (0,0))∈L:=by
 obtain ⟨O',h⟩:=h
 obtain ⟨A,B,hp,h1,_⟩:=h.rep hL
 obtain ⟨b,c,n,vs,h2,h3,_,h4,h5,h6⟩:=h1
 rcases h6 with ⟨_,h6,_⟩|⟨b',junk,e,e2,h6⟩
 ·have:=h3.length
  have:n=0:=by omega
  subst this
  simp at h4
  subst h4
  simp at this
  exact absurd this.symm (by simpa using hne)
 ·cases b with
  |none=>simp[adr] at e
  |some b=>
   simp[adr] at e
   subst e e2
   exact ⟨b,c,vs,junk,h2,h3,hp.mem_iff.2 (by simp)⟩
section
variable {E:World} {P:Program} {env:aS} {O:OL} {d ty:Nat} {pos:String} {af:Array Edge} {x y z:Operand} {t u e:TypeId}
theorem Gv.load1C {i off:Nat} {T:TypeId} {c:AV} {cs tl:List AV} (ha:∀w,(isAgg t).run P w=.ok false w) (hx:bb env x=.po i off) (hO:pm O i (.cells T cs)) (hv:cs.drop off=c::tl):Gv P env O (Oper.mk (some d) (.load t x) ty pos af none) c:=fun I L E ρ h1 hL=>by
 have h2:=h1.ev x
 rw[hx] at h2
 obtain ⟨b,k,e1,e⟩:=h2
 obtain ⟨b',k',vs,e2,h3,hm⟩:=hO.cells hL
 rw[e1] at e2;cases e2
 have h4:=h3.drop off
 rw[hv] at h4
 obtain ⟨v,us,e5,h6,h7⟩:=h4
 exact ⟨v,h6,fun w J L' hl hS hsub=>Run.load1 ha hS e (.inr ⟨_,_,_,hsub _ hm,by rw[List.getElem?_toArray];exact vD e5⟩)⟩
theorem Gv.loadAC {i off n:Nat} {T:TypeId} {cs l:List AV} (ha:∀w,(isAgg t).run P w=.ok true w) (hs:∀w,(sizeOf t).run P w=.ok n w) (hx:bb env x=.po i off) (hO:pm O i (.cells T cs)) (hn:Nat.ble (off+n) cs.length=true) (hl:(cs.drop off).take n=l) :
  Gv P env O (Oper.mk (some d) (.load t x) ty pos af none) (.agg l):=fun I L E ρ h1 hL=>by
 have h2:=h1.ev x
 rw[hx] at h2
 obtain ⟨b,k,e1,e⟩:=h2
 obtain ⟨b',k',vs,e2,h3,hm⟩:=hO.cells hL
 rw[e1] at e2;cases e2
 refine ⟨.agg ((vs.drop off).take n).toArray,⟨_,rfl,hl▸(h3.drop off).take n⟩,fun w J L' hk hS hsub=>Run.loadA ha ?_ hS e ?_⟩
 ·have hn:=Nat.le_of_ble_eq_true hn
  have:=h3.length
  rw[List.length_take,List.length_drop,Nat.min_eq_left (by omega)];exact hs
 ·intro j v hj
  rw[List.getElem?_take] at hj
  split at hj
  ·rw[List.getElem?_drop] at hj
   exact .inr ⟨_,_,_,hsub _ hm,by rw[List.getElem?_toArray];exact hj⟩
  ·cases hj
theorem Gv.loadWC {i n:Nat} {T:TypeId} {cs:List AV} (ha:∀w,(isAgg t).run P w=.ok true w) (hs:∀w,(sizeOf t).run P w=.ok n w) (hx:bb env x=.po i 0) (hO:pm O i (.cells T cs)) (hn:cs.length=n):Gv P env O (Oper.mk (some d) (.load t x) ty pos af none) (.agg cs):=
 Gv.loadAC ha hs hx hO (by rw[hn];simp) (by rw[←hn];simp)
theorem Gv.load1G {i off k:Nat} {T:TypeId} {c:AV} {cs tl:List AV} (ha:∀w,(isAgg t).run P w=.ok false w) (hx:bb env x=.po i off) (hO:pm O i (.grow k T cs)) (hv:cs.drop off=c::tl):Gv P env O (Oper.mk (some d) (.load t x) ty pos af none) c:=fun I L E ρ h1 hL=>by
 have h2:=h1.ev x
 rw[hx] at h2
 obtain ⟨b,k,e1,e⟩:=h2
 obtain ⟨b',k',vs,junk,e2,h3,hm⟩:=hO.grow hL (by intro h;subst h;simp at hv)
 rw[e1] at e2;cases e2
 have h4:=h3.drop off
 rw[hv] at h4
 obtain ⟨v,us,e5,h6,h7⟩:=h4
 exact ⟨v,h6,fun w J L' hl hS hsub=>Run.load1 ha hS e (.inr ⟨_,_,_,hsub _ hm,by
  have:=vD e5
  rw[List.getElem?_toArray,List.getElem?_append_left (List.getElem?_eq_some_iff.1 this).1];exact this⟩)⟩
theorem Gv.loadAG {i off n k:Nat} {T:TypeId} {cs l:List AV} (ha:∀w,(isAgg t).run P w=.ok true w) (hs:∀w,(sizeOf t).run P w=.ok n w) (hx:bb env x=.po i off) (hO:pm O i (.grow k T cs)) (hne:cs≠[]) (hn:off+n≤cs.length) (hl:(cs.drop off).take n=l) :
  Gv P env O (Oper.mk (some d) (.load t x) ty pos af none) (.agg l):=fun I L E ρ h1 hL=>by
 have h2:=h1.ev x
 rw[hx] at h2
 obtain ⟨b,k,e1,e⟩:=h2
 obtain ⟨b',k',vs,junk,e2,h3,hm⟩:=hO.grow hL hne
 rw[e1] at e2;cases e2
 refine ⟨.agg ((vs.drop off).take n).toArray,⟨_,rfl,hl▸(h3.drop off).take n⟩,fun w J L' hk hS hsub=>Run.loadA ha ?_ hS e ?_⟩
 ·have:=h3.length
  rw[List.length_take,List.length_drop,Nat.min_eq_left (by omega)];exact hs
 ·intro j v hj
  rw[List.getElem?_take] at hj
  split at hj
  ·rw[List.getElem?_drop] at hj
   exact .inr ⟨_,_,_,hsub _ hm,by rw[List.getElem?_toArray,List.getElem?_append_left (List.getElem?_eq_some_iff.1 hj).1];exact hj⟩
  ·cases hj
theorem Gv.idxO {i n k j:Nat} {a:Int} {T:TypeId} {cs:List AV} (ht:P.underlying t=some (.slice e)) (hs:∀w,(sizeOf e).run P w=.ok k w) (hx:bb env x=.own i n) (hy:bb env y=.int .i64 a) (hi:a=(j:Int)) (hO:pm O i (.grow k T cs)) (hne:cs≠[]) (hj:j<n) :
  Gv P env O (Oper.mk (some d) (.indexAddr t x y) ty pos af none) (.po i (j*k)):=fun I L E ρ h1 hL=>by
 have h2:=h1.ev x
 rw[hx] at h2
 obtain ⟨b,c,e1,e⟩:=h2
 obtain ⟨b',k',vs,junk,e2,_⟩:=hO.grow hL hne
 rw[e1] at e2;cases e2
 refine ⟨.pointer (some ⟨b',0+j*k,none⟩),⟨b',_,e1,by rw[Nat.zero_add]⟩,fun w J L' _ _ _=>Run.idx ht hs e (fY h1 hy) hi hj⟩
end
end
section
def lit:Value→AV
 |.bool b=>.bool b
 |.int k n=>.int k n
 |.string s=>.str s
 |v=>.raw v
theorem Bh (I:G) (v:Value):bI I (lit v) v:=by cases v<;>exact rfl
theorem dx (I:G):∀l:List Value,RepL I (l.map lit) l
 |[]=>rfl
 |v::l=>⟨v,l,rfl,Bh I v,dx I l⟩
def AV.cs:AV→List AV
 |.agg cs=>cs
 |x=>[x]
def AV.sto:AV→Bool
 |.any | .tup _=>false
 |.raw v=>v.oneCell'
 |_=>true
theorem AV.cs_rep {I:G} {x:AV} {v:Value} (h:bI I x v) (hs:x.sto=true):RepL I x.cs v.cells.toList:=by
 cases x
 case agg cs=>obtain ⟨vs,e,h2⟩:=h;subst e;simpa [AV.cs,Value.cells] using h2
 case any=>cases hs
 case tup=>cases hs
 all_goals
  have hc:v.cells=#[v]:=by
   have:=AV.cell_rep h (by first|rfl|exact hs)
   cases v<;>first|rfl|(simp[Value.oneCell'] at this)
  rw[hc]
  exact RepL.one h
theorem g9.name {I:G} {O:OL} {F:List (Nat × Obj)} {E w:World} (h:g9 I O F E w):∃i,∀hd:Option Nat × Nat,∃J:G,J.k=I.k∧I.le J∧J.h i=some hd∧∃top,∀i,top≤i→J.h i=none:=by
 obtain ⟨⟨top,ht⟩,_⟩:=h
 refine ⟨top,fun hd=>⟨⟨I.k,fun j=>if j=top then some hd else I.h j⟩,rfl,⟨.refl _,fun i x hi=>?_⟩,by simp,top+1,fun i hi=>?_⟩⟩
 ·have:i≠top:=fun e=>by rw[e,ht top (Nat.le_refl _)] at hi;cases hi
  simp[this,hi]
 ·simp only
  rw[if_neg (by omega)];exact ht i (by omega)
theorem cM.perm {I:G} {O O':OL} (h:O.Perm O'):∀{L},cM I O L→∃L',cM I O' L'∧L.Perm L':=by
 induction h with
 |nil=>intro L h;exact ⟨L,h,.refl _⟩
 |cons x _ ih=>rintro L ⟨A,B,e,h1,h2⟩;obtain ⟨B',h3,h4⟩:=ih h2;exact ⟨A++B',⟨A,B',rfl,h1,h3⟩,e▸h4.append_left A⟩
 |swap x y l=>
  rintro L ⟨A,B,e,h1,C,D,e2,h2,h3⟩
  refine ⟨C++(A++D),⟨C,A++D,rfl,h2,A,D,rfl,h1,h3⟩,?_⟩
  subst e e2
  rw[←List.append_assoc,←List.append_assoc]
  exact List.perm_append_comm.append_right D
 |trans _ _ ih1 ih2=>intro L h;obtain ⟨L1,h1,h2⟩:=ih1 h;obtain ⟨L2,h3,h4⟩:=ih2 h1;exact ⟨L2,h3,h2.trans h4⟩
def ba (P:Program) (E:World) (f:FuncId) (args:List AV) (O:OL) (R:AV→OL→Prop):Prop:=
 ∀I F w vs,RepL I args vs→g9 I O F E w→Fn P f vs.toArray w fun v w'=>∃J x O',I.le J∧bI J x v∧g9 J O' F E w'∧R x O'
def aJ (P:Program) (E:World) (f:FuncId) (args:List AV) (r:AV):Prop:=ba P E f args [] fun x _=>x=r
theorem ba.mono {E:World} {P:Program} {f:FuncId} {args:List AV} {O:OL} {R R':AV→OL→Prop} (h:ba P E f args O R) (hr:∀x O,R x O→R' x O):ba P E f args O R':=fun I F w vs h1 h2=>
 (h I F w vs h1 h2).mono fun _ _ ⟨J,x,O',a,b,c,d⟩=>⟨J,x,O',a,b,c,hr _ _ d⟩
def M3 (E:World) (rs:Array ResultVar) (env:aS) (O:OL) (P:Program) (x:AV):Prop:=
 ∀I F ρ w,eH I env ρ→g9 I O F E w→∃v,oP rs ρ P w=.ok v w∧bI I x v
def fU (P:Program) (E:World) (rs:Array ResultVar) (R:AV→OL→Prop):Exit→aS→OL→Prop:=fun e env O=>
 match e with
 |.normal | .ret=>∀I F ρ w,eH I env ρ→g9 I O F E w→∃v,oP rs ρ P w=.ok v w∧∃J x O',I.le J∧bI J x v∧g9 J O' F E w∧R x O'
 |_=>False
def EU (args:List AV):aS:=fun t=>(args[t]?).getD (.raw undef)
theorem C6 {I:G} {args:List AV} {vs:List Value} (h:RepL I args vs):eH I (EU args) (zD vs.toArray):=fun t=>by
 unfold EU zD
 cases ha:args[t]? with
 |none=>
  have:vs[t]?=none:=by
   rw[List.getElem?_eq_none_iff] at ha ⊢
   rw[h.length];exact ha
  simp[Array.getD_eq_getD_getElem?,this,bI]
 |some x=>
  obtain ⟨v,hv,hr⟩:=h.get ha
  simp[Array.getD_eq_getD_getElem?,hv,hr]
theorem ba.intro {E:World} {P:Program} {f:FuncId} {fn:Func} {c:Code} {args:List AV} {O:OL} {R:AV→OL→Prop} (hf:P.funcs[f]?=some fn) (hb:fn.body=some c)
  (hn:fn.name≠"runtime.NumGoroutine") (hs:Nat.ble args.length fn.ntmps=true) (h:dQ P E fn.ntmps c (fU P E fn.results R) (EU args) O):ba P E f args O R:=fun I F w vs h1 h2=>
 Fn.intro hf hb hn (by rw[List.size_toArray,h1.length];exact hs) ((h I F _ w (C6 h1) h2).mono fun e ρ w ⟨J,env,O,a,b,c,d⟩=>by
  cases e<;>first|exact d.elim|(obtain ⟨v,h3,K,x,O',h4,h5,h6,h7⟩:=d J F ρ w b c;exact ⟨v,h3,K,x,O',a.trans h4,h5,h6,h7⟩))
section
variable {E:World} {P:Program} {env:aS} {O:OL} {R:AV→OL→Prop}
theorem fU.of {rs:Array ResultVar} {x:AV} (h:M3 E rs env O P x) (hr:R x O):fU P E rs R .ret env O:=fun I F ρ w h1 h2=>by
 obtain ⟨v,h3,h4⟩:=h I F ρ w h1 h2
 exact ⟨v,h3,I,x,O,.refl _,h4,h2,hr⟩
theorem fU.t1 {t:Nat} {x:AV} (hv:env t=x) (h:R x O):fU P E #[.tmp t] R .ret env O:=fU.of (fun I F ρ w h1 _=>⟨_,by simp[oP],hv▸h1 t⟩) h
theorem fU.t0 (h:R (.tup []) O):fU P E #[] R .ret env O:=fU.of (x:=.tup []) (fun I F ρ w h1 _=>⟨.tuple #[],by simp[oP],⟨[],rfl,rfl⟩⟩) h
theorem fU.t2 {t u:Nat} {x y:AV} (hv:env t=x) (hu:env u=y) (h:R (.tup [x,y]) O):fU P E #[.tmp t,.tmp u] R .ret env O:=
 fU.of (x:=.tup [x,y]) (fun I F ρ w h1 _=>⟨.tuple #[ρ t,ρ u],by simp[oP],⟨[ρ t,ρ u],rfl,⟨_,_,rfl,hv▸h1 t,⟨_,_,rfl,hu▸h1 u,rfl⟩⟩⟩⟩) h
theorem fU.c1 {t T i:Nat} {T':TypeId} {cs:List AV} {n:Nat} (hv:env t=.po i 0) (hO:pm O i (.cells T' cs)) (ha:∀w,(isAgg T).run P w=.ok true w) (hs:∀w,(sizeOf T).run P w=.ok n w) (hn:cs.length=n) (h:R (.agg cs) O) :
  fU P E #[.cell t T] R .ret env O:=fU.of (fun I F ρ w h1 h2=>by
 obtain ⟨L,hL,hS⟩:=h2.2
 have h3:=h1 t
 rw[hv] at h3
 obtain ⟨b,c,e1,e⟩:=h3
 obtain ⟨b',c',vs,e2,h4,hm⟩:=hO.cells hL
 rw[e1] at e2;cases e2
 have hl:=gL (P:=P) (w:=w) (b:=b) (off:=0) ha (cs:=vs) (by rw[h4.length,hn];exact hs) (fun j v hj=>by
  rw[Nat.zero_add]
  exact hS.at_ (.inr ⟨_,_,_,List.mem_append_left _ hm,by rw[List.getElem?_toArray];exact hj⟩))
 exact ⟨.agg vs.toArray,by simp[oP,e,asAddr,hl],⟨vs,rfl,h4⟩⟩) h
end
section
variable {E:World} {P:Program} {ops:Array Oper} {K:aS→OL→Prop} {env:aS} {O O':OL} {rest:List Oper}
variable {d ty:Nat} {pos:String} {af:Array Edge} {x y z:Operand} {t u e:TypeId}
theorem az.boxF {v:AV} {cs:List AV} (hx:bb env x=v) (hv:v.sto=true) (hc:v.cs=cs) (k:az P E ops K rest (bC env d (.pf cs)) O):az P E ops K (Oper.mk (some d) (.box t x) ty pos af none::rest) env O:=fun I F ρ w h1 h2=>by
 obtain ⟨ht,L,hL,hS⟩:=h2
 refine bP.boxP hS rfl fun b w' J hl hb hS'=>?_
 have h3:=h1.ev x
 rw[hx] at h3
 have h4:=AV.cs_rep h3 hv
 rw[hc] at h4
 let I':G:=⟨J,I.h⟩
 have hle:I.le I':=⟨hl,fun _ _ h=>h⟩
 refine q3 (fun _ _=>fX.up hle) _ _ _ (k I' F _ w' ((h1.mono hle).upd d ⟨b,0,_,rfl,RepL.mono hle _ _ h4,fun j u hj=>⟨_,_,_,hb,?_⟩⟩) ⟨ht,L,hL.mono hle,hS'⟩)
 rw[Nat.zero_add];simpa using hj
theorem EW {I:G} {F:List (Nat × Obj)} {E w w':World} {L:List (Nat × Obj)} {b:Nat} {T:TypeId} {cs:List AV} {vs:List Value} (h2:g9 I O F E w) (hL:cM I O L) (hr:RepL I cs vs) (h1c:∀u∈vs,u.oneCell'=true)
  (hS:SL I.k ((b,.cells vs.toArray T (0,0))::(L++F)) E w'):∃i J,I.le J∧J.h i=some (some b,0)∧g9 J ((i,.cells T cs)::O) F E w':=by
 obtain ⟨i,hi⟩:=h2.name
 obtain ⟨J,e1,hle,e2,htop⟩:=hi (some b,0)
 exact ⟨i,J,hle,e2,htop,_,⟨_,L,rfl,⟨b,0,vs,e2,RepL.mono hle _ _ hr,h1c,rfl⟩,hL.mono hle⟩,by rw[e1];exact hS⟩
theorem RepL.cell1 {I:G} {cs:List AV} {vs:List Value} (h4:RepL I cs vs) (hc1:cs.all AV.cell=true):∀u∈vs,u.oneCell'=true:=by
 intro u hu
 obtain ⟨j,hj⟩:=List.mem_iff_getElem?.1 hu
 have hlen:=h4.length
 have hjl:=(List.getElem?_eq_some_iff.1 hj).1
 have hx:cs[j]?=some cs[j]:=List.getElem?_eq_getElem (by omega)
 obtain ⟨v',hv',hr'⟩:=h4.get hx
 rw[hj] at hv';cases hv'
 exact AV.cell_rep hr' (List.all_eq_true.1 hc1 _ (List.getElem_mem _))
theorem az.boxO {v:AV} {cs:List AV} (hx:bb env x=v) (hv:v.sto=true) (hc:v.cs=cs) (hc1:cs.all AV.cell=true) (k:∀i,az P E ops K rest (bC env d (.po i 0)) ((i,.cells t cs)::O)) :
  az P E ops K (Oper.mk (some d) (.box t x) ty pos af none::rest) env O:=fun I F ρ w h1 h2=>by
 obtain ⟨L,hL,hS⟩:=h2.2
 refine bP.boxO hS rfl fun b w' hS'=>?_
 have h3:=h1.ev x
 rw[hx] at h3
 have h4:=AV.cs_rep h3 hv
 rw[hc] at h4
 obtain ⟨i,J,hle,e2,h5⟩:=EW (O:=O) (w':=w') (b:=b) (T:=t) h2 hL h4 (h4.cell1 hc1) (by simpa using hS')
 exact q3 (fun _ _=>fX.up hle) _ _ _ (k i J F _ w' ((h1.mono hle).upd d ⟨b,0,e2,rfl⟩) h5)
theorem az.alloc {zv:Value} {cs:List AV} (hz:∀w,(zeroValue t).run P w=.ok zv w) (hc:zv.cells.toList.map lit=cs) (h1c:zv.cells.toList.all Value.oneCell'=true) (k:∀i,az P E ops K rest (bC env d (.po i 0)) ((i,.cells t cs)::O)) :
  az P E ops K (Oper.mk (some d) (.alloc t) ty pos af none::rest) env O:=fun I F ρ w h1 h2=>by
 obtain ⟨L,hL,hS⟩:=h2.2
 refine bP.alloc hz hS fun b w' hS'=>?_
 obtain ⟨i,J,hle,e2,h5⟩:=EW (O:=O) (w':=w') (b:=b) (T:=t) h2 hL (hc▸dx I zv.cells.toList) (List.all_eq_true.1 h1c) (by simpa using hS')
 exact q3 (fun _ _=>fX.up hle) _ _ _ (k i J F _ w' ((h1.mono hle).upd d ⟨b,0,e2,rfl⟩) h5)
theorem k7 {b off n:Nat} {vs:List Value} {T:TypeId} {v:Value} {old:List Value} {w:World} (hs:∀w,(sizeOf t).run P w=.ok n w) (hvc:v.cells=vs.toArray) (hn:vs.length=n) (h1c:∀u∈vs,u.oneCell'=true) (hb:off+n≤old.length)
  (hown:w.heap[b]?=some (.cells old.toArray T (0,0))):(Instr.storeAt t (.pointer (some ⟨b,off,none⟩)) v).run P w=.ok () (w.setRow b (old.take off++vs++old.drop (off+n)).toArray):=by
 have hst:(storeCells (⟨b,off,none⟩:Addr) vs 0).run P w=.ok () (w.setRow b (old.take off++vs++old.drop (off+n)).toArray):=by
  rw[run_storeCells_at (P:=P) b off T vs 0 old.toArray w hown (by simp;omega) h1c]
  simp[hn]
 have hvs:v.cells.size=n:=by rw[hvc];simpa using hn
 simp[Instr.storeAt,Instr.sureAddr,storeVar,hs,hvc,hn,hst]
theorem SL.turn1 {I:aT} {L:List (Nat × Obj)} {E w:World} {b:Nat} {old new:List Value} {T:TypeId} (h:SL I ((b,.cells old.toArray T (0,0))::L) E w):SL I ((b,.cells new.toArray T (0,0))::L) E (w.setRow b new.toArray):=by
 have hown:=h.own _ (.head _)
 simp only at hown
 refine h.turn rfl rfl rfl ?_ ?_
 ·simp[World.setRow,Array.getElem?_modify,hown]
 ·intro k hk
  simp only[World.setRow,Array.getElem?_modify]
  rw[if_neg (by omega)]
theorem az.storeC {i off n:Nat} {T:TypeId} {v:AV} {cs l new:List AV} (hs:∀w,(sizeOf t).run P w=.ok n w) (hx:bb env x=.po i off) (hy:bb env y=v) (hv:v.sto=true) (hl:v.cs=l) (hl1:l.all AV.cell=true) (hn:l.length=n)
  (hO:gr O i (.cells T cs) (.cells T new) O') (hb:Nat.ble (off+n) cs.length=true) (hnew:cs.take off++l++cs.drop (off+n)=new) (k:az P E ops K rest env O'):az P E ops K (Oper.mk none (.store t x y) ty pos af none::rest) env O:=fun I F ρ w h1 h2=>by
 obtain ⟨htop,L,hL,hS⟩:=h2
 have h3:=h1.ev x
 rw[hx] at h3
 obtain ⟨b,c,e1,e⟩:=h3
 have h4:=h1.ev y
 rw[hy] at h4
 have h5:=AV.cs_rep h4 hv
 rw[hl] at h5
 obtain ⟨A,B,hp,⟨b',c',vs,e2,h6,h6c,rfl⟩,hback⟩:=hO.rep hL
 rw[e1] at e2;cases e2
 have hS2:SL I.k ((b,.cells vs.toArray T (0,0))::(B++F)) E w:=hS.perm ((hp.append_right F).symm)
 have hb:=Nat.le_of_ble_eq_true hb
 have hrun:=k7 (P:=P) (t:=t) (b:=b) (off:=off) (v:=ev ρ y) (vs:=(ev ρ y).cells.toList) (old:=vs) (w:=w) hs (by simp) (by rw[h5.length,hn]) (h5.cell1 hl1) (by rw[h6.length];exact hb) (hS2.own _ (.head _))
 refine bP.step rfl ?_
 unfold eY
 have:(execOp (ev ρ) (Oper.mk none (.store t x y) ty pos af none)).run P w=.ok .skip (w.setRow b (vs.take off++(ev ρ y).cells.toList++vs.drop (off+n)).toArray):=by
  simp only[execOp,e]
  rw[Sem.run_bind,hrun];rfl
 rw[this]
 have hnr:RepL I new (vs.take off++(ev ρ y).cells.toList++vs.drop (off+n)):=hnew▸((h6.take off).append h5).append (h6.drop (off+n))
 obtain ⟨L',h7,h8⟩:=hback (G.le.refl I) (A':=[(b,.cells (vs.take off++(ev ρ y).cells.toList++vs.drop (off+n)).toArray T (0,0))]) ⟨b,c,_,e1,hnr,by
  intro u hu
  simp only[List.mem_append] at hu
  rcases hu with (hu|hu)|hu
  ·exact h6c u (List.mem_of_mem_take hu)
  ·exact h5.cell1 hl1 u hu
  ·exact h6c u (List.mem_of_mem_drop hu),rfl⟩
 exact k I F ρ _ h1 ⟨htop,L',h7,(hS2.turn1).perm (h8.append_right F)⟩
end
end
section
def kI (place:Nat→Option (Nat × Nat)):List AV→List (Nat × List AV)→Option (List AV)
 |cells,[]=>some cells
 |cells,(i,xs)::rest=>
  match place i with
  |none=>none
  |some (off,size)=>bif Nat.beq xs.length size&&Nat.ble (off+size) cells.length then kI place (cells.take off++(xs++cells.drop (off+size))) rest else none
theorem th (off:Nat):∀(l:List Value) (k:Nat) (cs:Array Value),off+k+l.length≤cs.size→((l.zipIdx k).foldl (fun cs (x:Value × Nat)=>cs.setIfInBounds (off+x.2) x.1) cs).toList=cs.toList.take (off+k)++l++cs.toList.drop (off+k+l.length):=by
 intro l
 induction l with
 |nil=>intro k cs _;simp
 |cons c l ih=>
  intro k cs hk
  simp only[List.zipIdx_cons,List.foldl_cons]
  rw[ih (k+1) _ (by simp at hk ⊢;omega)]
  simp only[Array.toList_setIfInBounds,List.length_cons]
  have hk':off+k<cs.toList.length:=by simp at hk ⊢;omega
  rw[←Nat.add_assoc off k 1,List.take_succ_eq_append_getElem (by simpa using hk'),List.getElem_set_self,List.take_set_of_le (Nat.le_refl _)]
  rw[List.drop_set_of_lt (by omega:off+k<off+k+1+l.length)]
  simp only[List.append_assoc,List.singleton_append]
  have:off+k+1+l.length=off+k+(l.length+1):=by omega
  rw[this]
theorem mX {I:G} {place:Nat→Option (Nat × Nat)}:∀(l:List (Nat × Value)) (cps:List (Nat × List AV)) (cells:List AV) (vcells:Array Value) (rs:List AV),
  cps.map (·.1)=l.map (·.1)→(∀(j:Nat) p q,l[j]?=some p→cps[j]?=some q→RepL I q.2 p.2.cells.toList)→RepL I cells vcells.toList→kI place cells cps=some rs →
  ∃vc,Instr.fill place vcells l=some vc∧RepL I rs vc.toList
 |[],[],cells,vcells,rs,_,_,h,hf=>⟨vcells,rfl,by cases hf;exact h⟩
 |[],_::_,_,_,_,h,_,_,_=>by cases h
 |_::_,[],_,_,_,h,_,_,_=>by cases h
 |(i,v)::l,(i',xs)::cps,cells,vcells,rs,hk,hp,h,hf=>by
  simp only[List.map_cons,List.cons.injEq] at hk
  obtain ⟨rfl,hk⟩:=hk
  unfold kI at hf
  unfold Instr.fill
  cases hpl:place i' with
  |none=>rw[hpl] at hf;cases hf
  |some os=>
   obtain ⟨off,size⟩:=os
   rw[hpl] at hf
   simp only at hf ⊢
   have hx:=hp 0 _ _ rfl rfl
   simp only at hx
   have hxl:=hx.length
   have hcl:=h.length
   simp only[Array.length_toList] at hxl hcl
   cases hb:(Nat.beq xs.length size&&Nat.ble (off+size) cells.length) with
   |false=>rw[hb] at hf;cases hf
   |true=>
    rw[hb] at hf
    simp only[cond_true] at hf
    simp only[Bool.and_eq_true] at hb
    have e1:=Nat.eq_of_beq_eq_true hb.1
    have e2:=Nat.le_of_ble_eq_true hb.2
    rw[if_neg (show ¬((v.cells.size≠size||off+v.cells.size>vcells.size)=true) by simp;omega)]
    have hfold:=th off v.cells.toList 0 vcells (by simp;omega)
    simp only[Nat.add_zero] at hfold
    have hfa:(v.cells.zipIdx.foldl (fun cs (x:Value × Nat)=>cs.setIfInBounds (off+x.2) x.1) vcells).toList=vcells.toList.take off++v.cells.toList++vcells.toList.drop (off+size):=by
     rw[←Array.foldl_toList]
     have:v.cells.zipIdx.toList=v.cells.toList.zipIdx 0:=by simp
     have hlen:v.cells.toList.length=size:=by rw[Array.length_toList];omega
     rw[this,hfold,hlen]
    refine mX l cps _ _ rs hk (fun j p q h1 h2=>hp (j+1) p q (by simpa using h1) (by simpa using h2)) ?_ hf
    rw[hfa,List.append_assoc]
    exact (h.take off).append (hx.append (h.drop _))
def el (P:Program) (t:TypeId) (places:Array (Nat × Nat)) (zs:List AV):Prop:=
 ∃fs zv,P.underlying t=some (.struct fs)∧(∀w,(zeroValue t).run P w=.ok zv w)∧(∀w,(fs.mapM (m:=Sem) fun f=>do pure (f.offset,←sizeOf f.type)).run P w=.ok places w)∧zv.cells.toList.map lit=zs
def mY (P:Program) (t:TypeId) (k:Nat) (zs:List AV):Prop:=
 ∃n e zv,P.underlying t=some (.array n e)∧(∀w,(zeroValue t).run P w=.ok zv w)∧(∀w,(sizeOf e).run P w=.ok k w)∧zv.cells.toList.map lit=zs
section
variable {E:World} {P:Program} {ops:Array Oper} {K:aS→OL→Prop} {env:aS} {O O':OL} {rest:List Oper}
variable {d ty:Nat} {pos:String} {af:Array Edge} {x y z:Operand} {t u e:TypeId}
theorem nO {I:G} {ρ:cO} (h1:eH I env ρ) (l:List (Nat × Operand)) (hs:l.all (fun p=>(bb env p.2).sto)=true) (j:Nat) (p:Nat × Value) (q:Nat × List AV)
  (hp:(l.map fun p=>(p.1,ev ρ p.2))[j]?=some p) (hq:(l.map fun p=>(p.1,(bb env p.2).cs))[j]?=some q):RepL I q.2 p.2.cells.toList:=by
 rw[List.getElem?_map] at hp hq
 cases hl:l[j]? with
 |none=>rw[hl] at hp;cases hp
 |some o=>
  rw[hl] at hp hq
  cases hp;cases hq
  exact AV.cs_rep (h1.ev o.2) (List.all_eq_true.1 hs _ (List.mem_of_getElem? hl))
theorem Gv.build {places:Array (Nat × Nat)} {zs rs:List AV} {l:List (Nat × Operand)} {cps:List (Nat × List AV)} (hpl:el P t places zs) (hs:l.all (fun p=>(bb env p.2).sto)=true) (hv:l.map (fun p=>(p.1,(bb env p.2).cs))=cps)
  (hf:kI (places[·]?) zs cps=some rs):Gv P env O (Oper.mk (some d) (.build t l.toArray) ty pos af none) (.agg rs):=Gv.ofEv fun I ρ h=>by
 obtain ⟨fs,zv,ht,hz,hp,hc⟩:=hpl
 obtain ⟨vc,h1,h2⟩:=mX (I:=I) (place:=(places[·]?)) (l.map fun p=>(p.1,ev ρ p.2)) cps zs zv.cells rs (by subst hv;simp) (fun j p q hj hq=>nO h l hs j p q hj (hv▸hq)) (hc▸dx I _) hf
 refine ⟨.agg vc,⟨vc.toList,by simp,h2⟩,fun w=>?_⟩
 have hrun:(Instr.build t (l.map fun p=>(p.1,ev ρ p.2)).toArray).run P w=.ok (.agg vc) w:=by
  unfold Instr.build
  simp only[Sem.run_bind,hz,Result.andThen_ok,run_underlying ht]
  rw[hp]
  simp only[Result.andThen_ok,h1]
  rfl
 simp only[execOp,List.map_toArray]
 rw[Sem.run_bind,hrun];rfl
theorem Gv.buildA {k:Nat} {zs rs:List AV} {l:List (Nat × Operand)} {cps:List (Nat × List AV)} (hpl:mY P t k zs) (hs:l.all (fun p=>(bb env p.2).sto)=true) (hv:l.map (fun p=>(p.1,(bb env p.2).cs))=cps)
  (hf:kI (fun i=>some (i*k,k)) zs cps=some rs):Gv P env O (Oper.mk (some d) (.build t l.toArray) ty pos af none) (.agg rs):=Gv.ofEv fun I ρ h=>by
 obtain ⟨n,e,zv,ht,hz,hp,hc⟩:=hpl
 obtain ⟨vc,h1,h2⟩:=mX (I:=I) (place:=fun i=>some (i*k,k)) (l.map fun p=>(p.1,ev ρ p.2)) cps zs zv.cells rs (by subst hv;simp) (fun j p q hj hq=>nO h l hs j p q hj (hv▸hq)) (hc▸dx I _) hf
 refine ⟨.agg vc,⟨vc.toList,by simp,h2⟩,fun w=>?_⟩
 have hrun:(Instr.build t (l.map fun p=>(p.1,ev ρ p.2)).toArray).run P w=.ok (.agg vc) w:=by
  unfold Instr.build
  simp only[Sem.run_bind,hz,Result.andThen_ok,run_underlying ht,hp,h1]
  rfl
 simp only[execOp,List.map_toArray]
 rw[Sem.run_bind,hrun];rfl
def dM (P:Program) (t e:TypeId) (n k:Nat) (zs:List AV):Prop:=
 ∃zv,P.underlying t=some (.slice e)∧(∀w,(sizeOf e).run P w=.ok k w)∧(∀w,(zeroValue e).run P w=.ok zv w)∧0<n*k∧n*k≤2 ^ 24∧((Array.range (n*k)).map (zv.cells[·% zv.cells.size]!)).toList.map lit=zs
theorem kJ {n k:Nat} {zs rs:List AV} {l:List (Nat × Operand)} {cps:List (Nat × List AV)} (hpl:dM P t e n k zs) (hs:l.all (fun p=>(bb env p.2).sto)=true) (hv:l.map (fun p=>(p.1,(bb env p.2).cs))=cps)
  (hf:kI (fun i=>some (i*k,k)) zs cps=some rs) {I:G} {ρ:cO} (h:eH I env ρ):∃vc:List Value,RepL I rs vc∧∀w,(execOp (ev ρ) (Oper.mk (some d) (.buildSlice t n l.toArray) ty pos af none)).run P w=.ok (.value (.slice (some ⟨w.heap.size,0,none⟩) n n)) (w.alloc (.cells vc.toArray e)):=by
 obtain ⟨zv,ht,hsz,hz,h0,h24,hc⟩:=hpl
 obtain ⟨vc,h1,h2⟩:=mX (I:=I) (place:=fun i=>some (i*k,k)) (l.map fun p=>(p.1,ev ρ p.2)) cps zs ((Array.range (n*k)).map (zv.cells[·% zv.cells.size]!)) rs (by subst hv;simp) (fun j p q hj hq=>nO h l hs j p q hj (hv▸hq)) (hc▸dx I _) hf
 refine ⟨vc.toList,h2,fun w=>?_⟩
 have hrun:(Instr.buildSlice t n (l.map fun p=>(p.1,ev ρ p.2)).toArray).run P w=.ok (.slice (some ⟨w.heap.size,0,none⟩) n n) (w.alloc (.cells vc e)):=by
  unfold Instr.buildSlice
  simp only[Sem.run_bind,Result.andThen_ok,run_underlying ht,hsz]
  rw[if_neg (by omega)]
  simp only[Sem.run_pure,Result.andThen_ok,if_neg (by omega:¬n*k=0),Sem.run_bind,hz,h1,newRow]
  simp
 simp only[execOp,List.map_toArray]
 rw[Sem.run_bind,hrun];simp
theorem RepR.of_flat {I:G} {k b:Nat} {c:Array Value} {T:TypeId} {f:Nat × Nat} (hb:I.k b=some (.cells c T f)):∀(rows:List (List AV)) (vs:List Value) (j:Nat),(∀r∈rows,r.length=k)→RepL I rows.flatten vs→(∀(i:Nat) u,vs[i]?=some u→c[j*k+i]?=some u)→RepR I k (some ⟨b,0,none⟩) j rows
 |[],_,_,_,_,_=>trivial
 |r::rows,vs,j,hk,h,hc=>by
  have hr:=hk r (by simp)
  have h1:=h.take r.length
  have h2:=h.drop r.length
  simp only[List.flatten_cons,List.take_left,List.drop_left] at h1 h2
  refine ⟨⟨b,0,vs.take r.length,rfl,?_,h1,fun i u hu=>⟨c,T,f,hb,?_⟩⟩,RepR.of_flat hb rows _ (j+1) (fun r hr=>hk r (by simp[hr])) h2 fun i u hu=>?_⟩
  ·rw[h1.length,hr]
  ·rw[List.getElem?_take] at hu
   split at hu
   ·rw[Nat.zero_add];exact hc i u hu
   ·cases hu
  ·rw[List.getElem?_drop,hr] at hu
   have:=hc _ u hu
   rw[Nat.add_mul,Nat.one_mul,Nat.add_assoc];exact this
theorem az.buildSliceF {n k:Nat} {zs rs:List AV} {rows:List (List AV)} {l:List (Nat × Operand)} {cps:List (Nat × List AV)} (hpl:dM P t e n k zs) (hs:l.all (fun p=>(bb env p.2).sto)=true) (hv:l.map (fun p=>(p.1,(bb env p.2).cs))=cps)
  (hf:kI (fun i=>some (i*k,k)) zs cps=some rs) (hr:rows.flatten=rs) (hk:rows.all (fun r=>Nat.beq r.length k)=true) (hn:rows.length=n) (kk:az P E ops K rest (bC env d (.fro k rows)) O) :
  az P E ops K (Oper.mk (some d) (.buildSlice t n l.toArray) ty pos af none::rest) env O:=fun I F ρ w h1 h2=>by
 obtain ⟨htop,L,hL,hS⟩:=h2
 obtain ⟨vc,hrep,hrun⟩:=kJ (d:=d) (ty:=ty) (pos:=pos) (af:=af) hpl hs hv hf h1
 refine bP.step rfl ?_
 unfold eY
 rw[hrun w]
 obtain ⟨hl,hS'⟩:=hS.alloc_pers (.cells vc.toArray e)
 let J:G:=⟨I.k.put w.heap.size (.cells vc.toArray e),I.h⟩
 have hle:I.le J:=⟨hl,fun _ _ h=>h⟩
 have hb:J.k w.heap.size=some (.cells vc.toArray e):=aT.put_same _ _ _
 refine q3 (fun _ _=>fX.up hle) _ _ _ (kk J F _ _ ((h1.mono hle).upd d ⟨_,n,n,rfl,hn.symm,Nat.le_refl _,fun h=>by (cases h),?_⟩) ⟨htop,L,hL.mono hle,hS'⟩)
 exact RepR.of_flat hb rows vc 0 (fun r h=>Nat.eq_of_beq_eq_true (List.all_eq_true.1 hk r h)) (hr▸RepL.mono hle _ _ hrep) (fun i u hu=>by simpa using hu)
theorem az.buildSliceO {n k:Nat} {zs rs:List AV} {l:List (Nat × Operand)} {cps:List (Nat × List AV)} (hpl:dM P t e n k zs) (hs:l.all (fun p=>(bb env p.2).sto)=true) (hv:l.map (fun p=>(p.1,(bb env p.2).cs))=cps)
  (hf:kI (fun i=>some (i*k,k)) zs cps=some rs) (hk:rs.length=n*k) (hc1:rs.all AV.cell=true) (kk:∀i,az P E ops K rest (bC env d (.own i n)) ((i,.grow k e rs)::O)) :
  az P E ops K (Oper.mk (some d) (.buildSlice t n l.toArray) ty pos af none::rest) env O:=fun I F ρ w h1 h2=>by
 obtain ⟨L,hL,hS⟩:=h2.2
 obtain ⟨vc,hrep,hrun⟩:=kJ (d:=d) (ty:=ty) (pos:=pos) (af:=af) hpl hs hv hf h1
 refine bP.step rfl ?_
 unfold eY
 rw[hrun w]
 obtain ⟨i,hi⟩:=h2.name
 obtain ⟨J,e1,hle,e2,htop⟩:=hi (some w.heap.size,n)
 have hS':=hS.alloc (.cells vc.toArray e)
 refine q3 (fun _ _=>fX.up hle) _ _ _ (kk i J F _ _ ((h1.mono hle).upd d ⟨_,n,e2,rfl⟩) ⟨htop,_,⟨[(w.heap.size,.cells vc.toArray e (0,0))],L,rfl,⟨_,n,n,vc,e2,RepL.mono hle _ _ hrep,hrep.cell1 hc1,fT.made (by rw[hrep.length,hk])⟩,hL.mono hle⟩,by rw[e1];exact hS'⟩)
theorem az.buildSlice0 {i:TypeInfo} {k:Nat} (ht:P.underlying t=some (.slice e)) (hi:P.info? e=some i) (kk:∀j,az P E ops K rest (bC env d (.own j 0)) ((j,.grow k e [])::O)) :
  az P E ops K (Oper.mk (some d) (.buildSlice t 0 #[]) ty pos af none::rest) env O:=fun I F ρ w h1 h2=>by
 obtain ⟨L,hL,hS⟩:=h2.2
 obtain ⟨j,hj⟩:=h2.name
 refine bP.buildSlice0 ht hi hS fun b w' hS'=>?_
 obtain ⟨J,e1,hle,e2,htop⟩:=hj (some b,0)
 refine q3 (fun _ _=>fX.up hle) _ _ _ (kk j J F _ _ ((h1.mono hle).upd d ⟨_,0,e2,rfl⟩) ⟨htop,_,⟨[(b,.cells [].toArray e (0,0))],L,rfl,⟨some b,0,0,[],e2,rfl,(by simp),fT.made (n:=0) (by simp)⟩,hL.mono hle⟩,by rw[e1];exact hS'⟩)
theorem az.make1 {i:TypeInfo} {zv z1:Value} {m:Nat} {k1 k2:IntKind} {l l':Int} (ht:P.underlying t=some (.slice e)) (hi:P.info? e=some i) (hz:i.zero=some zv) (hzc:zv.cells=#[z1]) (hk:i.size=1) (hx:bb env x=.int k1 l) (hy:bb env y=.int k2 l')
  (hl:l=(m:Int)) (hl':l'=(m:Int)) (hb:(i.bytes:Int)*(m:Int)≤281474976710656) (hm:m≤281474976710656) (hz1:z1.oneCell'=true) (kk:∀j,az P E ops K rest (bC env d (.own j m)) ((j,.grow 1 e (List.replicate m (lit z1)))::O)) :
  az P E ops K (Oper.mk (some d) (.makeSlice t x y) ty pos af none::rest) env O:=fun I F ρ w h1 h2=>by
 obtain ⟨L,hL,hS⟩:=h2.2
 obtain ⟨j,hj⟩:=h2.name
 refine bP.make1 ht hi hz hzc hk (fY h1 hx) (fY h1 hy) hl hl' hb hm hS fun b w' hS'=>?_
 obtain ⟨J,e1,hle,e2,htop⟩:=hj (some b,m)
 have hrep:RepL J (List.replicate m (lit z1)) (List.replicate m z1):=by
  have:=dx J (List.replicate m z1)
  rwa [List.map_replicate] at this
 refine q3 (fun _ _=>fX.up hle) _ _ _ (kk j J F _ _ ((h1.mono hle).upd d ⟨_,m,e2,rfl⟩) ⟨htop,_,⟨[(b,.cells (List.replicate m z1).toArray e (0,0))],L,rfl,⟨some b,m,m,_,e2,hrep,(fun u hu=>by rw[List.eq_of_mem_replicate hu];exact hz1),fT.made (by simp)⟩,hL.mono hle⟩,by rw[e1];exact hS'⟩)
end
set_option linter.defProp false
def z6:=@az.nil
def z7:=@az.guardFd
def z8:=@az.guardT
def za:=@az.val
def zb:=@az.guardUd
def zc:=@dQ.seq
def zd:=@dQ.skip
def zg:=@dQ.ret
def zh:=@dQ.block
def zk:=@fU.t1
def zm:=@az.case
def zo:=@ba.intro
def zp:=@dQ.condP
def zr:=@Gv.fieldO
def zt:=@dQ.cond
def zw:=@Gv.load1C
def zy:=@az.alloc
def zz:=@Gv.build
def y9:=@dQ.exit
def ya:=@dQ.loop
def yb:=@az.boxF
def yc:=@Gv.nilCheckO
def yf:=@dQ.cutS
def yh:=@dQ.region
def yi:=@Gv.assign
def yj:=@dQ.condF
def yk:=@Gv.loadWF
def yl:=@Gv.move
def ym:=@fU.t0
def yo:=@Gv.load1F
def yq:=@az.boxO
def yr:=@Gv.nilCheckF
def yt:=@dQ.condT
def yw:=@fU.c1
def yy:=@Gv.extract
def q8:=@Gv.loadWC
def q9:=@Gv.idxM
def qa:=@Gv.geq
def qb:=@fU.t2
def qg:=@az.storeC
def qm:=@Gv.ofEv
def qn:=@Gv.neqI
def qp:=@fX.up
end
end Go.Proofs.YtbanfokidalbaaaGreatDoor
