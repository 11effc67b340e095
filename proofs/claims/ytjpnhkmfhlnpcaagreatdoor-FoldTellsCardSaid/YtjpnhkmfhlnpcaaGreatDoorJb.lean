/- Arrays told whole; rows of a list. No conditions. -/
import Derived.Test.YtjpnhkmfhlnpcaaGreatDoorJa
import Derived.Test.YtjpnhkmfhlnpcaaGreatDoorChecked
set_option linter.unusedVariables false
set_option linter.unusedSimpArgs false
set_option linter.unusedSectionVars false
namespace Go.Proofs.YtjpnhkmfhlnpcaaGreatDoor
section
def ko (I:G) (F:List (Nat × Obj)) (E:World) (Q:Exit→aK→OL→Prop):Exit→bD→World→Prop:=fun e ρ w=>∃J env O,I.le J∧dn J env ρ∧fm J O F E w∧Q e env O
def cO (I:G) (F:List (Nat × Obj)) (E:World) (K:aK→OL→Prop):bD→World→Prop:=fun ρ w=>∃J env O,I.le J∧dn J env ρ∧fm J O F E w∧K env O
theorem ko.up {I J:G} {F:List (Nat × Obj)} {E:World} {Q:Exit→aK→OL→Prop} (h:I.le J) {e:Exit} {ρ:bD} {w:World}:ko J F E Q e ρ w→ko I F E Q e ρ w:=
 fun ⟨K,env,O,h1,h2⟩=>⟨K,env,O,h.trans h1,h2⟩
theorem cO.up {I J:G} {F:List (Nat × Obj)} {E:World} {Q:aK→OL→Prop} (h:I.le J) {ρ:bD} {w:World}:cO J F E Q ρ w→cO I F E Q ρ w:=
 fun ⟨K,env,O,h1,h2⟩=>⟨K,env,O,h.trans h1,h2⟩
def cG (P:Program) (E:World) (n:Nat) (c:Code) (Q:Exit→aK→OL→Prop) (env:aK) (O:OL):Prop:=
 ∀I F ρ w,dn I env ρ→fm I O F E w→WP P n c (ko I F E Q) ρ w
def lw (K:aK→OL→Prop) (Q:Exit→aK→OL→Prop):Exit→aK→OL→Prop:=fun e env O=>
 match e with
 |.normal=>K env O
 |e=>Q e env O
def nL (id:Nat) (Q:Exit→aK→OL→Prop):Exit→aK→OL→Prop:=fun e env O=>
 match e with
 |.exit i=>if i=id then Q .normal env O else Q (.exit i) env O
 |e=>Q e env O
section
variable {E:World} {P:Program} {n:Nat} {Q:Exit→aK→OL→Prop} {env:aK} {O:OL}
theorem ft {K:aK→OL→Prop} (h:Q .ret env O):lw K Q .ret env O:=h
theorem d8 {id:Nat} (h:Q .ret env O):nL id Q .ret env O:=h
theorem cG.mono {c:Code} {Q':Exit→aK→OL→Prop} (h:cG P E n c Q env O) (hq:∀e env O,Q e env O→Q' e env O):cG P E n c Q' env O:=
 fun I F ρ w h1 h2=>(h I F ρ w h1 h2).mono fun _ _ _ ⟨J,env,O,a,b,c,d⟩=>⟨J,env,O,a,b,c,hq _ _ _ d⟩
theorem cG.skip (h:Q .normal env O):cG P E n .skip Q env O:=fun I _ _ _ h1 h2=>WP.skip ⟨I,env,O,.refl _,h1,h2,h⟩
theorem cG.ret (h:Q .ret env O):cG P E n .ret Q env O:=fun I _ _ _ h1 h2=>WP.ret ⟨I,env,O,.refl _,h1,h2,h⟩
theorem cG.exit {id:Nat} (h:Q (.exit id) env O):cG P E n (.exit id) Q env O:=fun I _ _ _ h1 h2=>WP.exit ⟨I,env,O,.refl _,h1,h2,h⟩
theorem cG.seq {x y:Code} (h:cG P E n x (lw (cG P E n y Q) Q) env O):cG P E n (.seq x y) Q env O:=fun I F ρ w h1 h2=>
 WP.seq ((h I F ρ w h1 h2).mono fun e ρ w ⟨J,env,O,a,b,c,d⟩=>by
  cases e<;>first|exact (d J F ρ w b c).mono (fun _ _ _=>ko.up a)|exact ⟨J,env,O,a,b,c,d⟩)
theorem cG.block {id:Nat} {c:Code} (h:cG P E n c (nL id Q) env O):cG P E n (.block id c) Q env O:=fun I F ρ w h1 h2=>
 WP.block ((h I F ρ w h1 h2).mono fun e ρ w ⟨J,env,O,a,b,c,d⟩=>by
  cases e<;>try exact ⟨J,env,O,a,b,c,d⟩
  rename_i i
  simp only[nL] at d
  simp only[qk]
  split<;>rename_i hi
  ·rw[if_pos hi] at d;exact ⟨J,env,O,a,b,c,d⟩
  ·rw[if_neg hi] at d;exact ⟨J,env,O,a,b,c,d⟩)
theorem cG.cond {c:Operand} {x y:Code} {t:Bool} (hc:aW env c=.bool t) (h:t=true→cG P E n x Q env O) (h':t=false→cG P E n y Q env O):cG P E n (.cond c x y) Q env O:=fun I F ρ w h1 h2=>
 WP.condB (t:=t) (by have:=h1.ev c;rw[hc] at this;exact this) (fun e=>h e I F ρ w h1 h2) (fun e=>h' e I F ρ w h1 h2)
theorem cG.condP {c:Operand} {x y:Code} {p:Prop} [Decidable p] (hc:aW env c=.bool (decide p)) (h:p→cG P E n x Q env O) (h':¬p→cG P E n y Q env O):cG P E n (.cond c x y) Q env O:=
 cG.cond hc (fun e=>h (of_decide_eq_true e)) (fun e=>h' (of_decide_eq_false e))
theorem cG.condT {c:Operand} {x y:Code} {t:Bool} (hc:aW env c=.bool t) (ht:t=true) (h:cG P E n x Q env O):cG P E n (.cond c x y) Q env O:=cG.cond hc (fun _=>h) (fun e=>by rw[ht] at e;cases e)
theorem cG.condF {c:Operand} {x y:Code} {t:Bool} (hc:aW env c=.bool t) (ht:t=false) (h:cG P E n y Q env O):cG P E n (.cond c x y) Q env O:=cG.cond hc (fun e=>by rw[ht] at e;cases e) (fun _=>h)
theorem cG.weak {c:Code} {env':aK} (h:cG P E n c Q env' O) (hw:∀t,env' t=.any∨env' t=env t):cG P E n c Q env O:=fun I F ρ w h1 h2=>
 h I F ρ w (fun t=>by
  rcases hw t with e|e
  ·rw[e];trivial
  ·rw[e];exact h1 t) h2
def keep (env:aK) (l:List Nat):aK:=fun t=>bif l.any (Nat.beq t) then env t else .any
def put (env:aK):List (Nat × AV)→aK
 |[]=>env
 |(d,v)::l=>bl (put env l) d v
def m8 (env:aK):List (Nat × AV)→Prop
 |[]=>True
 |(d,v)::l=>env d=v∧m8 env l
def br (env env':aK):List Nat→Prop
 |[]=>True
 |d::l=>env' d=env d∧br env env' l
theorem oL {env env':aK} {f:List Nat} {l:List (Nat × AV)} (h1:br env env' f) (h2:m8 env' l):∀t,put (Go.Proofs.YtjpnhkmfhlnpcaaGreatDoor.keep env f) l t=.any∨put (Go.Proofs.YtjpnhkmfhlnpcaaGreatDoor.keep env f) l t=env' t:=by
 intro t
 induction l with
 |nil=>
  simp only[put,Go.Proofs.YtjpnhkmfhlnpcaaGreatDoor.keep]
  cases hb:f.any (Nat.beq t) with
  |false=>simp
  |true=>
   right
   simp only[cond_true]
   clear h2
   induction f with
   |nil=>simp at hb
   |cons d f ih=>
    simp only[List.any_cons,Bool.or_eq_true] at hb
    rcases hb with hb|hb
    ·have:t=d:=Nat.eq_of_beq_eq_true hb
     subst this;exact h1.1.symm
    ·exact ih h1.2 hb
 |cons x l ih=>
  obtain ⟨d,v⟩:=x
  simp only[put,bl]
  cases hb:Nat.beq t d with
  |false=>simpa using ih h2.2
  |true=>
   have:t=d:=Nat.eq_of_beq_eq_true hb
   subst this;right;exact h2.1.symm
theorem cG.cut {c:Code} (K:aK→OL→Prop) (h:cG P E n c (lw K Q) env O) (hj:∀env O,K env O→Q .normal env O):cG P E n c Q env O:=
 h.mono fun e ρ w hq=>by cases e<;>first|exact hj _ _ hq|exact hq
theorem cG.loop0 {γ:Type} {c:Code} (Inv:γ→aK→OL→Prop) (μ:γ→Nat) (g₀:γ) (h₀:Inv g₀ env O)
  (round:∀g env O,Inv g env O→cG P E n c (lw (fun env' O'=>∃g',Inv g' env' O'∧μ g'<μ g) Q) env O):cG P E n (.loop c) Q env O:=fun I F ρ w h1 h2=>
 WP.loop (γ:=γ) (fun g ρ w=>∃J env O,I.le J∧dn J env ρ∧fm J O F E w∧Inv g env O) μ g₀ ⟨I,env,O,.refl _,h1,h2,h₀⟩
  (fun g ρ w ⟨J,env,O,hl,h3,h4,h5⟩=>(round g env O h5 J F ρ w h3 h4).mono fun e ρ' w' ⟨K,env',O',a,b,c,d⟩=>by
   cases e with
   |normal=>obtain ⟨g',d1,d2⟩:=d;exact ⟨g',⟨K,env',O',hl.trans a,b,c,d1⟩,d2⟩
   |exit _=>exact ⟨K,env',O',hl.trans a,b,c,d⟩
   |goto _=>exact ⟨K,env',O',hl.trans a,b,c,d⟩
   |ret=>exact ⟨K,env',O',hl.trans a,b,c,d⟩
   |panic _=>exact ⟨K,env',O',hl.trans a,b,c,d⟩
   |outgrown=>exact ⟨K,env',O',hl.trans a,b,c,d⟩)
theorem cG.left {c:Code} {O':OL} (hl:Left O O') (h:cG P E n c Q env O'):cG P E n c Q env O:=fun I F ρ w h1 h2=>h I F ρ w h1 (hl.sla h2)
theorem br.refl (env:aK):∀f,br env env f
 |[]=>trivial
 |_::f=>⟨rfl,br.refl env f⟩
theorem cG.loop {γ:Type} {c:Code} (f:List Nat) (S:γ→List (Nat × AV)) (M:γ→OL) (p:γ→Prop) (μ:γ→Nat) (g₀:γ) (h₀:m8 env (S g₀)) (hO:Left O (M g₀)) (hp:p g₀)
  (round:∀g,p g→cG P E n c (lw (fun env' O'=>∃g',br env env' f∧m8 env' (S g')∧Left O' (M g')∧p g'∧μ g'<μ g) Q) (put (Go.Proofs.YtjpnhkmfhlnpcaaGreatDoor.keep env f) (S g)) (M g)):cG P E n (.loop c) Q env O:=
 cG.loop0 (fun g env' O'=>br env env' f∧m8 env' (S g)∧Left O' (M g)∧p g) μ g₀ ⟨br.refl env f,h₀,hO,hp⟩
  (fun g env' O' ⟨h1,h2,h3,h4⟩=>by
   refine (((round g h4).weak (oL h1 h2)).left h3).mono fun e env O hq=>?_
   cases e<;>try exact hq
   obtain ⟨g',a,b,c,d,e⟩:=hq
   exact ⟨g',⟨a,b,c,d⟩,e⟩)
theorem cG.cutS {γ:Type} {c d:Code} {Q':Exit→aK→OL→Prop} (f:List Nat) (S:γ→List (Nat × AV)) (M:γ→OL) (p:γ→Prop) (h:cG P E n c (lw (fun env' O'=>∃g,br env env' f∧m8 env' (S g)∧Left O' (M g)∧p g) Q) env O)
  (hQ:∀env O,cG P E n d Q' env O→Q .normal env O) (hj:∀g,p g→cG P E n d Q' (put (Go.Proofs.YtjpnhkmfhlnpcaaGreatDoor.keep env f) (S g)) (M g)):cG P E n c Q env O:=
 cG.cut _ h fun env' O' ⟨g,h1,h2,h3,h4⟩=>hQ _ _ (((hj g h4).weak (oL h1 h2)).left h3)
end
def ao (P:Program) (E:World) (ops:Array Oper) (K:aK→OL→Prop) (l:List Oper) (env:aK) (O:OL):Prop:=
 ∀I F ρ w,dn I env ρ→fm I O F E w→bq P ops (cO I F E K) l ρ w
def Gv (P:Program) (env:aK) (O:OL) (o:Oper) (x:AV):Prop:=
 ∀(I:G) L E ρ,dn I env ρ→bA I O L→∃v,bH I x v∧∀w J L',I.k.le J→SL J L' E w→(∀y∈L,y∈L')→(execOp (ev ρ) o).run P w=.ok (.value v) w
section
variable {E:World} {P:Program} {n:Nat} {ops:Array Oper} {K:aK→OL→Prop} {env:aK} {O:OL} {rest:List Oper}
variable {d ty:Nat} {op:Op} {pos:String} {af:Array Edge}
theorem cG.region {Q:Exit→aK→OL→Prop} {id:Nat} {l:List Oper} (hd:ei n l=true) (h:ao P E l.toArray (Q .normal) l env O):cG P E n (.region id l.toArray false) Q env O:=fun I F ρ w h1 h2=>
 WP.region hd (h I F ρ w h1 h2)
theorem ao.nil (h:K env O):ao P E ops K [] env O:=fun I _ _ _ h1 h2=>bq.nil ⟨I,env,O,.refl _,h1,h2,h⟩
theorem ao.val {x:AV} (h:Gv P env O (Oper.mk (some d) op ty pos af none) x) (k:ao P E ops K rest (bl env d x) O):ao P E ops K (Oper.mk (some d) op ty pos af none::rest) env O:=fun I F ρ w h1 h2=>by
 obtain ⟨L,hL,hS⟩:=h2.2
 obtain ⟨v,hv,hr⟩:=h I L E ρ h1 hL
 exact bq.val (hr w I.k (L++F) (.refl _) hS fun _ h=>List.mem_append_left _ h) (k I F _ w (h1.upd d hv) h2)
theorem ao.guardT {dd:Option Nat} {j s:Nat} {b t:Bool} (hs:(ops[j]?).bind (fun o:Oper=>o.dst)=some s) (hv:env s=.bool t) (ht:t=b)
  (k:ao P E ops K (Oper.mk dd op ty pos af none::rest) env O):ao P E ops K (Oper.mk dd op ty pos af (some (j,b))::rest) env O:=fun I F ρ w h1 h2=>
 bq.guardT hs (by have:=h1 s;rw[hv] at this;exact this) ht (k I F ρ w h1 h2)
theorem ao.guardF {dd:Option Nat} {j s:Nat} {b t:Bool} (hs:(ops[j]?).bind (fun o:Oper=>o.dst)=some s) (hv:env s=.bool t) (ht:t=!b)
  (k:ao P E ops K rest (xe env dd (.raw undef)) O):ao P E ops K (Oper.mk dd op ty pos af (some (j,b))::rest) env O:=fun I F ρ w h1 h2=>
 bq.guardF hs (by have:=h1 s;rw[hv] at this;exact this) ht (k I F _ w (h1.updO dd rfl) h2)
theorem ao.guardFd {j s:Nat} {b t:Bool} (hs:(ops[j]?).bind (fun o:Oper=>o.dst)=some s) (hv:env s=.bool t) (ht:t=!b)
  (k:ao P E ops K rest (bl env d (.raw undef)) O):ao P E ops K (Oper.mk (some d) op ty pos af (some (j,b))::rest) env O:=ao.guardF hs hv ht k
theorem ao.guardU {dd:Option Nat} {j s:Nat} {b:Bool} (hs:(ops[j]?).bind (fun o:Oper=>o.dst)=some s) (hv:env s=.raw undef)
  (k:ao P E ops K rest (xe env dd (.raw undef)) O):ao P E ops K (Oper.mk dd op ty pos af (some (j,b))::rest) env O:=fun I F ρ w h1 h2=>
 bq.guardU hs (by have:=h1 s;rw[hv] at this;exact this) (k I F _ w (h1.updO dd rfl) h2)
theorem ao.guardUd {j s:Nat} {b:Bool} (hs:(ops[j]?).bind (fun o:Oper=>o.dst)=some s) (hv:env s=.raw undef)
  (k:ao P E ops K rest (bl env d (.raw undef)) O):ao P E ops K (Oper.mk (some d) op ty pos af (some (j,b))::rest) env O:=ao.guardU hs hv k
theorem ao.case {s:Nat} {t:Bool} {l:List Oper} (hv:env s=.bool t) (h1:t=true→ao P E ops K l env O) (h2:t=false→ao P E ops K l env O):ao P E ops K l env O:=by
 have _:=hv
 cases t
 ·exact h2 rfl
 ·exact h1 rfl
end
end
section
section
variable {E:World} {P:Program} {env:aK} {O:OL} {d ty:Nat} {pos:String} {af:Array Edge} {x y z:Operand} {t u e:TypeId}
theorem Gv.ofEv {op:Op} {v:AV} (h:∀(I:G) ρ,dn I env ρ→∃u,bH I v u∧∀w,(execOp (ev ρ) (Oper.mk (some d) op ty pos af none)).run P w=.ok (.value u) w):Gv P env O (Oper.mk (some d) op ty pos af none) v:=
 fun I _ _ ρ h1 _=>let ⟨u,h2,h3⟩:=h I ρ h1;⟨u,h2,fun w _ _ _ _ _=>h3 w⟩
theorem Gv.move {v:AV} (hx:aW env x=v):Gv P env O (Oper.mk (some d) (.move x) ty pos af none) v:=Gv.ofEv fun I ρ h=>⟨ev ρ x,hx▸h.ev x,fun _=>rfl⟩
theorem Gv.assign {v:AV} (hx:aW env x=v):Gv P env O (Oper.mk (some d) (.assign x) ty pos af none) v:=Gv.ofEv fun I ρ h=>⟨ev ρ x,hx▸h.ev x,fun _=>rfl⟩
theorem DV {I:G} {ρ:bD} {b:Bool} (h:dn I env ρ) (hx:aW env x=.bool b):ev ρ x=.bool b:=by have:=h.ev x;rw[hx] at this;exact this
theorem gW {I:G} {ρ:bD} {k:IntKind} {n:Int} (h:dn I env ρ) (hx:aW env x=.int k n):ev ρ x=.int k n:=by have:=h.ev x;rw[hx] at this;exact this
theorem As {I:G} {ρ:bD} {s:ByteArray} (h:dn I env ρ) (hx:aW env x=.str s):ev ρ x=.string s:=by have:=h.ev x;rw[hx] at this;exact this
theorem m9 {I:G} {ρ:bD} {v:Value} (h:dn I env ρ) (hx:aW env x=.raw v):ev ρ x=v:=by have:=h.ev x;rw[hx] at this;exact this
theorem Gv.pickT {b:Bool} {v:AV} (hc:aW env x=.bool b) (hb:b=true) (hy:aW env y=v):Gv P env O (Oper.mk (some d) (.pick x y z) ty pos af none) v:=
 Gv.ofEv fun I ρ h=>⟨ev ρ y,hy▸h.ev y,fun _=>Run.pickT (DV h hc) hb rfl⟩
theorem Gv.pickF {b:Bool} {v:AV} (hc:aW env x=.bool b) (hb:b=false) (hy:aW env z=v):Gv P env O (Oper.mk (some d) (.pick x y z) ty pos af none) v:=
 Gv.ofEv fun I ρ h=>⟨ev ρ z,hy▸h.ev z,fun _=>Run.pickF (DV h hc) hb rfl⟩
theorem Gv.lss {k:IntKind} {a b:Int} (hx:aW env x=.int k a) (hy:aW env y=.int k b):Gv P env O (Oper.mk (some d) (.binOp .lss t x y u) ty pos af none) (.bool (decide (a<b))):=Gv.ofEv fun I ρ h=>⟨_,rfl,fun _=>Run.lss (gW h hx) (gW h hy)⟩
theorem Gv.leq {k:IntKind} {a b:Int} (hx:aW env x=.int k a) (hy:aW env y=.int k b):Gv P env O (Oper.mk (some d) (.binOp .leq t x y u) ty pos af none) (.bool (decide (a≤b))):=Gv.ofEv fun I ρ h=>⟨_,rfl,fun _=>Run.leq (gW h hx) (gW h hy)⟩
theorem Gv.gtr {k:IntKind} {a b:Int} (hx:aW env x=.int k a) (hy:aW env y=.int k b):Gv P env O (Oper.mk (some d) (.binOp .gtr t x y u) ty pos af none) (.bool (decide (b<a))):=Gv.ofEv fun I ρ h=>⟨_,rfl,fun _=>Run.gtr (gW h hx) (gW h hy)⟩
theorem Gv.geq {k:IntKind} {a b:Int} (hx:aW env x=.int k a) (hy:aW env y=.int k b):Gv P env O (Oper.mk (some d) (.binOp .geq t x y u) ty pos af none) (.bool (decide (b≤a))):=Gv.ofEv fun I ρ h=>⟨_,rfl,fun _=>Run.geq (gW h hx) (gW h hy)⟩
theorem Gv.eqlI {k:IntKind} {a b:Int} (hx:aW env x=.int k a) (hy:aW env y=.int k b):Gv P env O (Oper.mk (some d) (.binOp .eql t x y u) ty pos af none) (.bool (decide (a=b))):=Gv.ofEv fun I ρ h=>⟨_,rfl,fun _=>Run.eqlI (gW h hx) (gW h hy)⟩
theorem Gv.neqI {k:IntKind} {a b:Int} (hx:aW env x=.int k a) (hy:aW env y=.int k b):Gv P env O (Oper.mk (some d) (.binOp .neq t x y u) ty pos af none) (.bool (!decide (a=b))):=Gv.ofEv fun I ρ h=>⟨_,rfl,fun _=>by rw[←decide_not];exact Run.neqI (gW h hx) (gW h hy)⟩
theorem Gv.add {a b:Int} (hx:aW env x=.int .i64 a) (hy:aW env y=.int .i64 b) (hr:nK (a+b)):Gv P env O (Oper.mk (some d) (.binOp .add t x y u) ty pos af none) (.int .i64 (a+b)):=Gv.ofEv fun I ρ h=>⟨_,rfl,fun _=>Run.add (gW h hx) (gW h hy) hr⟩
theorem Gv.sub {a b:Int} (hx:aW env x=.int .i64 a) (hy:aW env y=.int .i64 b) (hr:nK (a - b)):Gv P env O (Oper.mk (some d) (.binOp .sub t x y u) ty pos af none) (.int .i64 (a - b)):=Gv.ofEv fun I ρ h=>⟨_,rfl,fun _=>Run.sub (gW h hx) (gW h hy) hr⟩
theorem Gv.mul {a b:Int} (hx:aW env x=.int .i64 a) (hy:aW env y=.int .i64 b) (hr:nK (a*b)):Gv P env O (Oper.mk (some d) (.binOp .mul t x y u) ty pos af none) (.int .i64 (a*b)):=Gv.ofEv fun I ρ h=>⟨_,rfl,fun _=>Run.mul (gW h hx) (gW h hy) hr⟩
theorem Gv.not {b:Bool} (hx:aW env x=.bool b):Gv P env O (Oper.mk (some d) (.unOp .not t x) ty pos af none) (.bool (!b)):=Gv.ofEv fun I ρ h=>⟨_,rfl,fun _=>Run.not (DV h hx)⟩
theorem Gv.eqlT {a b:ByteArray} (hx:aW env x=.str a) (hy:aW env y=.str b):Gv P env O (Oper.mk (some d) (.binOp .eql t x y u) ty pos af none) (.bool (decide (a=b))):=Gv.ofEv fun I ρ h=>⟨_,rfl,fun _=>Run.eqlT (As h hx) (As h hy)⟩
theorem Gv.neqT {a b:ByteArray} (hx:aW env x=.str a) (hy:aW env y=.str b):Gv P env O (Oper.mk (some d) (.binOp .neq t x y u) ty pos af none) (.bool (!decide (a=b))):=Gv.ofEv fun I ρ h=>⟨_,rfl,fun _=>Run.neqT (As h hx) (As h hy)⟩
theorem Gv.neqB {a b:Bool} (ht:P.underlying t=some .bool) (hx:aW env x=.bool a) (hy:aW env y=.bool b):Gv P env O (Oper.mk (some d) (.binOp .neq t x y u) ty pos af none) (.bool (!(a == b))):=Gv.ofEv fun I ρ h=>⟨_,rfl,fun _=>Run.neqB ht (DV h hx) (DV h hy)⟩
theorem Gv.extract {vs:List AV} {i:Nat} {v:AV} (hx:aW env x=.tup vs) (hv:vs[i]?=some v):Gv P env O (Oper.mk (some d) (.extract x i) ty pos af none) v:=Gv.ofEv fun I ρ h=>by
 have:=h.ev x
 rw[hx] at this
 obtain ⟨us,e,hr⟩:=this
 obtain ⟨u,hu,hru⟩:=hr.get hv
 exact ⟨u,hru,fun _=>Run.extract e (by simpa using hu)⟩
theorem Gv.nilCheckO {i off:Nat} (hx:aW env x=.po i off):Gv P env O (Oper.mk (some d) (.nilCheck x) ty pos af none) (.po i off):=Gv.ofEv fun I ρ h=>by
 have h2:=h.ev x
 rw[hx] at h2
 obtain ⟨b,c,e1,e⟩:=id h2
 rw[e] at h2
 exact ⟨_,h2,fun _=>Run.nilCheck e⟩
theorem Gv.lenF {k:Nat} {rows:List (List AV)} (ht:P.underlying t=some (.slice e)) (hx:aW env x=.fro k rows):Gv P env O (Oper.mk (some d) (.call { callee:=.builtin .len,args:=#[x],argTypes:=#[t] }) ty pos af none) (.int .i64 rows.length):=Gv.ofEv fun I ρ h=>by
 have h2:=h.ev x
 rw[hx] at h2
 obtain ⟨a,n,c,e,rfl,_⟩:=h2
 exact ⟨_,rfl,fun _=>Run.lenS ht e⟩
theorem Gv.lenM {α:Type} {enc:α→List AV} {xs:List α} {k:Nat} (ht:P.underlying t=some (.slice e)) (hx:aW env x=.fro k (xs.map enc)):Gv P env O (Oper.mk (some d) (.call { callee:=.builtin .len,args:=#[x],argTypes:=#[t] }) ty pos af none) (.int .i64 xs.length):=by
 have:=Gv.lenF (d:=d) (ty:=ty) (pos:=pos) (af:=af) (O:=O) ht hx
 rwa [List.length_map] at this
theorem Gv.lenO {i n:Nat} (ht:P.underlying t=some (.slice e)) (hx:aW env x=.own i n):Gv P env O (Oper.mk (some d) (.call { callee:=.builtin .len,args:=#[x],argTypes:=#[t] }) ty pos af none) (.int .i64 n):=Gv.ofEv fun I ρ h=>by
 have h2:=h.ev x
 rw[hx] at h2
 obtain ⟨b,c,_,e⟩:=h2
 exact ⟨_,rfl,fun _=>Run.lenS ht e⟩
theorem Gv.lenT {s:ByteArray} (ht:P.underlying t=some .string) (hx:aW env x=.str s):Gv P env O (Oper.mk (some d) (.call { callee:=.builtin .len,args:=#[x],argTypes:=#[t] }) ty pos af none) (.int .i64 s.size):=Gv.ofEv fun I ρ h=>⟨_,rfl,fun _=>Run.lenT ht (As h hx)⟩
theorem Gv.load1F {c:AV} {cs:List AV} (ha:∀w,(isAgg t).run P w=.ok false w) (hx:aW env x=.pf (c::cs)):Gv P env O (Oper.mk (some d) (.load t x) ty pos af none) c:=fun I L E ρ h1 _=>by
 have h2:=h1.ev x
 rw[hx] at h2
 obtain ⟨b,off,vs,e,⟨v,us,e2,h3,h4⟩,h5⟩:=h2
 subst e2
 exact ⟨v,h3,fun w J L' hl hS _=>Run.load1 ha hS e ((h5 0 v rfl).mono hl |>.at_ _)⟩
theorem Gv.loadAF {n:Nat} {cs l:List AV} (ha:∀w,(isAgg t).run P w=.ok true w) (hs:∀w,(sizeOf t).run P w=.ok n w) (hx:aW env x=.pf cs) (hn:Nat.ble n cs.length=true) (hl:cs.take n=l):Gv P env O (Oper.mk (some d) (.load t x) ty pos af none) (.agg l):=fun I L E ρ h1 _=>by
 have h2:=h1.ev x
 rw[hx] at h2
 obtain ⟨b,off,vs,e,h3,h5⟩:=h2
 refine ⟨.agg (vs.take n).toArray,⟨_,rfl,hl▸h3.take n⟩,fun w J L' hk hS _=>Run.loadA ha ?_ hS e ?_⟩
 ·have hn:=Nat.le_of_ble_eq_true hn
  have:=h3.length
  rw[List.length_take,Nat.min_eq_left (by omega)];exact hs
 ·intro j v hj
  rw[List.getElem?_take] at hj
  split at hj
  ·exact ((h5 j v hj).mono hk).at_ _
  ·cases hj
theorem Gv.loadWF {n:Nat} {cs:List AV} (ha:∀w,(isAgg t).run P w=.ok true w) (hs:∀w,(sizeOf t).run P w=.ok n w) (hx:aW env x=.pf cs) (hn:cs.length=n):Gv P env O (Oper.mk (some d) (.load t x) ty pos af none) (.agg cs):=
 Gv.loadAF ha hs hx (by rw[hn];simp) (by rw[←hn];simp)
theorem Gv.fieldF {fs:Array Field} {f:Field} {i sz:Nat} {cs cs':List AV} (ht:P.underlying t=some (.struct fs)) (hf:fs[i]?=some f) (hs:∀w,(sizeOf f.type).run P w=.ok sz w) (hz:sz≠0)
  (hx:aW env x=.pf cs) (hr:cs.drop f.offset=cs'):Gv P env O (Oper.mk (some d) (.fieldAddr t x i) ty pos af none) (.pf cs'):=fun I L E ρ h1 _=>by
 have h2:=h1.ev x
 rw[hx] at h2
 obtain ⟨b,off,vs,e,h3,h5⟩:=h2
 refine ⟨.pointer (some ⟨b,off+f.offset,none⟩),⟨b,_,vs.drop f.offset,rfl,hr▸h3.drop _,fun j u hj=>?_⟩,fun w J L' _ _ _=>Run.field ht hf hs hz e rfl⟩
 rw[List.getElem?_drop] at hj
 have:=h5 _ _ hj
 rwa [←Nat.add_assoc] at this
theorem Gv.fieldO {fs:Array Field} {f:Field} {i id off r sz:Nat} (ht:P.underlying t=some (.struct fs)) (hf:fs[i]?=some f) (hs:∀w,(sizeOf f.type).run P w=.ok sz w) (hz:sz≠0)
  (hx:aW env x=.po id off) (hr:off+f.offset=r):Gv P env O (Oper.mk (some d) (.fieldAddr t x i) ty pos af none) (.po id r):=fun I L E ρ h1 _=>by
 have h2:=h1.ev x
 rw[hx] at h2
 obtain ⟨b,c,e1,e⟩:=h2
 exact ⟨_,⟨b,c,e1,rfl⟩,fun w J L' _ _ _=>Run.field ht hf hs hz e hr⟩
theorem Gv.idxF {k j:Nat} {i:Int} {rows:List (List AV)} {r:List AV} (ht:P.underlying t=some (.slice e)) (hs:∀w,(sizeOf e).run P w=.ok k w) (hx:aW env x=.fro k rows) (hy:aW env y=.int .i64 i) (hi:i=(j:Int)) (hj:rows[j]?=some r) :
  Gv P env O (Oper.mk (some d) (.indexAddr t x y) ty pos af none) (.pf r):=fun I L E ρ h1 _=>by
 have h2:=h1.ev x
 rw[hx] at h2
 obtain ⟨a,n,c,ex,hn,_,_,h3⟩:=h2
 obtain ⟨b,off,vs,rfl,h4,h5,h6⟩:=h3.get hj
 have hlt:j<n:=by rw[hn];exact (List.getElem?_eq_some_iff.1 hj).1
 refine ⟨.pointer (some ⟨b,off+j*k,none⟩),⟨b,_,vs,rfl,h5,fun i u hu=>?_⟩,fun w J L' _ _ _=>Run.idx ht hs ex (gW h1 hy) hi hlt⟩
 have:=h6 i u hu
 rwa [Nat.zero_add] at this
theorem Gv.idxM {α:Type} {enc:α→List AV} {xs:List α} {k j:Nat} {i:Int} {v:α} (ht:P.underlying t=some (.slice e)) (hs:∀w,(sizeOf e).run P w=.ok k w) (hx:aW env x=.fro k (xs.map enc)) (hy:aW env y=.int .i64 i) (hi:i=(j:Int)) (hj:xs[j]?=some v) :
  Gv P env O (Oper.mk (some d) (.indexAddr t x y) ty pos af none) (.pf (enc v)):=Gv.idxF ht hs hx hy hi (by rw[List.getElem?_map,hj];rfl)
end
def oD (O:OL) (i:Nat) (o:bo):Prop:=∃O',cS O i o O'
theorem oD.cells {I:G} {O:OL} {L:List (Nat × Obj)} {i:Nat} {T:TypeId} {cs:List AV} (h:oD O i (.cells T cs)) (hL:bA I O L):∃b c vs,I.h i=some (some b,c)∧RepL I cs vs∧(b,Obj.cells vs.toArray T (0,0))∈L:=by
 obtain ⟨O',h⟩:=h
 obtain ⟨A,B,hp,h1,_⟩:=h.rep hL
 obtain ⟨b,c,vs,h2,h3,_,rfl⟩:=h1
 exact ⟨b,c,vs,h2,h3,hp.mem_iff.2 (by simp)⟩
theorem oD.grow {I:G} {O:OL} {L:List (Nat × Obj)} {i k:Nat} {T:TypeId} {cs:List AV} (h:oD O i (.grow k T cs)) (hL:bA I O L) (hne:cs≠[]):∃b c vs junk,I.h i=some (some b,c)∧RepL I cs vs∧(b,Obj.cells (vs++junk).toArray T (0,0))∈L:=by
 obtain ⟨O',h⟩:=h
 obtain ⟨A,B,hp,h1,_⟩:=h.rep hL
 obtain ⟨b,c,n,vs,h2,h3,_,h4,h5,h6⟩:=h1
 rcases h6 with ⟨_,h6,_⟩|⟨b',junk,e,e2,h6⟩
 ·have:=h3.length
  have:n=0:=by omega
  subst this
  simp at h4
  subst h4
  simp at this
  exact absurd this.symm (by simpa using hne)
 ·cases b with
  |none=>simp[adr] at e
  |some b=>
   simp[adr] at e
   subst e e2
   exact ⟨b,c,vs,junk,h2,h3,hp.mem_iff.2 (by simp)⟩
section
variable {E:World} {P:Program} {env:aK} {O:OL} {d ty:Nat} {pos:String} {af:Array Edge} {x y z:Operand} {t u e:TypeId}
theorem Gv.load1C {i off:Nat} {T:TypeId} {c:AV} {cs tl:List AV} (ha:∀w,(isAgg t).run P w=.ok false w) (hx:aW env x=.po i off) (hO:oD O i (.cells T cs)) (hv:cs.drop off=c::tl):Gv P env O (Oper.mk (some d) (.load t x) ty pos af none) c:=fun I L E ρ h1 hL=>by
 have h2:=h1.ev x
 rw[hx] at h2
 obtain ⟨b,k,e1,e⟩:=h2
 obtain ⟨b',k',vs,e2,h3,hm⟩:=hO.cells hL
 rw[e1] at e2;cases e2
 have h4:=h3.drop off
 rw[hv] at h4
 obtain ⟨v,us,e5,h6,h7⟩:=h4
 exact ⟨v,h6,fun w J L' hl hS hsub=>Run.load1 ha hS e (.inr ⟨_,_,_,hsub _ hm,by rw[List.getElem?_toArray];exact oI e5⟩)⟩
theorem Gv.loadAC {i off n:Nat} {T:TypeId} {cs l:List AV} (ha:∀w,(isAgg t).run P w=.ok true w) (hs:∀w,(sizeOf t).run P w=.ok n w) (hx:aW env x=.po i off) (hO:oD O i (.cells T cs)) (hn:Nat.ble (off+n) cs.length=true) (hl:(cs.drop off).take n=l) :
  Gv P env O (Oper.mk (some d) (.load t x) ty pos af none) (.agg l):=fun I L E ρ h1 hL=>by
 have h2:=h1.ev x
 rw[hx] at h2
 obtain ⟨b,k,e1,e⟩:=h2
 obtain ⟨b',k',vs,e2,h3,hm⟩:=hO.cells hL
 rw[e1] at e2;cases e2
 refine ⟨.agg ((vs.drop off).take n).toArray,⟨_,rfl,hl▸(h3.drop off).take n⟩,fun w J L' hk hS hsub=>Run.loadA ha ?_ hS e ?_⟩
 ·have hn:=Nat.le_of_ble_eq_true hn
  have:=h3.length
  rw[List.length_take,List.length_drop,Nat.min_eq_left (by omega)];exact hs
 ·intro j v hj
  rw[List.getElem?_take] at hj
  split at hj
  ·rw[List.getElem?_drop] at hj
   exact .inr ⟨_,_,_,hsub _ hm,by rw[List.getElem?_toArray];exact hj⟩
  ·cases hj
theorem Gv.loadWC {i n:Nat} {T:TypeId} {cs:List AV} (ha:∀w,(isAgg t).run P w=.ok true w) (hs:∀w,(sizeOf t).run P w=.ok n w) (hx:aW env x=.po i 0) (hO:oD O i (.cells T cs)) (hn:cs.length=n):Gv P env O (Oper.mk (some d) (.load t x) ty pos af none) (.agg cs):=
 Gv.loadAC ha hs hx hO (by rw[hn];simp) (by rw[←hn];simp)
theorem Gv.load1G {i off k:Nat} {T:TypeId} {c:AV} {cs tl:List AV} (ha:∀w,(isAgg t).run P w=.ok false w) (hx:aW env x=.po i off) (hO:oD O i (.grow k T cs)) (hv:cs.drop off=c::tl):Gv P env O (Oper.mk (some d) (.load t x) ty pos af none) c:=fun I L E ρ h1 hL=>by
 have h2:=h1.ev x
 rw[hx] at h2
 obtain ⟨b,k,e1,e⟩:=h2
 obtain ⟨b',k',vs,junk,e2,h3,hm⟩:=hO.grow hL (by intro h;subst h;simp at hv)
 rw[e1] at e2;cases e2
 have h4:=h3.drop off
 rw[hv] at h4
 obtain ⟨v,us,e5,h6,h7⟩:=h4
 exact ⟨v,h6,fun w J L' hl hS hsub=>Run.load1 ha hS e (.inr ⟨_,_,_,hsub _ hm,by
  have:=oI e5
  rw[List.getElem?_toArray,List.getElem?_append_left (List.getElem?_eq_some_iff.1 this).1];exact this⟩)⟩
theorem Gv.loadAG {i off n k:Nat} {T:TypeId} {cs l:List AV} (ha:∀w,(isAgg t).run P w=.ok true w) (hs:∀w,(sizeOf t).run P w=.ok n w) (hx:aW env x=.po i off) (hO:oD O i (.grow k T cs)) (hne:cs≠[]) (hn:off+n≤cs.length) (hl:(cs.drop off).take n=l) :
  Gv P env O (Oper.mk (some d) (.load t x) ty pos af none) (.agg l):=fun I L E ρ h1 hL=>by
 have h2:=h1.ev x
 rw[hx] at h2
 obtain ⟨b,k,e1,e⟩:=h2
 obtain ⟨b',k',vs,junk,e2,h3,hm⟩:=hO.grow hL hne
 rw[e1] at e2;cases e2
 refine ⟨.agg ((vs.drop off).take n).toArray,⟨_,rfl,hl▸(h3.drop off).take n⟩,fun w J L' hk hS hsub=>Run.loadA ha ?_ hS e ?_⟩
 ·have:=h3.length
  rw[List.length_take,List.length_drop,Nat.min_eq_left (by omega)];exact hs
 ·intro j v hj
  rw[List.getElem?_take] at hj
  split at hj
  ·rw[List.getElem?_drop] at hj
   exact .inr ⟨_,_,_,hsub _ hm,by rw[List.getElem?_toArray,List.getElem?_append_left (List.getElem?_eq_some_iff.1 hj).1];exact hj⟩
  ·cases hj
theorem Gv.idxO {i n k j:Nat} {a:Int} {T:TypeId} {cs:List AV} (ht:P.underlying t=some (.slice e)) (hs:∀w,(sizeOf e).run P w=.ok k w) (hx:aW env x=.own i n) (hy:aW env y=.int .i64 a) (hi:a=(j:Int)) (hO:oD O i (.grow k T cs)) (hne:cs≠[]) (hj:j<n) :
  Gv P env O (Oper.mk (some d) (.indexAddr t x y) ty pos af none) (.po i (j*k)):=fun I L E ρ h1 hL=>by
 have h2:=h1.ev x
 rw[hx] at h2
 obtain ⟨b,c,e1,e⟩:=h2
 obtain ⟨b',k',vs,junk,e2,_⟩:=hO.grow hL hne
 rw[e1] at e2;cases e2
 refine ⟨.pointer (some ⟨b',0+j*k,none⟩),⟨b',_,e1,by rw[Nat.zero_add]⟩,fun w J L' _ _ _=>Run.idx ht hs e (gW h1 hy) hi hj⟩
end
end
section
def lit:Value→AV
 |.bool b=>.bool b
 |.int k n=>.int k n
 |.string s=>.str s
 |v=>.raw v
theorem rN (I:G) (v:Value):bH I (lit v) v:=by cases v<;>exact rfl
theorem d9 (I:G):∀l:List Value,RepL I (l.map lit) l
 |[]=>rfl
 |v::l=>⟨v,l,rfl,rN I v,d9 I l⟩
def AV.cs:AV→List AV
 |.agg cs=>cs
 |x=>[x]
def AV.sto:AV→Bool
 |.any | .tup _=>false
 |.raw v=>v.oneCell'
 |_=>true
theorem AV.cs_rep {I:G} {x:AV} {v:Value} (h:bH I x v) (hs:x.sto=true):RepL I x.cs v.cells.toList:=by
 cases x
 case agg cs=>obtain ⟨vs,e,h2⟩:=h;subst e;simpa [AV.cs,Value.cells] using h2
 case any=>cases hs
 case tup=>cases hs
 all_goals
  have hc:v.cells=#[v]:=by
   have:=AV.cell_rep h (by first|rfl|exact hs)
   cases v<;>first|rfl|(simp[Value.oneCell'] at this)
  rw[hc]
  exact RepL.one h
theorem fm.name {I:G} {O:OL} {F:List (Nat × Obj)} {E w:World} (h:fm I O F E w):∃i,∀hd:Option Nat × Nat,∃J:G,J.k=I.k∧I.le J∧J.h i=some hd∧∃top,∀i,top≤i→J.h i=none:=by
 obtain ⟨⟨top,ht⟩,_⟩:=h
 refine ⟨top,fun hd=>⟨⟨I.k,fun j=>if j=top then some hd else I.h j⟩,rfl,⟨.refl _,fun i x hi=>?_⟩,by simp,top+1,fun i hi=>?_⟩⟩
 ·have:i≠top:=fun e=>by rw[e,ht top (Nat.le_refl _)] at hi;cases hi
  simp[this,hi]
 ·simp only
  rw[if_neg (by omega)];exact ht i (by omega)
theorem bA.perm {I:G} {O O':OL} (h:O.Perm O'):∀{L},bA I O L→∃L',bA I O' L'∧L.Perm L':=by
 induction h with
 |nil=>intro L h;exact ⟨L,h,.refl _⟩
 |cons x _ ih=>rintro L ⟨A,B,e,h1,h2⟩;obtain ⟨B',h3,h4⟩:=ih h2;exact ⟨A++B',⟨A,B',rfl,h1,h3⟩,e▸h4.append_left A⟩
 |swap x y l=>
  rintro L ⟨A,B,e,h1,C,D,e2,h2,h3⟩
  refine ⟨C++(A++D),⟨C,A++D,rfl,h2,A,D,rfl,h1,h3⟩,?_⟩
  subst e e2
  rw[←List.append_assoc,←List.append_assoc]
  exact List.perm_append_comm.append_right D
 |trans _ _ ih1 ih2=>intro L h;obtain ⟨L1,h1,h2⟩:=ih1 h;obtain ⟨L2,h3,h4⟩:=ih2 h1;exact ⟨L2,h3,h2.trans h4⟩
def bV (P:Program) (E:World) (f:FuncId) (args:List AV) (O:OL) (R:AV→OL→Prop):Prop:=
 ∀I F w vs,RepL I args vs→fm I O F E w→Fn P f vs.toArray w fun v w'=>∃J x O',I.le J∧bH J x v∧fm J O' F E w'∧R x O'
def aT (P:Program) (E:World) (f:FuncId) (args:List AV) (r:AV):Prop:=bV P E f args [] fun x _=>x=r
theorem bV.mono {E:World} {P:Program} {f:FuncId} {args:List AV} {O:OL} {R R':AV→OL→Prop} (h:bV P E f args O R) (hr:∀x O,R x O→R' x O):bV P E f args O R':=fun I F w vs h1 h2=>
 (h I F w vs h1 h2).mono fun _ _ ⟨J,x,O',a,b,c,d⟩=>⟨J,x,O',a,b,c,hr _ _ d⟩
def E6 (E:World) (rs:Array ResultVar) (env:aK) (O:OL) (P:Program) (x:AV):Prop:=
 ∀I F ρ w,dn I env ρ→fm I O F E w→∃v,lr rs ρ P w=.ok v w∧bH I x v
def dh (P:Program) (E:World) (rs:Array ResultVar) (R:AV→OL→Prop):Exit→aK→OL→Prop:=fun e env O=>
 match e with
 |.normal | .ret=>∀I F ρ w,dn I env ρ→fm I O F E w→∃v,lr rs ρ P w=.ok v w∧∃J x O',I.le J∧bH J x v∧fm J O' F E w∧R x O'
 |_=>False
def xf (args:List AV):aK:=fun t=>(args[t]?).getD (.raw undef)
theorem vH {I:G} {args:List AV} {vs:List Value} (h:RepL I args vs):dn I (xf args) (qm vs.toArray):=fun t=>by
 unfold xf qm
 cases ha:args[t]? with
 |none=>
  have:vs[t]?=none:=by
   rw[List.getElem?_eq_none_iff] at ha ⊢
   rw[h.length];exact ha
  simp[Array.getD_eq_getD_getElem?,this,bH]
 |some x=>
  obtain ⟨v,hv,hr⟩:=h.get ha
  simp[Array.getD_eq_getD_getElem?,hv,hr]
theorem bV.intro {E:World} {P:Program} {f:FuncId} {fn:Func} {c:Code} {args:List AV} {O:OL} {R:AV→OL→Prop} (hf:P.funcs[f]?=some fn) (hb:fn.body=some c)
  (hn:fn.name≠"runtime.NumGoroutine") (hs:Nat.ble args.length fn.ntmps=true) (h:cG P E fn.ntmps c (dh P E fn.results R) (xf args) O):bV P E f args O R:=fun I F w vs h1 h2=>
 Fn.intro hf hb hn (by rw[List.size_toArray,h1.length];exact hs) ((h I F _ w (vH h1) h2).mono fun e ρ w ⟨J,env,O,a,b,c,d⟩=>by
  cases e<;>first|exact d.elim|(obtain ⟨v,h3,K,x,O',h4,h5,h6,h7⟩:=d J F ρ w b c;exact ⟨v,h3,K,x,O',a.trans h4,h5,h6,h7⟩))
section
variable {E:World} {P:Program} {env:aK} {O:OL} {R:AV→OL→Prop}
theorem dh.of {rs:Array ResultVar} {x:AV} (h:E6 E rs env O P x) (hr:R x O):dh P E rs R .ret env O:=fun I F ρ w h1 h2=>by
 obtain ⟨v,h3,h4⟩:=h I F ρ w h1 h2
 exact ⟨v,h3,I,x,O,.refl _,h4,h2,hr⟩
theorem dh.t1 {t:Nat} {x:AV} (hv:env t=x) (h:R x O):dh P E #[.tmp t] R .ret env O:=dh.of (fun I F ρ w h1 _=>⟨_,by simp[lr],hv▸h1 t⟩) h
theorem dh.t2 {t u:Nat} {x y:AV} (hv:env t=x) (hu:env u=y) (h:R (.tup [x,y]) O):dh P E #[.tmp t,.tmp u] R .ret env O:=
 dh.of (x:=.tup [x,y]) (fun I F ρ w h1 _=>⟨.tuple #[ρ t,ρ u],by simp[lr],⟨[ρ t,ρ u],rfl,⟨_,_,rfl,hv▸h1 t,⟨_,_,rfl,hu▸h1 u,rfl⟩⟩⟩⟩) h
theorem dh.c1 {t T i:Nat} {T':TypeId} {cs:List AV} {n:Nat} (hv:env t=.po i 0) (hO:oD O i (.cells T' cs)) (ha:∀w,(isAgg T).run P w=.ok true w) (hs:∀w,(sizeOf T).run P w=.ok n w) (hn:cs.length=n) (h:R (.agg cs) O) :
  dh P E #[.cell t T] R .ret env O:=dh.of (fun I F ρ w h1 h2=>by
 obtain ⟨L,hL,hS⟩:=h2.2
 have h3:=h1 t
 rw[hv] at h3
 obtain ⟨b,c,e1,e⟩:=h3
 obtain ⟨b',c',vs,e2,h4,hm⟩:=hO.cells hL
 rw[e1] at e2;cases e2
 have hl:=el (P:=P) (w:=w) (b:=b) (off:=0) ha (cs:=vs) (by rw[h4.length,hn];exact hs) (fun j v hj=>by
  rw[Nat.zero_add]
  exact hS.at_ (.inr ⟨_,_,_,List.mem_append_left _ hm,by rw[List.getElem?_toArray];exact hj⟩))
 exact ⟨.agg vs.toArray,by simp[lr,e,asAddr,hl],⟨vs,rfl,h4⟩⟩) h
end
section
variable {E:World} {P:Program} {ops:Array Oper} {K:aK→OL→Prop} {env:aK} {O O':OL} {rest:List Oper}
variable {d ty:Nat} {pos:String} {af:Array Edge} {x y z:Operand} {t u e:TypeId}
theorem ao.boxF {v:AV} {cs:List AV} (hx:aW env x=v) (hv:v.sto=true) (hc:v.cs=cs) (k:ao P E ops K rest (bl env d (.pf cs)) O):ao P E ops K (Oper.mk (some d) (.box t x) ty pos af none::rest) env O:=fun I F ρ w h1 h2=>by
 obtain ⟨ht,L,hL,hS⟩:=h2
 refine bq.boxP hS rfl fun b w' J hl hb hS'=>?_
 have h3:=h1.ev x
 rw[hx] at h3
 have h4:=AV.cs_rep h3 hv
 rw[hc] at h4
 let I':G:=⟨J,I.h⟩
 have hle:I.le I':=⟨hl,fun _ _ h=>h⟩
 refine yt (fun _ _=>cO.up hle) _ _ _ (k I' F _ w' ((h1.mono hle).upd d ⟨b,0,_,rfl,RepL.mono hle _ _ h4,fun j u hj=>⟨_,_,_,hb,?_⟩⟩) ⟨ht,L,hL.mono hle,hS'⟩)
 rw[Nat.zero_add];simpa using hj
theorem CV {I:G} {F:List (Nat × Obj)} {E w w':World} {L:List (Nat × Obj)} {b:Nat} {T:TypeId} {cs:List AV} {vs:List Value} (h2:fm I O F E w) (hL:bA I O L) (hr:RepL I cs vs) (h1c:∀u∈vs,u.oneCell'=true)
  (hS:SL I.k ((b,.cells vs.toArray T (0,0))::(L++F)) E w'):∃i J,I.le J∧J.h i=some (some b,0)∧fm J ((i,.cells T cs)::O) F E w':=by
 obtain ⟨i,hi⟩:=h2.name
 obtain ⟨J,e1,hle,e2,htop⟩:=hi (some b,0)
 exact ⟨i,J,hle,e2,htop,_,⟨_,L,rfl,⟨b,0,vs,e2,RepL.mono hle _ _ hr,h1c,rfl⟩,hL.mono hle⟩,by rw[e1];exact hS⟩
theorem RepL.cell1 {I:G} {cs:List AV} {vs:List Value} (h4:RepL I cs vs) (hc1:cs.all AV.cell=true):∀u∈vs,u.oneCell'=true:=by
 intro u hu
 obtain ⟨j,hj⟩:=List.mem_iff_getElem?.1 hu
 have hlen:=h4.length
 have hjl:=(List.getElem?_eq_some_iff.1 hj).1
 have hx:cs[j]?=some cs[j]:=List.getElem?_eq_getElem (by omega)
 obtain ⟨v',hv',hr'⟩:=h4.get hx
 rw[hj] at hv';cases hv'
 exact AV.cell_rep hr' (List.all_eq_true.1 hc1 _ (List.getElem_mem _))
theorem ao.alloc {zv:Value} {cs:List AV} (hz:∀w,(zeroValue t).run P w=.ok zv w) (hc:zv.cells.toList.map lit=cs) (h1c:zv.cells.toList.all Value.oneCell'=true) (k:∀i,ao P E ops K rest (bl env d (.po i 0)) ((i,.cells t cs)::O)) :
  ao P E ops K (Oper.mk (some d) (.alloc t) ty pos af none::rest) env O:=fun I F ρ w h1 h2=>by
 obtain ⟨L,hL,hS⟩:=h2.2
 refine bq.alloc hz hS fun b w' hS'=>?_
 obtain ⟨i,J,hle,e2,h5⟩:=CV (O:=O) (w':=w') (b:=b) (T:=t) h2 hL (hc▸d9 I zv.cells.toList) (List.all_eq_true.1 h1c) (by simpa using hS')
 exact yt (fun _ _=>cO.up hle) _ _ _ (k i J F _ w' ((h1.mono hle).upd d ⟨b,0,e2,rfl⟩) h5)
theorem gi {b off n:Nat} {vs:List Value} {T:TypeId} {v:Value} {old:List Value} {w:World} (hs:∀w,(sizeOf t).run P w=.ok n w) (hvc:v.cells=vs.toArray) (hn:vs.length=n) (h1c:∀u∈vs,u.oneCell'=true) (hb:off+n≤old.length)
  (hown:w.heap[b]?=some (.cells old.toArray T (0,0))):(Instr.storeAt t (.pointer (some ⟨b,off,none⟩)) v).run P w=.ok () (w.setRow b (old.take off++vs++old.drop (off+n)).toArray):=by
 have hst:(storeCells (⟨b,off,none⟩:Addr) vs 0).run P w=.ok () (w.setRow b (old.take off++vs++old.drop (off+n)).toArray):=by
  rw[run_storeCells_at (P:=P) b off T vs 0 old.toArray w hown (by simp;omega) h1c]
  simp[hn]
 have hvs:v.cells.size=n:=by rw[hvc];simpa using hn
 simp[Instr.storeAt,Instr.sureAddr,storeVar,hs,hvc,hn,hst]
theorem SL.turn1 {I:aI} {L:List (Nat × Obj)} {E w:World} {b:Nat} {old new:List Value} {T:TypeId} (h:SL I ((b,.cells old.toArray T (0,0))::L) E w):SL I ((b,.cells new.toArray T (0,0))::L) E (w.setRow b new.toArray):=by
 have hown:=h.own _ (.head _)
 simp only at hown
 refine h.turn rfl rfl rfl ?_ ?_
 ·simp[World.setRow,Array.getElem?_modify,hown]
 ·intro k hk
  simp only[World.setRow,Array.getElem?_modify]
  rw[if_neg (by omega)]
theorem ao.storeC {i off n:Nat} {T:TypeId} {v:AV} {cs l new:List AV} (hs:∀w,(sizeOf t).run P w=.ok n w) (hx:aW env x=.po i off) (hy:aW env y=v) (hv:v.sto=true) (hl:v.cs=l) (hl1:l.all AV.cell=true) (hn:l.length=n)
  (hO:fe O i (.cells T cs) (.cells T new) O') (hb:Nat.ble (off+n) cs.length=true) (hnew:cs.take off++l++cs.drop (off+n)=new) (k:ao P E ops K rest env O'):ao P E ops K (Oper.mk none (.store t x y) ty pos af none::rest) env O:=fun I F ρ w h1 h2=>by
 obtain ⟨htop,L,hL,hS⟩:=h2
 have h3:=h1.ev x
 rw[hx] at h3
 obtain ⟨b,c,e1,e⟩:=h3
 have h4:=h1.ev y
 rw[hy] at h4
 have h5:=AV.cs_rep h4 hv
 rw[hl] at h5
 obtain ⟨A,B,hp,⟨b',c',vs,e2,h6,h6c,rfl⟩,hback⟩:=hO.rep hL
 rw[e1] at e2;cases e2
 have hS2:SL I.k ((b,.cells vs.toArray T (0,0))::(B++F)) E w:=hS.perm ((hp.append_right F).symm)
 have hb:=Nat.le_of_ble_eq_true hb
 have hrun:=gi (P:=P) (t:=t) (b:=b) (off:=off) (v:=ev ρ y) (vs:=(ev ρ y).cells.toList) (old:=vs) (w:=w) hs (by simp) (by rw[h5.length,hn]) (h5.cell1 hl1) (by rw[h6.length];exact hb) (hS2.own _ (.head _))
 refine bq.step rfl ?_
 unfold dz
 have:(execOp (ev ρ) (Oper.mk none (.store t x y) ty pos af none)).run P w=.ok .skip (w.setRow b (vs.take off++(ev ρ y).cells.toList++vs.drop (off+n)).toArray):=by
  simp only[execOp,e]
  rw[Sem.run_bind,hrun];rfl
 rw[this]
 have hnr:RepL I new (vs.take off++(ev ρ y).cells.toList++vs.drop (off+n)):=hnew▸((h6.take off).append h5).append (h6.drop (off+n))
 obtain ⟨L',h7,h8⟩:=hback (G.le.refl I) (A':=[(b,.cells (vs.take off++(ev ρ y).cells.toList++vs.drop (off+n)).toArray T (0,0))]) ⟨b,c,_,e1,hnr,by
  intro u hu
  simp only[List.mem_append] at hu
  rcases hu with (hu|hu)|hu
  ·exact h6c u (List.mem_of_mem_take hu)
  ·exact h5.cell1 hl1 u hu
  ·exact h6c u (List.mem_of_mem_drop hu),rfl⟩
 exact k I F ρ _ h1 ⟨htop,L',h7,(hS2.turn1).perm (h8.append_right F)⟩
end
end
section
def fX (place:Nat→Option (Nat × Nat)):List AV→List (Nat × List AV)→Option (List AV)
 |cells,[]=>some cells
 |cells,(i,xs)::rest=>
  match place i with
  |none=>none
  |some (off,size)=>bif Nat.beq xs.length size&&Nat.ble (off+size) cells.length then fX place (cells.take off++(xs++cells.drop (off+size))) rest else none
theorem na (off:Nat):∀(l:List Value) (k:Nat) (cs:Array Value),off+k+l.length≤cs.size→((l.zipIdx k).foldl (fun cs (x:Value × Nat)=>cs.setIfInBounds (off+x.2) x.1) cs).toList=cs.toList.take (off+k)++l++cs.toList.drop (off+k+l.length):=by
 intro l
 induction l with
 |nil=>intro k cs _;simp
 |cons c l ih=>
  intro k cs hk
  simp only[List.zipIdx_cons,List.foldl_cons]
  rw[ih (k+1) _ (by simp at hk ⊢;omega)]
  simp only[Array.toList_setIfInBounds,List.length_cons]
  have hk':off+k<cs.toList.length:=by simp at hk ⊢;omega
  rw[←Nat.add_assoc off k 1,List.take_succ_eq_append_getElem (by simpa using hk'),List.getElem_set_self,List.take_set_of_le (Nat.le_refl _)]
  rw[List.drop_set_of_lt (by omega:off+k<off+k+1+l.length)]
  simp only[List.append_assoc,List.singleton_append]
  have:off+k+1+l.length=off+k+(l.length+1):=by omega
  rw[this]
theorem iS {I:G} {place:Nat→Option (Nat × Nat)}:∀(l:List (Nat × Value)) (cps:List (Nat × List AV)) (cells:List AV) (vcells:Array Value) (rs:List AV),
  cps.map (·.1)=l.map (·.1)→(∀(j:Nat) p q,l[j]?=some p→cps[j]?=some q→RepL I q.2 p.2.cells.toList)→RepL I cells vcells.toList→fX place cells cps=some rs →
  ∃vc,Instr.fill place vcells l=some vc∧RepL I rs vc.toList
 |[],[],cells,vcells,rs,_,_,h,hf=>⟨vcells,rfl,by cases hf;exact h⟩
 |[],_::_,_,_,_,h,_,_,_=>by cases h
 |_::_,[],_,_,_,h,_,_,_=>by cases h
 |(i,v)::l,(i',xs)::cps,cells,vcells,rs,hk,hp,h,hf=>by
  simp only[List.map_cons,List.cons.injEq] at hk
  obtain ⟨rfl,hk⟩:=hk
  unfold fX at hf
  unfold Instr.fill
  cases hpl:place i' with
  |none=>rw[hpl] at hf;cases hf
  |some os=>
   obtain ⟨off,size⟩:=os
   rw[hpl] at hf
   simp only at hf ⊢
   have hx:=hp 0 _ _ rfl rfl
   simp only at hx
   have hxl:=hx.length
   have hcl:=h.length
   simp only[Array.length_toList] at hxl hcl
   cases hb:(Nat.beq xs.length size&&Nat.ble (off+size) cells.length) with
   |false=>rw[hb] at hf;cases hf
   |true=>
    rw[hb] at hf
    simp only[cond_true] at hf
    simp only[Bool.and_eq_true] at hb
    have e1:=Nat.eq_of_beq_eq_true hb.1
    have e2:=Nat.le_of_ble_eq_true hb.2
    rw[if_neg (show ¬((v.cells.size≠size||off+v.cells.size>vcells.size)=true) by simp;omega)]
    have hfold:=na off v.cells.toList 0 vcells (by simp;omega)
    simp only[Nat.add_zero] at hfold
    have hfa:(v.cells.zipIdx.foldl (fun cs (x:Value × Nat)=>cs.setIfInBounds (off+x.2) x.1) vcells).toList=vcells.toList.take off++v.cells.toList++vcells.toList.drop (off+size):=by
     rw[←Array.foldl_toList]
     have:v.cells.zipIdx.toList=v.cells.toList.zipIdx 0:=by simp
     have hlen:v.cells.toList.length=size:=by rw[Array.length_toList];omega
     rw[this,hfold,hlen]
    refine iS l cps _ _ rs hk (fun j p q h1 h2=>hp (j+1) p q (by simpa using h1) (by simpa using h2)) ?_ hf
    rw[hfa,List.append_assoc]
    exact (h.take off).append (hx.append (h.drop _))
def gj (P:Program) (t:TypeId) (places:Array (Nat × Nat)) (zs:List AV):Prop:=
 ∃fs zv,P.underlying t=some (.struct fs)∧(∀w,(zeroValue t).run P w=.ok zv w)∧(∀w,(fs.mapM (m:=Sem) fun f=>do pure (f.offset,←sizeOf f.type)).run P w=.ok places w)∧zv.cells.toList.map lit=zs
def kU (P:Program) (t:TypeId) (k:Nat) (zs:List AV):Prop:=
 ∃n e zv,P.underlying t=some (.array n e)∧(∀w,(zeroValue t).run P w=.ok zv w)∧(∀w,(sizeOf e).run P w=.ok k w)∧zv.cells.toList.map lit=zs
section
variable {E:World} {P:Program} {ops:Array Oper} {K:aK→OL→Prop} {env:aK} {O O':OL} {rest:List Oper}
variable {d ty:Nat} {pos:String} {af:Array Edge} {x y z:Operand} {t u e:TypeId}
theorem jP {I:G} {ρ:bD} (h1:dn I env ρ) (l:List (Nat × Operand)) (hs:l.all (fun p=>(aW env p.2).sto)=true) (j:Nat) (p:Nat × Value) (q:Nat × List AV)
  (hp:(l.map fun p=>(p.1,ev ρ p.2))[j]?=some p) (hq:(l.map fun p=>(p.1,(aW env p.2).cs))[j]?=some q):RepL I q.2 p.2.cells.toList:=by
 rw[List.getElem?_map] at hp hq
 cases hl:l[j]? with
 |none=>rw[hl] at hp;cases hp
 |some o=>
  rw[hl] at hp hq
  cases hp;cases hq
  exact AV.cs_rep (h1.ev o.2) (List.all_eq_true.1 hs _ (List.mem_of_getElem? hl))
theorem Gv.build {places:Array (Nat × Nat)} {zs rs:List AV} {l:List (Nat × Operand)} {cps:List (Nat × List AV)} (hpl:gj P t places zs) (hs:l.all (fun p=>(aW env p.2).sto)=true) (hv:l.map (fun p=>(p.1,(aW env p.2).cs))=cps)
  (hf:fX (places[·]?) zs cps=some rs):Gv P env O (Oper.mk (some d) (.build t l.toArray) ty pos af none) (.agg rs):=Gv.ofEv fun I ρ h=>by
 obtain ⟨fs,zv,ht,hz,hp,hc⟩:=hpl
 obtain ⟨vc,h1,h2⟩:=iS (I:=I) (place:=(places[·]?)) (l.map fun p=>(p.1,ev ρ p.2)) cps zs zv.cells rs (by subst hv;simp) (fun j p q hj hq=>jP h l hs j p q hj (hv▸hq)) (hc▸d9 I _) hf
 refine ⟨.agg vc,⟨vc.toList,by simp,h2⟩,fun w=>?_⟩
 have hrun:(Instr.build t (l.map fun p=>(p.1,ev ρ p.2)).toArray).run P w=.ok (.agg vc) w:=by
  unfold Instr.build
  simp only[Sem.run_bind,hz,Result.andThen_ok,run_underlying ht]
  rw[hp]
  simp only[Result.andThen_ok,h1]
  rfl
 simp only[execOp,List.map_toArray]
 rw[Sem.run_bind,hrun];rfl
theorem Gv.buildA {k:Nat} {zs rs:List AV} {l:List (Nat × Operand)} {cps:List (Nat × List AV)} (hpl:kU P t k zs) (hs:l.all (fun p=>(aW env p.2).sto)=true) (hv:l.map (fun p=>(p.1,(aW env p.2).cs))=cps)
  (hf:fX (fun i=>some (i*k,k)) zs cps=some rs):Gv P env O (Oper.mk (some d) (.build t l.toArray) ty pos af none) (.agg rs):=Gv.ofEv fun I ρ h=>by
 obtain ⟨n,e,zv,ht,hz,hp,hc⟩:=hpl
 obtain ⟨vc,h1,h2⟩:=iS (I:=I) (place:=fun i=>some (i*k,k)) (l.map fun p=>(p.1,ev ρ p.2)) cps zs zv.cells rs (by subst hv;simp) (fun j p q hj hq=>jP h l hs j p q hj (hv▸hq)) (hc▸d9 I _) hf
 refine ⟨.agg vc,⟨vc.toList,by simp,h2⟩,fun w=>?_⟩
 have hrun:(Instr.build t (l.map fun p=>(p.1,ev ρ p.2)).toArray).run P w=.ok (.agg vc) w:=by
  unfold Instr.build
  simp only[Sem.run_bind,hz,Result.andThen_ok,run_underlying ht,hp,h1]
  rfl
 simp only[execOp,List.map_toArray]
 rw[Sem.run_bind,hrun];rfl
def di (P:Program) (t e:TypeId) (n k:Nat) (zs:List AV):Prop:=
 ∃zv,P.underlying t=some (.slice e)∧(∀w,(sizeOf e).run P w=.ok k w)∧(∀w,(zeroValue e).run P w=.ok zv w)∧0<n*k∧n*k≤2 ^ 24∧((Array.range (n*k)).map (zv.cells[·% zv.cells.size]!)).toList.map lit=zs
theorem fY {n k:Nat} {zs rs:List AV} {l:List (Nat × Operand)} {cps:List (Nat × List AV)} (hpl:di P t e n k zs) (hs:l.all (fun p=>(aW env p.2).sto)=true) (hv:l.map (fun p=>(p.1,(aW env p.2).cs))=cps)
  (hf:fX (fun i=>some (i*k,k)) zs cps=some rs) {I:G} {ρ:bD} (h:dn I env ρ):∃vc:List Value,RepL I rs vc∧∀w,(execOp (ev ρ) (Oper.mk (some d) (.buildSlice t n l.toArray) ty pos af none)).run P w=.ok (.value (.slice (some ⟨w.heap.size,0,none⟩) n n)) (w.alloc (.cells vc.toArray e)):=by
 obtain ⟨zv,ht,hsz,hz,h0,h24,hc⟩:=hpl
 obtain ⟨vc,h1,h2⟩:=iS (I:=I) (place:=fun i=>some (i*k,k)) (l.map fun p=>(p.1,ev ρ p.2)) cps zs ((Array.range (n*k)).map (zv.cells[·% zv.cells.size]!)) rs (by subst hv;simp) (fun j p q hj hq=>jP h l hs j p q hj (hv▸hq)) (hc▸d9 I _) hf
 refine ⟨vc.toList,h2,fun w=>?_⟩
 have hrun:(Instr.buildSlice t n (l.map fun p=>(p.1,ev ρ p.2)).toArray).run P w=.ok (.slice (some ⟨w.heap.size,0,none⟩) n n) (w.alloc (.cells vc e)):=by
  unfold Instr.buildSlice
  simp only[Sem.run_bind,Result.andThen_ok,run_underlying ht,hsz]
  rw[if_neg (by omega)]
  simp only[Sem.run_pure,Result.andThen_ok,if_neg (by omega:¬n*k=0),Sem.run_bind,hz,h1,newRow]
  simp
 simp only[execOp,List.map_toArray]
 rw[Sem.run_bind,hrun];simp
theorem RepR.of_flat {I:G} {k b:Nat} {c:Array Value} {T:TypeId} {f:Nat × Nat} (hb:I.k b=some (.cells c T f)):∀(rows:List (List AV)) (vs:List Value) (j:Nat),(∀r∈rows,r.length=k)→RepL I rows.flatten vs→(∀(i:Nat) u,vs[i]?=some u→c[j*k+i]?=some u)→RepR I k (some ⟨b,0,none⟩) j rows
 |[],_,_,_,_,_=>trivial
 |r::rows,vs,j,hk,h,hc=>by
  have hr:=hk r (by simp)
  have h1:=h.take r.length
  have h2:=h.drop r.length
  simp only[List.flatten_cons,List.take_left,List.drop_left] at h1 h2
  refine ⟨⟨b,0,vs.take r.length,rfl,?_,h1,fun i u hu=>⟨c,T,f,hb,?_⟩⟩,RepR.of_flat hb rows _ (j+1) (fun r hr=>hk r (by simp[hr])) h2 fun i u hu=>?_⟩
  ·rw[h1.length,hr]
  ·rw[List.getElem?_take] at hu
   split at hu
   ·rw[Nat.zero_add];exact hc i u hu
   ·cases hu
  ·rw[List.getElem?_drop,hr] at hu
   have:=hc _ u hu
   rw[Nat.add_mul,Nat.one_mul,Nat.add_assoc];exact this
theorem ao.buildSliceF {n k:Nat} {zs rs:List AV} {rows:List (List AV)} {l:List (Nat × Operand)} {cps:List (Nat × List AV)} (hpl:di P t e n k zs) (hs:l.all (fun p=>(aW env p.2).sto)=true) (hv:l.map (fun p=>(p.1,(aW env p.2).cs))=cps)
  (hf:fX (fun i=>some (i*k,k)) zs cps=some rs) (hr:rows.flatten=rs) (hk:rows.all (fun r=>Nat.beq r.length k)=true) (hn:rows.length=n) (kk:ao P E ops K rest (bl env d (.fro k rows)) O) :
  ao P E ops K (Oper.mk (some d) (.buildSlice t n l.toArray) ty pos af none::rest) env O:=fun I F ρ w h1 h2=>by
 obtain ⟨htop,L,hL,hS⟩:=h2
 obtain ⟨vc,hrep,hrun⟩:=fY (d:=d) (ty:=ty) (pos:=pos) (af:=af) hpl hs hv hf h1
 refine bq.step rfl ?_
 unfold dz
 rw[hrun w]
 obtain ⟨hl,hS'⟩:=hS.alloc_pers (.cells vc.toArray e)
 let J:G:=⟨I.k.put w.heap.size (.cells vc.toArray e),I.h⟩
 have hle:I.le J:=⟨hl,fun _ _ h=>h⟩
 have hb:J.k w.heap.size=some (.cells vc.toArray e):=aI.put_same _ _ _
 refine yt (fun _ _=>cO.up hle) _ _ _ (kk J F _ _ ((h1.mono hle).upd d ⟨_,n,n,rfl,hn.symm,Nat.le_refl _,fun h=>by (cases h),?_⟩) ⟨htop,L,hL.mono hle,hS'⟩)
 exact RepR.of_flat hb rows vc 0 (fun r h=>Nat.eq_of_beq_eq_true (List.all_eq_true.1 hk r h)) (hr▸RepL.mono hle _ _ hrep) (fun i u hu=>by simpa using hu)
theorem ao.buildSliceO {n k:Nat} {zs rs:List AV} {l:List (Nat × Operand)} {cps:List (Nat × List AV)} (hpl:di P t e n k zs) (hs:l.all (fun p=>(aW env p.2).sto)=true) (hv:l.map (fun p=>(p.1,(aW env p.2).cs))=cps)
  (hf:fX (fun i=>some (i*k,k)) zs cps=some rs) (hk:rs.length=n*k) (hc1:rs.all AV.cell=true) (kk:∀i,ao P E ops K rest (bl env d (.own i n)) ((i,.grow k e rs)::O)) :
  ao P E ops K (Oper.mk (some d) (.buildSlice t n l.toArray) ty pos af none::rest) env O:=fun I F ρ w h1 h2=>by
 obtain ⟨L,hL,hS⟩:=h2.2
 obtain ⟨vc,hrep,hrun⟩:=fY (d:=d) (ty:=ty) (pos:=pos) (af:=af) hpl hs hv hf h1
 refine bq.step rfl ?_
 unfold dz
 rw[hrun w]
 obtain ⟨i,hi⟩:=h2.name
 obtain ⟨J,e1,hle,e2,htop⟩:=hi (some w.heap.size,n)
 have hS':=hS.alloc (.cells vc.toArray e)
 refine yt (fun _ _=>cO.up hle) _ _ _ (kk i J F _ _ ((h1.mono hle).upd d ⟨_,n,e2,rfl⟩) ⟨htop,_,⟨[(w.heap.size,.cells vc.toArray e (0,0))],L,rfl,⟨_,n,n,vc,e2,RepL.mono hle _ _ hrep,hrep.cell1 hc1,ej.made (by rw[hrep.length,hk])⟩,hL.mono hle⟩,by rw[e1];exact hS'⟩)
theorem ao.buildSlice0 {i:TypeInfo} {k:Nat} (ht:P.underlying t=some (.slice e)) (hi:P.info? e=some i) (kk:∀j,ao P E ops K rest (bl env d (.own j 0)) ((j,.grow k e [])::O)) :
  ao P E ops K (Oper.mk (some d) (.buildSlice t 0 #[]) ty pos af none::rest) env O:=fun I F ρ w h1 h2=>by
 obtain ⟨L,hL,hS⟩:=h2.2
 obtain ⟨j,hj⟩:=h2.name
 refine bq.buildSlice0 ht hi hS fun b w' hS'=>?_
 obtain ⟨J,e1,hle,e2,htop⟩:=hj (some b,0)
 refine yt (fun _ _=>cO.up hle) _ _ _ (kk j J F _ _ ((h1.mono hle).upd d ⟨_,0,e2,rfl⟩) ⟨htop,_,⟨[(b,.cells [].toArray e (0,0))],L,rfl,⟨some b,0,0,[],e2,rfl,(by simp),ej.made (n:=0) (by simp)⟩,hL.mono hle⟩,by rw[e1];exact hS'⟩)
theorem ao.make1 {i:TypeInfo} {zv z1:Value} {m:Nat} {k1 k2:IntKind} {l l':Int} (ht:P.underlying t=some (.slice e)) (hi:P.info? e=some i) (hz:i.zero=some zv) (hzc:zv.cells=#[z1]) (hk:i.size=1) (hx:aW env x=.int k1 l) (hy:aW env y=.int k2 l')
  (hl:l=(m:Int)) (hl':l'=(m:Int)) (hb:(i.bytes:Int)*(m:Int)≤281474976710656) (hm:m≤281474976710656) (hz1:z1.oneCell'=true) (kk:∀j,ao P E ops K rest (bl env d (.own j m)) ((j,.grow 1 e (List.replicate m (lit z1)))::O)) :
  ao P E ops K (Oper.mk (some d) (.makeSlice t x y) ty pos af none::rest) env O:=fun I F ρ w h1 h2=>by
 obtain ⟨L,hL,hS⟩:=h2.2
 obtain ⟨j,hj⟩:=h2.name
 refine bq.make1 ht hi hz hzc hk (gW h1 hx) (gW h1 hy) hl hl' hb hm hS fun b w' hS'=>?_
 obtain ⟨J,e1,hle,e2,htop⟩:=hj (some b,m)
 have hrep:RepL J (List.replicate m (lit z1)) (List.replicate m z1):=by
  have:=d9 J (List.replicate m z1)
  rwa [List.map_replicate] at this
 refine yt (fun _ _=>cO.up hle) _ _ _ (kk j J F _ _ ((h1.mono hle).upd d ⟨_,m,e2,rfl⟩) ⟨htop,_,⟨[(b,.cells (List.replicate m z1).toArray e (0,0))],L,rfl,⟨some b,m,m,_,e2,hrep,(fun u hu=>by rw[List.eq_of_mem_replicate hu];exact hz1),ej.made (by simp)⟩,hL.mono hle⟩,by rw[e1];exact hS'⟩)
end
end
section
theorem RepR.flat {I:G} {k:Nat} {a:Option Addr}:∀{rows:List (List AV)} {j:Nat},RepR I k a j rows→rows≠[]→∃b off vs,a=some ⟨b,off,none⟩∧RepL I rows.flatten vs∧vs.length=rows.length*k∧∀(i:Nat) u,vs[i]?=some u→vG I.k b (off+j*k+i) u
 |[],_,_,h=>absurd rfl h
 |[r],j,⟨⟨b,off,vs,e,h1,h2,h3⟩,_⟩,_=>⟨b,off,vs,e,by simpa using h2,by simpa using h1,h3⟩
 |r::r'::rows,j,⟨⟨b,off,vs,e,h1,h2,h3⟩,h4⟩,_=>by
  obtain ⟨b',off',us,e',h5,h6,h7⟩:=RepR.flat h4 (by simp)
  subst e
  cases e'
  refine ⟨b,off,vs++us,rfl,by simpa using h2.append h5,by simp only[List.length_append,h1,h6,List.length_cons,Nat.add_mul];omega,fun i u hu=>?_⟩
  by_cases hi:i<vs.length
  ·rw[List.getElem?_append_left hi] at hu;exact h3 i u hu
  ·rw[List.getElem?_append_right (by omega)] at hu
   have:=h7 _ u hu
   have e:off+(j+1)*k+(i - vs.length)=off+j*k+i:=by rw[Nat.add_mul,h1];omega
   rwa [e] at this
theorem Au {I:G} {k:Nat} {rows:List (List AV)} {v:Value} (h:bH I (.fro k rows) v) (hc:rows.flatten.all AV.cell=true):∃a n c vs,v=.slice a n c∧n=rows.length∧RepL I rows.flatten vs∧(∀u∈vs,u.oneCell'=true)∧∀O,E5 I.k O k a n vs:=by
 obtain ⟨a,n,c,e,hn,hnc,hnil,hr⟩:=h
 cases rows with
 |nil=>
  refine ⟨a,n,c,[],e,hn,rfl,by simp,fun O=>⟨by simp[hn],by simp,?_⟩⟩
  cases a with
  |none=>exact .inl ⟨rfl,hn⟩
  |some p=>exact .inr ⟨p,rfl,by simp⟩
 |cons r rows=>
  obtain ⟨b,off,vs,e',h1,h2,h3⟩:=hr.flat (by simp)
  refine ⟨a,n,c,vs,e,hn,h1,h1.cell1 hc,fun O=>⟨by rw[h2,hn],h1.cell1 hc,.inr ⟨_,e',fun j u hj=>⟨b,off,rfl,?_⟩⟩⟩⟩
  have:=h3 j u hj
  rw[Nat.zero_mul,Nat.add_zero] at this
  exact .inl this
section
variable {E:World} {P:Program} {ops:Array Oper} {K:aK→OL→Prop} {env:aK} {O O':OL} {rest:List Oper}
variable {d ty:Nat} {pos:String} {af:Array Edge} {x y z:Operand} {t u e:TypeId}
theorem fm.split {I:G} {O1 O2:OL} {F:List (Nat × Obj)} {E w:World} (hO:O.Perm (O1++O2)) (h:fm I O F E w):∃L2,bA I O2 L2∧fm I O1 (L2++F) E w:=by
 obtain ⟨ht,L,hL,hS⟩:=h
 obtain ⟨L',h1,h2⟩:=hL.perm hO
 obtain ⟨A,B,rfl,h3,h4⟩:=bA.append.1 h1
 exact ⟨B,h4,ht,A,h3,hS.perm (by rw[←List.append_assoc];exact (h2.append_right F).symm)⟩
theorem fm.join {I J:G} {O1 O2:OL} {L2 F:List (Nat × Obj)} {E w:World} (hle:I.le J) (h2:bA I O2 L2) (h:fm J O1 (L2++F) E w):fm J (O1++O2) F E w:=by
 obtain ⟨ht,L,hL,hS⟩:=h
 exact ⟨ht,L++L2,bA.append.2 ⟨L,L2,rfl,hL,h2.mono hle⟩,by rw[List.append_assoc];exact hS⟩
theorem fm.drops {I:G} {O1:OL} {L2 F:List (Nat × Obj)} {E w:World} (h:fm I O1 (L2++F) E w):SL I.k (L2++F) E w:=by
 obtain ⟨ht,L,hL,hS⟩:=h
 exact hS.dropAll
theorem ao.callA {f:FuncId} {args:List Operand} {tys:Array TypeId} {as0:List AV} {O1 O2:OL} {R:AV→OL→Prop} (ha:args.map (aW env)=as0) (hO:O.Perm (O1++O2)) (hc:bV P E f as0 O1 R)
  (k:∀r O1',R r O1'→ao P E ops K rest (bl env d r) (O1'++O2)):ao P E ops K (Oper.mk (some d) (.call { callee:=.value (.func f),args:=args.toArray,argTypes:=tys }) ty pos af none::rest) env O:=fun I F ρ w h1 h2=>by
 obtain ⟨L2,hL2,h3⟩:=h2.split hO
 refine bq.callF (hc I (L2++F) w (args.map (ev ρ)) (ha▸h1.evs args) h3) ?_
 rintro v w' ⟨J,r,O1',hle,hr,hS,hR⟩
 exact yt (fun _ _=>cO.up hle) _ _ _ (k r O1' hR J F _ _ ((h1.mono hle).upd d hr) (hS.join hle hL2))
theorem ao.callP {f:FuncId} {args:List Operand} {tys:Array TypeId} {as0:List AV} {r:AV} (hc:aT P E f as0 r) (ha:args.map (aW env)=as0)
  (k:ao P E ops K rest (bl env d r) O):ao P E ops K (Oper.mk (some d) (.call { callee:=.value (.func f),args:=args.toArray,argTypes:=tys }) ty pos af none::rest) env O:=fun I F ρ w h1 h2=>by
 obtain ⟨L2,hL2,h3⟩:=h2.split (O1:=[]) (O2:=O) (.refl _)
 refine bq.callF (hc I (L2++F) w (args.map (ev ρ)) (ha▸h1.evs args) h3) ?_
 rintro v w' ⟨J,r',O1',hle,hr,hS,rfl⟩
 exact yt (fun _ _=>cO.up hle) _ _ _ (k J F _ _ ((h1.mono hle).upd d hr) ⟨hS.1,L2,hL2.mono hle,hS.drops⟩)
theorem ao.callVP {f:FuncId} {args:List Operand} {tys:Array TypeId} {a c as0:List AV} {r:AV} (hx:aW env x=.fn f a c) (hc:aT P E f as0 r) (ha:a++args.map (aW env)++c=as0)
  (k:ao P E ops K rest (bl env d r) O):ao P E ops K (Oper.mk (some d) (.call { callee:=.value x,args:=args.toArray,argTypes:=tys }) ty pos af none::rest) env O:=fun I F ρ w h1 h2=>by
 obtain ⟨L2,hL2,h3⟩:=h2.split (O1:=[]) (O2:=O) (.refl _)
 have h4:=h1.ev x
 rw[hx] at h4
 obtain ⟨vs,us,e,h5,h6⟩:=h4
 refine bq.callV e (hc I (L2++F) w (vs++args.map (ev ρ)++us) (ha▸(h5.append (h1.evs args)).append h6) h3) ?_
 rintro v w' ⟨J,r',O1',hle,hr,hS,rfl⟩
 exact yt (fun _ _=>cO.up hle) _ _ _ (k J F _ _ ((h1.mono hle).upd d hr) ⟨hS.1,L2,hL2.mono hle,hS.drops⟩)
theorem Gv.func {f:FuncId} {l m:List Operand} {a c:List AV} (hl:l.map (aW env)=a) (hm:m.map (aW env)=c):Gv P env O (Oper.mk (some d) (.makeFunc (.func f) l.toArray m.toArray) ty pos af none) (.fn f a c):=Gv.ofEv fun I ρ h=>
 ⟨.func (.func f) (l.map (ev ρ)).toArray (m.map (ev ρ)).toArray,⟨_,_,rfl,hl▸h.evs l,hm▸h.evs m⟩,fun w=>by simp[execOp,Instr.makeFunc]⟩
def bc (E:World) (env:aK) (O:OL) (env':aK) (O':OL):Prop:=∀I F ρ w,dn I env ρ→fm I O F E w→∃J,I.le J∧dn J env' ρ∧fm J O' F E w
end
section
variable {E:World} {P:Program} {n:Nat} {os:Array Oper} {env env':aK} {O O':OL}
theorem bc.wp {c:Code} {Q:Exit→aK→OL→Prop} (g:bc E env O env' O') (h:cG P E n c Q env' O'):cG P E n c Q env O:=fun I F ρ w h1 h2=>by
 obtain ⟨J,hle,h3,h4⟩:=g I F ρ w h1 h2
 exact (h J F ρ w h3 h4).mono fun _ _ _=>ko.up hle
theorem bc.ops {K:aK→OL→Prop} {l:List Oper} (g:bc E env O env' O') (h:ao P E os K l env' O'):ao P E os K l env O:=fun I F ρ w h1 h2=>by
 obtain ⟨J,hle,h3,h4⟩:=g I F ρ w h1 h2
 exact yt (fun _ _=>cO.up hle) _ _ _ (h J F ρ w h3 h4)
theorem bc.fin {rs:Array ResultVar} {R:AV→OL→Prop} (g:bc E env O env' O') (h:dh P E rs R .ret env' O'):dh P E rs R .ret env O:=fun I F ρ w h1 h2=>by
 obtain ⟨J,hle,h3,h4⟩:=g I F ρ w h1 h2
 obtain ⟨v,h5,K,x,O'',h6,h7⟩:=h J F ρ w h3 h4
 exact ⟨v,h5,K,x,O'',hle.trans h6,h7⟩
theorem bc.perm (h:O.Perm O'):bc E env O env O':=fun I F ρ w h1 h2=>by
 obtain ⟨L2,hL2,h3⟩:=h2.split (O1:=O') (O2:=[]) (by simpa using h)
 have:L2=[]:=hL2
 subst this
 exact ⟨I,.refl _,h1,h3⟩
theorem bc.drop {i:Nat} {o:bo} (h:cS O i o O'):bc E env O env O':=fun I F ρ w h1 h2=>by
 obtain ⟨ht,L,hL,hS⟩:=h2
 obtain ⟨A,B,hp,_,hB⟩:=h.rep hL
 exact ⟨I,.refl _,h1,ht,B,hB,(hS.perm (by rw[←List.append_assoc];exact (hp.append_right F).symm):SL I.k (A++(B++F)) E w).dropAll⟩
theorem bc.slot {t:Nat} {x y:AV} (hv:env t=x) (hi:∀I v,bH I x v→bH I y v):bc E env O (bl env t y) O:=fun I F ρ w h1 h2=>by
 refine ⟨I,.refl _,fun s=>?_,h2⟩
 unfold bl
 cases hb:Nat.beq s t with
 |false=>exact h1 s
 |true=>
  have:s=t:=Nat.eq_of_beq_eq_true hb
  subst this
  exact hi I _ (hv▸h1 s)
end
section
variable {E:World} {P:Program} {n:Nat} {ops:Array Oper} {env:aK} {O O':OL}
theorem iT {c:Code} {Q:Exit→aK→OL→Prop} {t k:Nat} {T:TypeId} (hv:env t=.raw (.slice none 0 0)) (h:∀i,cG P E n c Q (bl env t (.own i 0)) ((i,.grow k T [])::O)):cG P E n c Q env O:=fun I F ρ w h1 h2=>by
 obtain ⟨i,hi⟩:=h2.name
 obtain ⟨J,e1,hle,e2,htop⟩:=hi (none,0)
 obtain ⟨_,L,hL,hS⟩:=h2
 have h3:ρ t=.slice none 0 0:=by have:=h1 t;rw[hv] at this;exact this
 refine (h i J F ρ w (fun s=>?_) ⟨htop,_,⟨[],L,rfl,⟨none,0,0,[],e2,rfl,by simp,ej.nil k T⟩,hL.mono hle⟩,by rw[e1];exact hS⟩).mono fun _ _ _=>ko.up hle
 unfold bl
 cases hb:Nat.beq s t with
 |false=>exact bH.mono hle _ _ (h1 s)
 |true=>
  have:s=t:=Nat.eq_of_beq_eq_true hb
  subst this
  exact ⟨none,0,e2,h3⟩
theorem know {I:G} {F:List (Nat × Obj)} {E w:World} {i k m:Nat} {T:TypeId} {rows:List (List AV)} (hO:cS O i (.grow k T rows.flatten) O') (hk:∀r∈rows,r.length=k) (hk0:0<k) (hm:rows.length=m) (h:fm I O F E w) :
  ∃J,I.le J∧fm J O' F E w∧∀v,bH I (.own i m) v→bH J (.fro k rows) v:=by
 obtain ⟨ht,L,hL,hS⟩:=h
 obtain ⟨A,B,hp,⟨b,c,n,vs,e1,hvs,hvc,hown⟩,hB⟩:=hO.rep hL
 simp only at e1
 have hS2:SL I.k (A++(B++F)) E w:=hS.perm (by rw[←List.append_assoc];exact (hp.append_right F).symm)
 have hflat:rows.flatten.length=rows.length*k:=by
  clear hO hvs hm
  induction rows with
  |nil=>simp
  |cons r rows ih=>simp only[List.flatten_cons,List.length_append,List.length_cons,ih (fun r h=>hk r (by simp[h])),hk r (by simp),Nat.add_mul];omega
 have hnm:n=m:=by
  have h5:=hown.1
  have h6:=hvs.length
  have:n*k=m*k:=by rw[←hm];omega
  exact Nat.eq_of_mul_eq_mul_right hk0 this
 subst hnm
 obtain ⟨h5,h6,h7⟩:=hown
 rcases h7 with ⟨ea,rfl,rfl⟩|⟨b',junk,ea,rfl,hj⟩
 ·refine ⟨I,.refl _,⟨ht,B,hB,by simpa using hS2⟩,?_⟩
  rintro v ⟨b2,c2,e2,rfl⟩
  rw[e1] at e2
  simp only[Option.some.injEq,Prod.mk.injEq] at e2
  obtain ⟨rfl,rfl⟩:=e2
  have h0:rows=[]:=List.eq_nil_of_length_eq_zero (by omega)
  subst h0
  exact ⟨adr b,n,0,rfl,hm.symm,h6,fun _=>rfl,trivial⟩
 ·cases b with
  |none=>simp[adr] at ea
  |some b=>
   simp[adr] at ea
   subst ea
   obtain ⟨hl,hS3⟩:=SL.freeze (by simpa using hS2:SL I.k ((b,.cells (vs++junk).toArray T (0,0))::(B++F)) E w)
   let J:G:=⟨I.k.put b (.cells (vs++junk).toArray T (0,0)),I.h⟩
   have hle:I.le J:=⟨hl,fun _ _ h=>h⟩
   have hb:J.k b=some (.cells (vs++junk).toArray T (0,0)):=aI.put_same _ _ _
   refine ⟨J,hle,⟨ht,B,hB.mono hle,hS3⟩,?_⟩
   rintro v ⟨b2,c2,e2,rfl⟩
   rw[e1] at e2
   simp only[Option.some.injEq,Prod.mk.injEq] at e2
   obtain ⟨rfl,rfl⟩:=e2
   refine ⟨adr (some b),n,c,rfl,hm.symm,h6,fun h=>by simp[adr] at h,RepR.of_flat hb rows vs 0 hk (RepL.mono hle _ _ hvs) fun i u hu=>?_⟩
   rw[Nat.zero_mul,Nat.zero_add,List.getElem?_toArray,List.getElem?_append_left (List.getElem?_eq_some_iff.1 hu).1]
   exact hu
theorem bc.know {t i k m:Nat} {T:TypeId} {rows:List (List AV)} (hv:env t=.own i m) (hO:cS O i (.grow k T rows.flatten) O') (hk:∀r∈rows,r.length=k) (hk0:0<k) (hm:rows.length=m):bc E env O (bl env t (.fro k rows)) O':=fun I F ρ w h1 h2=>by
 obtain ⟨J,hle,h3,h4⟩:=Go.Proofs.YtjpnhkmfhlnpcaaGreatDoor.know hO hk hk0 hm h2
 refine ⟨J,hle,fun s=>?_,h3⟩
 unfold bl
 cases hb:Nat.beq s t with
 |false=>exact bH.mono hle _ _ (h1 s)
 |true=>
  have:s=t:=Nat.eq_of_beq_eq_true hb
  subst this
  exact h4 _ (hv▸h1 s)
end
end
section
theorem bE.mono {P:Program} {ops:Array Oper} {S0 S0' S S':World→Prop} {W:Nat→Bool} {Q Q':bD→World→Prop} (hS0:∀w,S0 w→S0' w) (hS:∀w,S w→S' w) (hQ:∀ρ w,Q ρ w→Q' ρ w):∀(fuel:Nat) (listed:Array Bool) (ρ:bD) (w:World),
  bE P ops S0 S W Q fuel listed ρ w→bE P ops S0' S' W Q' fuel listed ρ w
 |0,_,_,_,h=>⟨h.1,hQ _ _ h.2⟩
 |fuel+1,_,_,_,h=>⟨fun h0=>hQ _ _ (h.1 h0),fun i hi o ho=>yt (fun _ _ ⟨a,b⟩=>⟨⟨hS0 _ a.1,a.2.imp id (hS _)⟩,bE.mono hS0 hS hQ fuel _ _ _ b⟩) _ _ _ (h.2 i hi o ho)⟩
def dA (J0:aI) (L:List (Nat × Obj)) (E:World) (w:World):Prop:=∃J L',J0.le J∧SL J L' E w∧∀y∈L,y∈L'
def bz (P:Program) (E:World) (l:List Oper) (W:Nat→Bool) (Q:aK→OL→Prop) (fuel:Nat) (listed:Array Bool) (env:aK) (Os Om:OL):Prop:=
 ∀I F ρ w Ls,dn I env ρ→bA I Os Ls→fm I Om (Ls++F) E w→bE P l.toArray (dA I.k [] E) (dA I.k Ls E) W (cO I F E Q) fuel listed ρ w
def kp (P:Program) (E:World) (l:List Oper) (W:Nat→Bool) (Q:aK→OL→Prop) (fuel:Nat) (listed:Array Bool) (env:aK) (O:OL):Prop:=
 ∀I F ρ w,dn I env ρ→fm I O F E w→∀S,bE P l.toArray (dA I.k [] E) S W (cO I F E Q) fuel listed ρ w
theorem fm.here {I:G} {Om:OL} {Ls F:List (Nat × Obj)} {E w:World} (h:fm I Om (Ls++F) E w):dA I.k Ls E w:=by
 obtain ⟨_,L,_,hS⟩:=h
 exact ⟨I.k,_,.refl _,hS,fun y hy=>by simp[hy]⟩
theorem fm.together {I:G} {Os Om:OL} {Ls F:List (Nat × Obj)} {E w:World} (hs:bA I Os Ls) (h:fm I Om (Ls++F) E w):fm I (Os++Om) F E w:=by
 obtain ⟨ht,L,hL,hS⟩:=h
 refine ⟨ht,Ls++L,bA.append.2 ⟨Ls,L,rfl,hs,hL⟩,hS.perm ?_⟩
 rw[←List.append_assoc]
 exact (List.perm_append_comm).append_right F
theorem dA.less {J0:aI} {L:List (Nat × Obj)} {E w:World} (h:dA J0 L E w):dA J0 [] E w:=let ⟨J,L',a,b,_⟩:=h;⟨J,L',a,b,fun _ h=>(by cases h)⟩
section
variable {E:World} {P:Program} {n:Nat} {l:List Oper} {W:Nat→Bool} {Q:aK→OL→Prop} {fuel:Nat} {listed:Array Bool} {env:aK} {O Os Om:OL}
variable {d ty:Nat} {op:Op} {pos:String} {af:Array Edge}
theorem cG.regionDraw (W:Nat→Bool) {Q:Exit→aK→OL→Prop} {id:Nat} (hm:P.follows .mixedOrders=true) (hd:ei n l=true) (hO:O.Perm (Om++Os)) (h:bz P E l W (Q .normal) l.length (Array.replicate l.length false) env Os Om):cG P E n (.region id l.toArray true) Q env O:=fun I F ρ w h1 h2=>by
 obtain ⟨Ls,hLs,h3⟩:=h2.split hO
 refine WP.regionDraw (dA I.k [] E) (dA I.k Ls E) W hm hd fun w' hw=>?_
 subst hw
 refine h I F ρ _ Ls h1 hLs ?_
 obtain ⟨ht,L,hL,hS⟩:=h3
 exact ⟨ht,L,hL,hS.drew⟩
theorem xg {i:Nat} (hr:Region.ready .any l.toArray listed=[i]) (hW:(W i||!dT W listed)=true):dk W (listed.setIfInBounds i true):=by
 have h1:=(mem_ready.1 (show i∈Region.ready .any l.toArray listed by rw[hr];exact .head _)).1
 have hi:i<listed.size:=by
  rcases Nat.lt_or_ge i listed.size with h|h
  ·exact h
  ·rw[Array.getD_eq_getD_getElem?,Array.getElem?_eq_none h] at h1;cases h1
 rcases Bool.or_eq_true_iff.1 hW with h|h
 ·refine ⟨i,?_,h⟩
  rw[Array.getD_eq_getD_getElem?,Array.getElem?_setIfInBounds,if_pos rfl,if_pos hi];rfl
 ·refine hU ?_
  have h:dT W listed=false:=by simpa using h
  unfold dT at h
  obtain ⟨j,_,hj⟩:=List.all_eq_false.1 h
  simp only[Bool.not_eq_true,Bool.not_eq_false',Bool.and_eq_true] at hj
  exact ⟨j,by simpa using hj⟩
theorem bz.takeK {i:Nat} {x:AV} (hi:l[i]?=some (Oper.mk (some d) op ty pos af none)) (hs:Region.noSelect l.toArray=true) (hf:Region.free .any l.toArray listed i=true)
  (hr:(Region.ready .any l.toArray listed).contains i=true) (hWi:W i=false) (hg:Gv P env [] (Oper.mk (some d) op ty pos af none) x)
  (h:bz P E l W Q fuel (listed.setIfInBounds i true) (bl env d x) Os Om):bz P E l W Q (fuel+1) listed env Os Om:=fun I F ρ w Ls h1 hLs h2=>by
 obtain ⟨v,hv,hrun⟩:=hg I [] E ρ h1 rfl
 exact bE.takeK hi hs hf hr hWi h2.here.less (.inr h2.here) (fun w ⟨J,L',a,b,c⟩=>hrun w J L' a b c) (h I F _ w Ls (h1.upd d hv) hLs h2)
theorem bz.take {i:Nat} {x:AV} (hi:l[i]?=some (Oper.mk (some d) op ty pos af none)) (hs:Region.noSelect l.toArray=true) (hf:Region.free .any l.toArray listed i=true)
  (hr:(Region.ready .any l.toArray listed).contains i=true) (hW:eF l i W=true) (hWi:W i=false) (hcl:dT W listed=true) (hg:Gv P env Os (Oper.mk (some d) op ty pos af none) x)
  (h:bz P E l W Q fuel (listed.setIfInBounds i true) (bl env d x) Os Om):bz P E l W Q (fuel+1) listed env Os Om:=fun I F ρ w Ls h1 hLs h2=>by
 obtain ⟨v,hv,hrun⟩:=hg I Ls E ρ h1 hLs
 exact bE.take hi hs hf hr hW hWi hcl h2.here.less h2.here (fun w ⟨J,L',a,b,c⟩=>hrun w J L' a b c) (h I F _ w Ls (h1.upd d hv) hLs h2)
theorem bz.takeT {i j s:Nat} {b t:Bool} {x:AV} (hi:l[i]?=some (Oper.mk (some d) op ty pos af (some (j,b)))) (hg0:(l[j]?).bind (fun o:Oper=>o.dst)=some s) (hv0:env s=.bool t) (ht:t=b) (hs:Region.noSelect l.toArray=true) (hf:Region.free .any l.toArray listed i=true)
  (hr:(Region.ready .any l.toArray listed).contains i=true) (hW:eF l i W=true) (hWi:W i=false) (hcl:dT W listed=true) (hg:Gv P env Os (Oper.mk (some d) op ty pos af none) x)
  (h:bz P E l W Q fuel (listed.setIfInBounds i true) (bl env d x) Os Om):bz P E l W Q (fuel+1) listed env Os Om:=fun I F ρ w Ls h1 hLs h2=>by
 obtain ⟨v,hv,hrun⟩:=hg I Ls E ρ h1 hLs
 exact bE.takeT hi hg0 (by have:=h1 s;rw[hv0] at this;exact this) ht hs hf hr hW hWi hcl h2.here.less h2.here (fun w ⟨J,L',a,b,c⟩=>hrun w J L' a b c) (h I F _ w Ls (h1.upd d hv) hLs h2)
theorem bz.takeF {i j s:Nat} {b t:Bool} (hi:l[i]?=some (Oper.mk (some d) op ty pos af (some (j,b)))) (hg0:(l[j]?).bind (fun o:Oper=>o.dst)=some s) (hv0:env s=.bool t) (ht:t=!b) (hs:Region.noSelect l.toArray=true) (hf:Region.free .any l.toArray listed i=true)
  (hr:(Region.ready .any l.toArray listed).contains i=true) (hW:eF l i W=true) (hWi:W i=false) (hcl:dT W listed=true)
  (h:bz P E l W Q fuel (listed.setIfInBounds i true) (bl env d (.raw undef)) Os Om):bz P E l W Q (fuel+1) listed env Os Om:=fun I F ρ w Ls h1 hLs h2=>
 bE.takeF hi hg0 (by have:=h1 s;rw[hv0] at this;exact this) ht hs hf hr hW hWi hcl h2.here.less h2.here (h I F _ w Ls (h1.upd d rfl) hLs h2)
theorem bz.one {i:Nat} {o:Oper} (hi:l[i]?=some o) (hr:Region.ready .any l.toArray listed=[i])
  (h:ao P E l.toArray (fun env' Om'=>bz P E l W Q fuel (listed.setIfInBounds i true) env' Os Om') [o] env Om):bz P E l W Q (fuel+1) listed env Os Om:=fun I F ρ w Ls h1 hLs h2=>
 bE.one hi hr (yt (fun ρ' w' ⟨J,env',Om',a,b,c,d⟩=>by
  have hst:dA I.k Ls E w':=by
   obtain ⟨J',L',h3,h4,h5⟩:=c.here
   exact ⟨J',L',a.k.trans h3,h4,h5⟩
  refine ⟨⟨hst.less,.inr hst⟩,bE.mono ?_ ?_ (fun _ _=>cO.up a) _ _ _ _ (d J F ρ' w' Ls b (hLs.mono a) c)⟩
  ·rintro w ⟨J',L',h3,h4⟩;exact ⟨J',L',a.k.trans h3,h4⟩
  ·rintro w ⟨J',L',h3,h4⟩;exact ⟨J',L',a.k.trans h3,h4⟩) _ _ _ (h I (Ls++F) ρ w h1 h2))
theorem bz.done (hr:Region.ready .any l.toArray listed=[]) (h:Q env (Os++Om)):bz P E l W Q fuel listed env Os Om:=fun I F ρ w Ls h1 hLs h2=>
 bE.done hr ⟨I,env,Os++Om,.refl _,h1,fm.together hLs h2,h⟩
theorem bz.case {t:Bool} {s:Nat} (_:env s=.bool t) (h1:t=true→bz P E l W Q fuel listed env Os Om) (h2:t=false→bz P E l W Q fuel listed env Os Om):bz P E l W Q fuel listed env Os Om:=by
 cases t
 ·exact h2 rfl
 ·exact h1 rfl
theorem bz.writes (h:kp P E l W Q fuel listed env (Os++Om)):bz P E l W Q fuel listed env Os Om:=fun I F ρ w Ls h1 hLs h2=>h I F ρ w h1 (fm.together hLs h2) _
theorem kp.one {i:Nat} {o:Oper} (hi:l[i]?=some o) (hr:Region.ready .any l.toArray listed=[i]) (hW:(W i||!dT W listed)=true)
  (h:ao P E l.toArray (fun env' O'=>kp P E l W Q fuel (listed.setIfInBounds i true) env' O') [o] env O):kp P E l W Q (fuel+1) listed env O:=fun I F ρ w h1 h2 S=>
 bE.one hi hr (yt (fun ρ' w' ⟨J,env',O',a,b,c,d⟩=>⟨⟨(by
  obtain ⟨_,L',_,h4⟩:=c
  exact ⟨J.k,_,a.k,h4,fun _ h=>(by cases h)⟩),.inl (xg hr hW)⟩,bE.mono (fun _ ⟨J',L',h3,h4⟩=>⟨J',L',a.k.trans h3,h4⟩) (fun _ h=>h) (fun _ _=>cO.up a) _ _ _ _ (d J F ρ' w' b c S)⟩) _ _ _ (h I F ρ w h1 h2))
theorem kp.done (hr:Region.ready .any l.toArray listed=[]) (h:Q env O):kp P E l W Q fuel listed env O:=fun I F ρ w h1 h2 S=>
 bE.done hr ⟨I,env,O,.refl _,h1,h2,h⟩
end
theorem RepL.same {I J:G} (hle:I.le J):∀{cs:List AV} {vs:List Value},RepL I cs vs→∀{off:Nat} {x y:AV},cs[off]?=some x→(∀v,bH I x v→bH J y v)→RepL J (cs.set off y) vs
 |[],_,_,_,_,_,h,_=>by simp at h
 |c::cs,_,⟨v,us,e,h1,h2⟩,off,x,y,h,hxy=>by
  subst e
  cases off with
  |zero=>simp at h;subst h;exact ⟨v,us,rfl,hxy v h1,RepL.mono hle _ _ h2⟩
  |succ off=>exact ⟨v,us,rfl,bH.mono hle _ _ h1,RepL.same hle h2 (by simpa using h) hxy⟩
section
variable {E:World} {P:Program} {n:Nat} {env:aK} {O O' O'':OL}
theorem fe.same {I J:G} {F:List (Nat × Obj)} {E w:World} {j off:Nat} {T:TypeId} {cs:List AV} {x y:AV} (hle:I.le J) (hk:J.k=I.k∨True) (hp:fe O j (.cells T cs) (.cells T (cs.set off y)) O') (hc:cs[off]?=some x) (hxy:∀v,bH I x v→bH J y v)
  {L:List (Nat × Obj)} (hL:bA I O L):∃L',bA J O' L'∧L.Perm L':=by
 obtain ⟨A,B,hp1,⟨b,c,vs,e1,hvs,hvc,rfl⟩,hback⟩:=hp.rep hL
 obtain ⟨L',h1,h2⟩:=hback hle (A':=[(b,.cells vs.toArray T (0,0))]) ⟨b,c,vs,hle.h _ _ e1,hvs.same hle hc hxy,hvc,rfl⟩
 exact ⟨L',h1,hp1.trans h2.symm⟩
theorem bc.knowC {j off i k m:Nat} {T T':TypeId} {cs:List AV} {rows:List (List AV)} (hO:cS O i (.grow k T rows.flatten) O') (hP:fe O' j (.cells T' cs) (.cells T' (cs.set off (.fro k rows))) O'') (hc:cs[off]?=some (.own i m))
  (hk:∀r∈rows,r.length=k) (hk0:0<k) (hm:rows.length=m):bc E env O env O'':=fun I F ρ w h1 h2=>by
 obtain ⟨J,hle,h3,h4⟩:=Go.Proofs.YtjpnhkmfhlnpcaaGreatDoor.know hO hk hk0 hm h2
 obtain ⟨ht,L,hL,hS⟩:=h3
 obtain ⟨_,L0,hL0,hS0⟩:=h2
 obtain ⟨A,B,hp,⟨b,c,vs,e1,hvs,hvc,rfl⟩,hback⟩:=hP.rep hL
 obtain ⟨A0,B0,hp0,_,hB0⟩:=hO.rep hL0
 obtain ⟨A1,B1,hp1,⟨b1,c1,vs1,e2,hvs1,hvc1,rfl⟩,_⟩:=hP.rep hB0
 have e3:=hle.h _ _ e2
 simp only at e1 e3
 rw[e1] at e3
 simp only[Option.some.injEq,Prod.mk.injEq] at e3
 obtain ⟨rfl,rfl⟩:=e3
 have hS1:SL I.k (A0++(B0++F)) E w:=hS0.perm (by rw[←List.append_assoc];exact (hp0.append_right F).symm)
 have hv1:=hS1.own (b,.cells vs1.toArray T' (0,0)) (by simp;right;left;exact hp1.mem_iff.2 (by simp))
 have hv:=hS.own (b,.cells vs.toArray T' (0,0)) (by simp;left;exact hp.mem_iff.2 (by simp))
 simp only at hv hv1
 rw[hv] at hv1
 simp only[Option.some.injEq,Obj.cells.injEq] at hv1
 have hvv:vs=vs1:=by have:=congrArg Array.toList hv1.1;simpa using this
 subst hvv
 obtain ⟨L',h5,h6⟩:=hback (G.le.refl J) (A':=[(b,.cells vs.toArray T' (0,0))]) ⟨b,c,vs,e1,hvs1.same hle hc h4,hvc,rfl⟩
 exact ⟨J,hle,h1.mono hle,ht,L',h5,hS.perm (((h6.trans hp.symm).append_right F))⟩
theorem bJ {j off k:Nat} {T T':TypeId} {cs:List AV} {c:Code} {Q:Exit→aK→OL→Prop} {f:Nat→OL} (hP:∀i,fe O j (.cells T' cs) (.cells T' (cs.set off (.own i 0))) (f i)) (hc:cs[off]?=some (.raw (.slice none 0 0)))
  (h:∀i,cG P E n c Q env ((i,.grow k T [])::f i)):cG P E n c Q env O:=fun I F ρ w h1 h2=>by
 obtain ⟨i,hi⟩:=h2.name
 obtain ⟨J,e1,hle,e2,htop⟩:=hi (none,0)
 obtain ⟨_,L,hL,hS⟩:=h2
 obtain ⟨L',h3,h4⟩:=fe.same (F:=F) (E:=E) (w:=w) hle (.inr trivial) (hP i) hc (fun v hv=>⟨none,0,e2,hv⟩) hL
 exact (h i J F ρ w (h1.mono hle) ⟨htop,_,⟨[],L',rfl,⟨none,0,0,[],e2,rfl,by simp,ej.nil k T⟩,h3⟩,by rw[e1];exact hS.perm (h4.symm.append_right F)⟩).mono fun _ _ _=>ko.up hle
end
def AV.plain:AV→Bool
 |.bool _ | .int _ _ | .str _=>true
 |_=>false
theorem AV.plain_rep {I J:G} {x:AV} {v:Value} (hp:x.plain=true) (h:bH I x v):bH J x v:=by
 cases x<;>first|exact h|cases hp
theorem xh {k:Nat} {rows:List (List AV)} (hk:∀r∈rows,r.length=k):rows.flatten.length=rows.length*k:=by
 induction rows with
 |nil=>simp
 |cons r rows ih=>simp only[List.flatten_cons,List.length_append,List.length_cons,ih (fun r h=>hk r (by simp[h])),hk r (by simp),Nat.add_mul];omega
end
section
inductive oM:OL→OL→OL→Prop
 |rest (O):oM O O []
 |l {x O A B}:oM O A B→oM (x::O) (x::A) B
 |r {x O A B}:oM O A B→oM (x::O) A (x::B)
theorem oM.perm {O A B:OL} (h:oM O A B):O.Perm (A++B):=by
 induction h with
 |rest=>simp
 |l _ ih=>exact ih.cons _
 |r _ ih=>exact (ih.cons _).trans List.perm_middle.symm
section
variable {E:World} {P:Program} {n:Nat} {ops:Array Oper} {K:aK→OL→Prop} {env:aK} {O O':OL} {rest:List Oper}
variable {d ty:Nat} {pos:String} {af:Array Edge} {x y z:Operand} {t u e:TypeId}
theorem ao.storeW {i m:Nat} {T:TypeId} {v:AV} {cs l:List AV} (hs:∀w,(sizeOf t).run P w=.ok m w) (hx:aW env x=.po i 0) (hy:aW env y=v) (hv:v.sto=true) (hl:v.cs=l) (hl1:l.all AV.cell=true) (hn:l.length=m)
  (hO:fe O i (.cells T cs) (.cells T l) O') (hb:cs.length=m) (k:ao P E ops K rest env O'):ao P E ops K (Oper.mk none (.store t x y) ty pos af none::rest) env O:=
 ao.storeC (off:=0) hs hx hy hv hl hl1 hn hO (by rw[hb];simp) (by rw[Nat.zero_add,List.drop_eq_nil_of_le (by omega)];simp) k
theorem ao.storeG {i off m k:Nat} {T:TypeId} {v:AV} {cs l new:List AV} (hs:∀w,(sizeOf t).run P w=.ok m w) (hx:aW env x=.po i off) (hy:aW env y=v) (hv:v.sto=true) (hl:v.cs=l) (hl1:l.all AV.cell=true) (hn:l.length=m)
  (hO:fe O i (.grow k T cs) (.grow k T new) O') (hb:off+m≤cs.length) (hm:0<m) (hnew:cs.take off++l++cs.drop (off+m)=new) (kk:ao P E ops K rest env O'):ao P E ops K (Oper.mk none (.store t x y) ty pos af none::rest) env O:=fun I F ρ w h1 h2=>by
 obtain ⟨htop,L,hL,hS⟩:=h2
 have h3:=h1.ev x
 rw[hx] at h3
 obtain ⟨b,c,e1,e⟩:=h3
 have h4:=h1.ev y
 rw[hy] at h4
 have h5:=AV.cs_rep h4 hv
 rw[hl] at h5
 obtain ⟨A,B,hp,⟨b',c',n',vs,e2,h6,h6c,hown⟩,hback⟩:=hO.rep hL
 simp only at e2
 rw[e1] at e2
 simp only[Option.some.injEq,Prod.mk.injEq] at e2
 obtain ⟨rfl,rfl⟩:=e2
 obtain ⟨g1,g2,g3⟩:=hown
 rcases g3 with ⟨g3,_,_⟩|⟨b'',junk,g3,rfl,g4⟩
 ·simp[adr] at g3
 simp[adr] at g3
 subst g3
 have hS2:SL I.k ((b,.cells (vs++junk).toArray T (0,0))::(B++F)) E w:=hS.perm ((hp.append_right F).symm)
 have hlen:=h6.length
 have hrun:=gi (P:=P) (t:=t) (b:=b) (off:=off) (v:=ev ρ y) (vs:=(ev ρ y).cells.toList) (old:=vs++junk) (w:=w) hs (by simp) (by rw[h5.length,hn]) (h5.cell1 hl1) (by rw[List.length_append];omega) (hS2.own _ (.head _))
 have hre:(vs++junk).take off++(ev ρ y).cells.toList++(vs++junk).drop (off+m)=(vs.take off++(ev ρ y).cells.toList++vs.drop (off+m))++junk:=by
  rw[List.take_append_of_le_length (by omega),List.drop_append_of_le_length (by omega)];simp
 rw[hre] at hrun
 refine bq.step rfl ?_
 unfold dz
 have:(execOp (ev ρ) (Oper.mk none (.store t x y) ty pos af none)).run P w=.ok .skip (w.setRow b ((vs.take off++(ev ρ y).cells.toList++vs.drop (off+m))++junk).toArray):=by
  simp only[execOp,e]
  rw[Sem.run_bind,hrun];rfl
 rw[this]
 have hnr:RepL I new (vs.take off++(ev ρ y).cells.toList++vs.drop (off+m)):=hnew▸((h6.take off).append h5).append (h6.drop (off+m))
 have hnl:(vs.take off++(ev ρ y).cells.toList++vs.drop (off+m)).length=vs.length:=by
  have:=h5.length
  simp only[List.length_append,List.length_take,List.length_drop];omega
 obtain ⟨L',h7,h8⟩:=hback (G.le.refl I) (A':=[(b,.cells ((vs.take off++(ev ρ y).cells.toList++vs.drop (off+m))++junk).toArray T (0,0))]) ⟨some b,_,n',_,e1,hnr,by
  intro u hu
  simp only[List.mem_append] at hu
  rcases hu with (hu|hu)|hu
  ·exact h6c u (List.mem_of_mem_take hu)
  ·exact h5.cell1 hl1 u hu
  ·exact h6c u (List.mem_of_mem_drop hu),by rw[hnl];exact g1,g2,.inr ⟨b,junk,rfl,rfl,by
   simp only[List.length_append] at g4 ⊢
   simp only[List.length_append] at hnl
   omega⟩⟩
 exact kk I F ρ _ h1 ⟨htop,L',h7,(hS2.turn1).perm (h8.append_right F)⟩
theorem ao.storeG1 {i off k:Nat} {T:TypeId} {v:AV} {cs:List AV} (hs:∀w,(sizeOf t).run P w=.ok 1 w) (hx:aW env x=.po i off) (hy:aW env y=v) (hv:v.sto=true) (hl:v.cs=[v]) (hl1:v.cell=true)
  (hO:fe O i (.grow k T cs) (.grow k T (cs.set off v)) O') (hb:off<cs.length) (kk:ao P E ops K rest env O'):ao P E ops K (Oper.mk none (.store t x y) ty pos af none::rest) env O:=
 ao.storeG hs hx hy hv hl (by simp[hl1]) rfl hO (by omega) (by omega) (by rw[List.set_eq_take_append_cons_drop,if_pos hb];simp) kk
theorem Gv.field1 {fs:Array Field} {f:Field} {i:Nat} {cs:List AV} {v:AV} (ht:P.underlying t=some (.struct fs)) (hf:fs[i]?=some f) (ha:∀w,(isAgg f.type).run P w=.ok false w) (hx:aW env x=.agg cs) (hv:cs[f.offset]?=some v) :
  Gv P env O (Oper.mk (some d) (.field t x i) ty pos af none) v:=Gv.ofEv fun I ρ h=>by
 have h2:=h.ev x
 rw[hx] at h2
 obtain ⟨vs,e,hr⟩:=h2
 obtain ⟨u,hu,hru⟩:=hr.get hv
 exact ⟨u,hru,fun w=>by simp[execOp,e,Instr.field,run_underlying ht,hf,part,ha,hu,asAgg,Result.andThen]⟩
theorem Gv.idxAF {n k j:Nat} {i:Int} {cs cs':List AV} (ht:P.underlying t=some (.array n e)) (hs:∀w,(sizeOf e).run P w=.ok k w) (hx:aW env x=.pf cs) (hy:aW env y=.int .i64 i) (hi:i=(j:Int)) (hj:j<n) (hl:cs.drop (j*k)=cs') :
  Gv P env O (Oper.mk (some d) (.indexAddr t x y) ty pos af none) (.pf cs'):=fun I L E ρ h1 _=>by
 have h2:=h1.ev x
 rw[hx] at h2
 obtain ⟨b,off,vs,ex,h3,h5⟩:=h2
 refine ⟨.pointer (some ⟨b,off+j*k,none⟩),⟨b,_,vs.drop (j*k),rfl,hl▸h3.drop _,fun m u hu=>?_⟩,fun w J L' _ _ _=>?_⟩
 ·rw[List.getElem?_drop] at hu
  have:=h5 _ _ hu
  rwa [←Nat.add_assoc] at this
 ·subst hi
  simp[execOp,ex,gW h1 hy,Instr.indexAt,asIntOf,run_underlying ht,hs,hj,bj,Instr.sureAddr]
theorem Gv.idxAO {n k j id off:Nat} {i:Int} (ht:P.underlying t=some (.array n e)) (hs:∀w,(sizeOf e).run P w=.ok k w) (hx:aW env x=.po id off) (hy:aW env y=.int .i64 i) (hi:i=(j:Int)) (hj:j<n) {r:Nat} (hr:off+j*k=r) :
  Gv P env O (Oper.mk (some d) (.indexAddr t x y) ty pos af none) (.po id r):=fun I L E ρ h1 _=>by
 have h2:=h1.ev x
 rw[hx] at h2
 obtain ⟨b,c,e1,ex⟩:=h2
 refine ⟨.pointer (some ⟨b,r,none⟩),⟨b,c,e1,rfl⟩,fun w J L' _ _ _=>?_⟩
 subst hi hr
 simp[execOp,ex,gW h1 hy,Instr.indexAt,asIntOf,run_underlying ht,hs,hj,bj,Instr.sureAddr]
theorem Gv.indexA {n j k:Nat} {i:Int} {cs l:List AV} (ht:P.underlying t=some (.array n e)) (ha:∀w,(isAgg e).run P w=.ok true w) (hs:∀w,(sizeOf e).run P w=.ok k w) (hx:aW env x=.agg cs) (hy:aW env y=.int .i64 i) (hi:i=(j:Int)) (hj:j<n) (hl:(cs.drop (j*k)).take k=l) :
  Gv P env O (Oper.mk (some d) (.index t x y) ty pos af none) (.agg l):=Gv.ofEv fun I ρ h=>by
 have h2:=h.ev x
 rw[hx] at h2
 obtain ⟨vs,ex,hr⟩:=h2
 refine ⟨.agg ((vs.drop (j*k)).take k).toArray,⟨_,rfl,hl▸(hr.drop _).take _⟩,fun w=>?_⟩
 subst hi
 simp[execOp,ex,gW h hy,Instr.index,asIntOf,run_underlying ht,hj,hs,part,ha,Result.andThen]
theorem Gv.indexT {j:Nat} {i:Int} {s:ByteArray} {c:UInt8} (ht:P.underlying t=some .string) (hx:aW env x=.str s) (hy:aW env y=.int .i64 i) (hi:i=(j:Int)) (hv:s.data[j]?=some c) :
  Gv P env O (Oper.mk (some d) (.index t x y) ty pos af none) (.int .u8 c.toNat):=Gv.ofEv fun I ρ h=>by
 refine ⟨_,rfl,fun w=>?_⟩
 subst hi
 have hj:s[j]?=some c:=by
  have h1:=(Array.getElem?_eq_some_iff.1 hv)
  obtain ⟨h1,h2⟩:=h1
  show (if h:j<s.size then some s[j] else none)=some c
  rw[dif_pos (show j<s.size from h1)];exact congrArg some h2
 simp[execOp,As h hx,gW h hy,Instr.index,asIntOf,run_underlying ht,hj]
theorem ao.rangeT {s:ByteArray} (ht:P.underlying t=some .string) (hx:aW env x=.str s) (k:∀i,ao P E ops K rest (bl env d (.po i 0)) ((i,.iter s 0)::O)):ao P E ops K (Oper.mk (some d) (.range t x) ty pos af none::rest) env O:=fun I F ρ w h1 h2=>by
 obtain ⟨L,hL,hS⟩:=h2.2
 obtain ⟨i,hi⟩:=h2.name
 refine bq.rangeT ht hS (As h1 hx) fun b w' hS'=>?_
 obtain ⟨J,e1,hle,e2,htop⟩:=hi (some b,0)
 exact yt (fun _ _=>cO.up hle) _ _ _ (k i J F _ _ ((h1.mono hle).upd d ⟨b,0,e2,rfl⟩) ⟨htop,_,⟨_,L,rfl,⟨b,0,e2,rfl⟩,hL.mono hle⟩,by rw[e1];exact hS'⟩)
theorem ao.nextT {i p:Nat} {s:ByteArray} (hx:aW env x=.po i 0) (hO:fe O i (.iter s p) (.iter s (p+(Utf8.decode s p).2)) O') (hp:p<s.size)
  (k:ao P E ops K rest (bl env d (.tup [.bool true,.int .i64 p,.int .i32 (Utf8.decode s p).1])) O'):ao P E ops K (Oper.mk (some d) (.next x true) ty pos af none::rest) env O:=fun I F ρ w h1 h2=>by
 obtain ⟨ht,L,hL,hS⟩:=h2
 have h3:=h1.ev x
 rw[hx] at h3
 obtain ⟨b,c,e1,e⟩:=h3
 obtain ⟨A,B,hp1,⟨b',c',e2,rfl⟩,hback⟩:=hO.rep hL
 simp only at e2
 rw[e1] at e2
 simp only[Option.some.injEq,Prod.mk.injEq] at e2
 obtain ⟨rfl,rfl⟩:=e2
 have hS2:SL I.k ((b,.stringIter s p)::(B++F)) E w:=hS.perm ((hp1.append_right F).symm)
 refine bq.nextT hS2 e hp fun w' hS'=>?_
 obtain ⟨L',h7,h8⟩:=hback (G.le.refl I) (A':=[(b,.stringIter s (p+(Utf8.decode s p).2))]) ⟨b,c,e1,rfl⟩
 exact k I F _ _ (h1.upd d ⟨[.bool true,.int .i64 p,.int .i32 (Utf8.decode s p).1],rfl,⟨_,_,rfl,rfl,⟨_,_,rfl,rfl,⟨_,_,rfl,rfl,rfl⟩⟩⟩⟩) ⟨ht,L',h7,hS'.perm (h8.append_right F)⟩
theorem ao.nextTover {i p:Nat} {s:ByteArray} (hx:aW env x=.po i 0) (hO:cS O i (.iter s p) O') (hp:¬p<s.size)
  (k:ao P E ops K rest (bl env d (.tup [.bool false])) O):ao P E ops K (Oper.mk (some d) (.next x true) ty pos af none::rest) env O:=fun I F ρ w h1 h2=>by
 obtain ⟨ht,L,hL,hS⟩:=id h2
 have h3:=h1.ev x
 rw[hx] at h3
 obtain ⟨b,c,e1,e⟩:=h3
 obtain ⟨A,B,hp1,⟨b',c',e2,rfl⟩,_⟩:=hO.rep hL
 simp only at e2
 rw[e1] at e2
 simp only[Option.some.injEq,Prod.mk.injEq] at e2
 obtain ⟨rfl,rfl⟩:=e2
 have hS2:SL I.k ((b,.stringIter s p)::(B++F)) E w:=hS.perm (by have:=(hp1.append_right F).symm;simpa using this)
 exact bq.nextTover hS2 e hp (k I F _ _ (h1.upd d ⟨[.bool false],rfl,⟨_,_,rfl,rfl,rfl⟩⟩) h2)
theorem ao.nextA {i p:Nat} {s:ByteArray} {c:UInt8} (hx:aW env x=.po i 0) (hc:s.data[p]?=some c) (hc2:c<128) (hO:fe O i (.iter s p) (.iter s (p+1)) O')
  (k:ao P E ops K rest (bl env d (.tup [.bool true,.int .i64 p,.int .i32 (c.toNat:Int)])) O'):ao P E ops K (Oper.mk (some d) (.next x true) ty pos af none::rest) env O:=by
 have hp:p<s.size:=by
  by_cases hp:p<s.data.size
  ·exact hp
  ·rw[Array.getElem?_eq_none (by omega)] at hc;cases hc
 have hd:=iR hc hc2
 exact ao.nextT hx (by rw[hd];exact hO) hp (by rw[hd];exact k)
end
end
section
theorem jQ {k:Nat}:∀(xs:List (List AV)) (i:Nat) (pre zs:List AV),(∀x∈xs,x.length=k)→zs.length=xs.length*k→pre.length=i*k →
  fX (fun i=>some (i*k,k)) (pre++zs) ((xs.zipIdx i).map fun p=>(p.2,p.1))=some (pre++xs.flatten)
 |[],i,pre,zs,_,h,_=>by simp at h;subst h;simp[fX]
 |x::xs,i,pre,zs,hk,h,hp=>by
  have hx:=hk x (by simp)
  have e1:Nat.beq x.length k=true:=by rw[hx];exact Nat.beq_refl k
  have e2:Nat.ble (i*k+k) (pre++zs).length=true:=by
   rw[Nat.ble_eq,List.length_append,hp,h,List.length_cons,Nat.add_mul];omega
  simp only[List.zipIdx_cons,List.map_cons,fX,e1,e2,Bool.and_self,cond_true]
  have h1:(pre++zs).take (i*k)=pre:=by rw[←hp];simp
  have h2:(pre++zs).drop (i*k+k)=zs.drop k:=by rw[←hp,List.drop_append];simp
  rw[h1,h2,←List.append_assoc]
  rw[jQ xs (i+1) (pre++x) (zs.drop k) (fun y hy=>hk y (by simp[hy])) (by rw[List.length_drop,h,List.length_cons,Nat.add_mul];omega) (by rw[List.length_append,hp,hx,Nat.add_mul];omega)]
  simp
theorem rO {α:Type} {enc:α→List AV} {k:Nat} (hk:∀x,(enc x).length=k):∀(l:List α) (j:Nat) {x:α},l[j]?=some x→((l.flatMap enc).drop (j*k)).take k=enc x
 |[],j,x,h=>by simp at h
 |y::l,0,x,h=>by simp at h;subst h;simp[List.take_append_of_le_length,hk]
 |y::l,j+1,x,h=>by
  simp only[List.getElem?_cons_succ] at h
  rw[←rO hk l j h,List.flatMap_cons,Nat.add_mul,Nat.one_mul,Nat.add_comm,←List.drop_drop]
  congr 2
  rw[←hk y];simp
section
variable {E:World} {P:Program} {env:aK} {O:OL} {d ty:Nat} {pos:String} {af:Array Edge} {t:TypeId}
theorem Gv.buildAF {k:Nat} {zs:List AV} {xs:List (List AV)} {l:List (Nat × Operand)} (hpl:kU P t k zs) (hs:l.all (fun p=>(aW env p.2).sto)=true) (hv:l.map (fun p=>(p.1,(aW env p.2).cs))=(xs.zipIdx 0).map fun p=>(p.2,p.1))
  (hk:xs.all (fun x=>Nat.beq x.length k)=true) (hz:zs.length=xs.length*k):Gv P env O (Oper.mk (some d) (.build t l.toArray) ty pos af none) (.agg xs.flatten):=
 Gv.buildA hpl hs hv (by
  have:=jQ xs 0 [] zs (fun x hx=>Nat.eq_of_beq_eq_true (List.all_eq_true.1 hk x hx)) hz (by simp)
  simpa using this)
end
inductive mJ:OL→Nat→bo→Nat→bo→OL→Prop
 |head {i o j o' O}:mJ ((i,o)::O) i o j o' ((j,o')::O)
 |tail {x O i o j o' O'}:mJ O i o j o' O'→mJ (x::O) i o j o' (x::O')
theorem mJ.rep {I:G} {O O':OL} {i j:Nat} {o o':bo} (h:mJ O i o j o' O'):∀{L},bA I O L→∃A B,L.Perm (A++B)∧mP I (i,o) A ∧
  ∀{J:G} {A'},I.le J→mP J (j,o') A'→∃L',bA J O' L'∧L'.Perm (A'++B):=by
 induction h with
 |head=>rintro L ⟨A,B,e,h1,h2⟩;exact ⟨A,B,e▸.refl _,h1,fun {J A'} hl h=>⟨A'++B,⟨A',B,rfl,h,h2.mono hl⟩,.refl _⟩⟩
 |tail h ih=>
  rintro L ⟨A,B,e,h1,h2⟩
  obtain ⟨C,D,hp,h3,h4⟩:=ih h2
  refine ⟨C,A++D,?_,h3,fun {J A'} hl h=>?_⟩
  ·subst e
   refine (hp.append_left A).trans ?_
   rw[←List.append_assoc,←List.append_assoc]
   exact List.perm_append_comm.append_right D
  ·obtain ⟨L',h5,h6⟩:=h4 hl h
   refine ⟨A++L',⟨A,L',rfl,h1.mono hl,h5⟩,?_⟩
   refine (h6.append_left A).trans ?_
   rw[←List.append_assoc,←List.append_assoc]
   exact List.perm_append_comm.append_right D
section
variable {E:World} {P:Program} {ops:Array Oper} {K:aK→OL→Prop} {env:aK} {O O':OL} {rest:List Oper}
variable {d ty:Nat} {pos:String} {af:Array Edge} {x y z:Operand} {t u e:TypeId}
theorem ao.appendS {ti:TypeInfo} {zv:Value} {k n i:Nat} {cs:List AV} {rows:List (List AV)} {f:Nat→OL} (ht:P.underlying t=some (.slice e)) (hi:P.info? e=some ti) (hz:ti.zero=some zv) (hk:ti.size=k) (hzc:zv.cells.size=k)
  (hx:aW env x=.own i n) (hy:aW env y=.fro k rows) (hO:∀j,mJ O i (.grow k e cs) j (.grow k e (cs++rows.flatten)) (f j)) (hn:cs.length=n*k) (hk0:0<k) (hc1:rows.flatten.all AV.cell=true) (hb:(n+rows.length)*ti.bytes≤140737488355328) (hb2:n+rows.length≤140737488355328)
  (kk:∀j,ao P E ops K rest (bl env d (.own j (n+rows.length))) (f j)) :
  ao P E ops K (Oper.mk (some d) (.call { callee:=.builtin .append,args:=#[x,y],argTypes:=#[t,t] }) ty pos af none::rest) env O:=fun I F ρ w h1 h2=>by
 obtain ⟨htop,L,hL,hS⟩:=id h2
 have h3:=h1.ev x
 rw[hx] at h3
 obtain ⟨b,cap,e1,ex⟩:=h3
 have h4:=h1.ev y
 rw[hy] at h4
 obtain ⟨sa,m,sc,vs,ey,hm,hvs,hvc,hsrc⟩:=Au h4 hc1
 obtain ⟨j,hj⟩:=h2.name
 obtain ⟨A,B,hp,⟨b',cap',n',us,e2,hus,huc,hown⟩,hback⟩:=(hO j).rep hL
 simp only at e2
 rw[e1] at e2
 simp only[Option.some.injEq,Prod.mk.injEq] at e2
 obtain ⟨rfl,rfl⟩:=e2
 have hnn:n'=n:=by
  have h5:=hown.1
  have h6:=hus.length
  have:n'*k=n*k:=by omega
  exact Nat.eq_of_mul_eq_mul_right hk0 this
 subst hnn
 subst hm
 have hS2:SL I.k (A++(B++F)) E w:=hS.perm (by rw[←List.append_assoc];exact (hp.append_right F).symm)
 refine bq.append ht hi hz hk hzc ex ey hS2 hown (hsrc _) hb hb2 fun a' c' A' w' h5 h6 h7=>?_
 have hb':∃b'',a'=adr b'':=by
  rcases h5.2.2 with ⟨e,_⟩|⟨b'',junk,e,_⟩
  ·exact ⟨none,e⟩
  ·exact ⟨some b'',e⟩
 obtain ⟨b'',rfl⟩:=hb'
 obtain ⟨J,ek,hle,e3,htop'⟩:=hj (b'',c')
 obtain ⟨L',h8,h9⟩:=hback hle (A':=A') ⟨b'',c',_,us++vs,e3,RepL.mono hle _ _ (hus.append hvs),(by
  intro u hu
  rcases List.mem_append.1 hu with hu|hu
  ·exact huc u hu
  ·exact hvc u hu),h5⟩
 exact yt (fun _ _=>cO.up hle) _ _ _ (kk j J F _ _ ((h1.mono hle).upd d ⟨b'',c',e3,rfl⟩) ⟨htop',L',h8,by rw[ek];exact h6.perm (by rw[←List.append_assoc];exact h9.append_right F)⟩)
end
theorem dB {α:Type} {enc:α→List AV} {xs ys:List α} {x:α} (h:ys=xs++[x]):(xs.map enc).flatten++[enc x].flatten=(ys.map enc).flatten:=by subst h;simp
theorem bW {α:Type} {enc:α→List AV} {k:Nat} (hk:∀x,(enc x).length=k) (xs:List α):(xs.map enc).flatten.length=xs.length*k:=by
 rw[xh (k:=k) (by simp[hk]),List.length_map]
end
section
theorem CW {I:G} {x v:Value} (h:bH I (lit x) v):v=x:=by cases x<;>exact h
theorem fJ {I:G}:∀{xs vs:List Value},RepL I (xs.map lit) vs→vs=xs
 |[],_,h=>h
 |x::xs,_,⟨v,us,e,h1,h2⟩=>by rw[e,CW h1,fJ h2]
section
variable {E:World} {P:Program} {env:aK} {O:OL} {d ty:Nat} {pos:String} {af:Array Edge} {x y:Operand} {t u:TypeId}
theorem Gv.eqlP {xs ys:List Value} {r:Bool} (hg:P.eqGuardType P.depth t=false) (hx:aW env x=.agg (xs.map lit)) (hy:aW env y=.agg (ys.map lit)) (hr:∀w,(Op.equalIn 10000 t (.agg xs.toArray) (.agg ys.toArray)).run P w=.ok r w) :
  Gv P env O (Oper.mk (some d) (.binOp .eql t x y u) ty pos af none) (.bool r):=Gv.ofEv fun I ρ h=>by
 have h1:=h.ev x
 have h2:=h.ev y
 rw[hx] at h1
 rw[hy] at h2
 obtain ⟨vs,e1,hv⟩:=h1
 obtain ⟨us,e2,hu⟩:=h2
 rw[fJ hv] at e1
 rw[fJ hu] at e2
 exact ⟨_,rfl,fun w=>by simp only[execOp,e1,e2];simp[run_eqGuard_agg w .eql t x y xs.toArray ys.toArray hg,run_eql_struct,hr]⟩
theorem Gv.neqP {xs ys:List Value} {r:Bool} (hg:P.eqGuardType P.depth t=false) (hx:aW env x=.agg (xs.map lit)) (hy:aW env y=.agg (ys.map lit)) (hr:∀w,(Op.equalIn 10000 t (.agg xs.toArray) (.agg ys.toArray)).run P w=.ok r w) :
  Gv P env O (Oper.mk (some d) (.binOp .neq t x y u) ty pos af none) (.bool (!r)):=Gv.ofEv fun I ρ h=>by
 have h1:=h.ev x
 have h2:=h.ev y
 rw[hx] at h1
 rw[hy] at h2
 obtain ⟨vs,e1,hv⟩:=h1
 obtain ⟨us,e2,hu⟩:=h2
 rw[fJ hv] at e1
 rw[fJ hu] at e2
 exact ⟨_,rfl,fun w=>by simp only[execOp,e1,e2];simp[run_eqGuard_agg w .neq t x y xs.toArray ys.toArray hg,run_neq_struct,hr]⟩
end
theorem CF {α:Type} {xs ys:List α} {k:Nat} (h1:k<xs.length) (h2:k<ys.length) (h:¬xs[k]=ys[k]):¬xs=ys:=fun e=>by subst e;exact h rfl
theorem eA {α:Type} {xs ys:List α} {k:Nat} (h1:k<xs.length) (h2:k<ys.length) (he:xs.take k=ys.take k) (h:xs[k]=ys[k]):xs.take (k+1)=ys.take (k+1):=by
 rw[List.take_succ_eq_append_getElem h1,List.take_succ_eq_append_getElem h2,he,h]
theorem eB {α:Type} {xs ys:List α} {k:Nat} (hl:xs.length=ys.length) (hk:xs.length≤k) (he:xs.take k=ys.take k):xs=ys:=by
 rwa [List.take_of_length_le hk,List.take_of_length_le (by omega)] at he
end
section
section
variable {E:World} {P:Program} {ops:Array Oper} {K:aK→OL→Prop} {env:aK} {O O':OL} {rest:List Oper}
variable {d ty:Nat} {pos:String} {af:Array Edge} {x y:Operand} {t u e:TypeId}
theorem ao.isNil {k:Nat} {rows:List (List AV)} (ht:P.underlying t=some (.slice e)) (hx:aW env x=.fro k rows) (hy:aW env y=.raw (.slice none 0 0)) (kt:rows=[]→ao P E ops K rest (bl env d (.bool true)) O) (kf:ao P E ops K rest (bl env d (.bool false)) O) :
  ao P E ops K (Oper.mk (some d) (.binOp .eql t x y u) ty pos af none::rest) env O:=fun I F ρ w h1 h2=>by
 have h3:=h1.ev x
 rw[hx] at h3
 obtain ⟨a,n,c,e1,hn,hnc,hnil,_⟩:=h3
 refine bq.eqNilS ht e1 (m9 h1 hy) ?_
 cases a with
 |none=>
  have:rows=[]:=List.eq_nil_of_length_eq_zero (by have:=hnil rfl;omega)
  exact kt this I F _ w (h1.upd d rfl) h2
 |some p=>exact kf I F _ w (h1.upd d rfl) h2
theorem jR {rs:Array ResultVar} {R:AV→OL→Prop} {s k:Nat} {T:TypeId} (hv:env s=.raw (.slice none 0 0)) (h:∀i,dh P E rs R .ret (bl env s (.own i 0)) ((i,.grow k T [])::O)):dh P E rs R .ret env O:=fun I F ρ w h1 h2=>by
 obtain ⟨i,hi⟩:=h2.name
 obtain ⟨J,e1,hle,e2,htop⟩:=hi (none,0)
 obtain ⟨_,L,hL,hS⟩:=h2
 have h3:ρ s=.slice none 0 0:=by have:=h1 s;rw[hv] at this;exact this
 obtain ⟨v,g1,K,x,O',g2,g3⟩:=h i J F ρ w (fun q=>by
  unfold bl
  cases hb:Nat.beq q s with
  |false=>exact bH.mono hle _ _ (h1 q)
  |true=>
   have:q=s:=Nat.eq_of_beq_eq_true hb
   subst this
   exact ⟨none,0,e2,h3⟩) ⟨htop,_,⟨[],L,rfl,⟨none,0,0,[],e2,rfl,by simp,ej.nil k T⟩,hL.mono hle⟩,by rw[e1];exact hS⟩
 exact ⟨v,g1,K,x,O',hle.trans g2,g3⟩
end
theorem Left.refl (O:OL):Left O O:=⟨O,.refl _,rfl⟩
end
section
section
variable {E:World} {P:Program} {ops:Array Oper} {K:aK→OL→Prop} {env:aK} {O O':OL} {rest:List Oper}
variable {d ty:Nat} {pos:String} {af:Array Edge} {x y:Operand} {t u e:TypeId}
theorem vI {k:Nat} {zs:List AV} {xs:List (List AV)} (hk:xs.all (fun x=>Nat.beq x.length k)=true) (hz:zs.length=xs.length*k):fX (fun i=>some (i*k,k)) zs ((xs.zipIdx 0).map fun p=>(p.2,p.1))=some xs.flatten:=by
 have:=jQ xs 0 [] zs (fun x hx=>Nat.eq_of_beq_eq_true (List.all_eq_true.1 hk x hx)) hz (by simp)
 simpa using this
theorem ao.buildSliceFF {n k:Nat} {zs:List AV} {rows:List (List AV)} {l:List (Nat × Operand)} (hpl:di P t e n k zs) (hs:l.all (fun p=>(aW env p.2).sto)=true) (hv:l.map (fun p=>(p.1,(aW env p.2).cs))=(rows.zipIdx 0).map fun p=>(p.2,p.1))
  (hk:rows.all (fun r=>Nat.beq r.length k)=true) (hn:rows.length=n) (hz:zs.length=n*k) (kk:ao P E ops K rest (bl env d (.fro k rows)) O) :
  ao P E ops K (Oper.mk (some d) (.buildSlice t n l.toArray) ty pos af none::rest) env O:=
 ao.buildSliceF hpl hs hv (vI hk (by rw[hz,hn])) rfl hk hn kk
end
theorem SL.belowE {I:aI} {O:List (Nat × Obj)} {E w:World} (hS:SL I O E w):Go.RowKit.Below E.heap.size E w:=by
 have key:∀k,k<E.heap.size→w.heap[k]?=E.heap[k]?:=fun k hk=>by
  have h1:E.heap[k]?=some E.heap[k]:=Array.getElem?_eq_getElem hk
  rw[h1]
  exact hS.pers _ _ (hS.base k _ h1)
 refine ⟨hS.os,hS.tape,hS.output,?_,key⟩
 rcases Nat.lt_or_ge w.heap.size E.heap.size with h|h
 ·have:=key w.heap.size h
  rw[Array.getElem?_eq_none (Nat.le_refl _),Array.getElem?_eq_getElem h] at this
  cases this
 ·exact h
theorem aT.ofBelow {E:World} {P:Program} {f:FuncId} {fn:Func} {c:Code} {as0:List AV} {vs:List Value} {r:Value} (hf:P.funcs[f]?=some fn) (hb:fn.body=some c) (hn:fn.name≠"runtime.NumGoroutine") (has:as0=vs.map lit)
  (h:∀w,Go.RowKit.Below E.heap.size E w→Calls P f vs.toArray w fun e w'=>e=.returned r∧Go.RowKit.Below w.heap.size w w'):aT P E f as0 (lit r):=fun I F w us h1 h2=>by
 subst has
 rw[fJ h1]
 obtain ⟨ht,L,hL,hS⟩:=h2
 have hL:L=[]:=hL
 subst hL
 refine Fn.ofCalls hf hb hn ?_
 exact (h w hS.belowE).mono fun e w' ⟨he,hw⟩=>⟨_,he,I,lit r,[],.refl _,rN I r,⟨ht,[],rfl,hS.below hw⟩,rfl⟩
section
variable {P:Program} {E:World} {l:List Oper} {W:Nat→Bool} {fuel:Nat} {listed:Array Bool} {d ty:Nat} {op:Op} {pos:String} {af:Array Edge} {Q:aK→OL→Prop} {env:aK} {Os Om:OL}
def nM (l:List Oper) (W:Nat→Bool) (listed:Array Bool) (i:Nat):Bool:=Region.noSelect l.toArray&&(Region.free .any l.toArray listed i&&((Region.ready .any l.toArray listed).contains i&&(eF l i W&&(!W i&&dT W listed))))
theorem nM.of {i:Nat} (h:nM l W listed i=true):Region.noSelect l.toArray=true∧Region.free .any l.toArray listed i=true∧(Region.ready .any l.toArray listed).contains i=true∧eF l i W=true∧W i=false∧dT W listed=true:=by
 simpa only[nM,Bool.and_eq_true,Bool.not_eq_true'] using h
theorem aN (i:Nat) {x:AV} (hi:l[i]?=some (Oper.mk (some d) op ty pos af none)) (hg:Gv P env Os (Oper.mk (some d) op ty pos af none) x)
  (h:bz P E l W Q fuel (listed.setIfInBounds i true) (bl env d x) Os Om) (hb:nM l W listed i=true:=by kernel_rfl):bz P E l W Q (fuel+1) listed env Os Om:=
 have ⟨a,b,c,e,g,k⟩:=nM.of hb
 bz.take hi a b c e g k hg h
theorem fu (i:Nat) {j s:Nat} {b t:Bool} {x:AV} (hi:l[i]?=some (Oper.mk (some d) op ty pos af (some (j,b)))) (hg0:(l[j]?).bind (fun o:Oper=>o.dst)=some s) (hv0:env s=.bool t) (ht:t=b) (hg:Gv P env Os (Oper.mk (some d) op ty pos af none) x)
  (h:bz P E l W Q fuel (listed.setIfInBounds i true) (bl env d x) Os Om) (hb:nM l W listed i=true:=by kernel_rfl):bz P E l W Q (fuel+1) listed env Os Om:=
 have ⟨a,b,c,e,g,k⟩:=nM.of hb
 bz.takeT hi hg0 hv0 ht a b c e g k hg h
theorem dR (i:Nat) {j s:Nat} {b t:Bool} (hi:l[i]?=some (Oper.mk (some d) op ty pos af (some (j,b)))) (hg0:(l[j]?).bind (fun o:Oper=>o.dst)=some s) (hv0:env s=.bool t) (ht:t=!b)
  (h:bz P E l W Q fuel (listed.setIfInBounds i true) (bl env d (.raw undef)) Os Om) (hb:nM l W listed i=true:=by kernel_rfl):bz P E l W Q (fuel+1) listed env Os Om:=
 have ⟨a,b,c,e,g,k⟩:=nM.of hb
 bz.takeF hi hg0 hv0 ht a b c e g k h
theorem cP (i:Nat) {o:Oper} (hi:l[i]?=some o) (h:ao P E l.toArray (fun env' Om'=>bz P E l W Q fuel (listed.setIfInBounds i true) env' Os Om') [o] env Om) (hr:Region.ready .any l.toArray listed=[i]:=by kernel_rfl):bz P E l W Q (fuel+1) listed env Os Om:=bz.one hi hr h
theorem kV (h:Q env (Os++Om)) (hr:Region.ready .any l.toArray listed=[]:=by kernel_rfl):bz P E l W Q fuel listed env Os Om:=bz.done hr h
variable {x y z:Operand} {t:TypeId} {O:OL}
theorem kq {k:IntKind} {a:Int} (hx:aW env x=.int k a):Gv P env O (Oper.mk (some d) (.move x) ty pos af none) (.int k a):=Gv.move hx
theorem Av {a:Bool} (hx:aW env x=.bool a):Gv P env O (Oper.mk (some d) (.move x) ty pos af none) (.bool a):=Gv.move hx
theorem Am {k:Nat} {a:List (List AV)} (hx:aW env x=.fro k a):Gv P env O (Oper.mk (some d) (.move x) ty pos af none) (.fro k a):=Gv.move hx
theorem Fm {k:IntKind} {a:Int} (hx:aW env x=.int k a):Gv P env O (Oper.mk (some d) (.assign x) ty pos af none) (.int k a):=Gv.assign hx
theorem CX {a:Bool} (hx:aW env x=.bool a):Gv P env O (Oper.mk (some d) (.assign x) ty pos af none) (.bool a):=Gv.assign hx
theorem w8 {k:Nat} {a:List (List AV)} (hx:aW env x=.fro k a):Gv P env O (Oper.mk (some d) (.assign x) ty pos af none) (.fro k a):=Gv.assign hx
theorem mK {k:IntKind} {a:Int} {cs:List AV} (ha:∀w,(isAgg t).run P w=.ok false w) (hx:aW env x=.pf (.int k a::cs)):Gv P env O (Oper.mk (some d) (.load t x) ty pos af none) (.int k a):=Gv.load1F ha hx
theorem lx {k:Nat} {a:List (List AV)} {cs:List AV} (ha:∀w,(isAgg t).run P w=.ok false w) (hx:aW env x=.pf (.fro k a::cs)):Gv P env O (Oper.mk (some d) (.load t x) ty pos af none) (.fro k a):=Gv.load1F ha hx
theorem Aw {b v:Bool} (hc:aW env x=.bool b) (hb:b=true) (hy:aW env y=.bool v):Gv P env O (Oper.mk (some d) (.pick x y z) ty pos af none) (.bool v):=Gv.pickT hc hb hy
theorem CG {b v:Bool} (hc:aW env x=.bool b) (hb:b=false) (hy:aW env z=.bool v):Gv P env O (Oper.mk (some d) (.pick x y z) ty pos af none) (.bool v):=Gv.pickF hc hb hy
theorem iL {i m:Nat} (hx:aW env x=.own i m):Gv P env O (Oper.mk (some d) (.move x) ty pos af none) (.own i m):=Gv.move hx
theorem An {i m:Nat} (hx:aW env x=.po i m):Gv P env O (Oper.mk (some d) (.move x) ty pos af none) (.po i m):=Gv.move hx
theorem FF {cs:List AV} (hx:aW env x=.pf cs):Gv P env O (Oper.mk (some d) (.move x) ty pos af none) (.pf cs):=Gv.move hx
theorem DW {cs:List AV} (hx:aW env x=.tup cs):Gv P env O (Oper.mk (some d) (.move x) ty pos af none) (.tup cs):=Gv.move hx
theorem mQ {i m:Nat} (hx:aW env x=.own i m):Gv P env O (Oper.mk (some d) (.assign x) ty pos af none) (.own i m):=Gv.assign hx
theorem Fk {i m:Nat} (hx:aW env x=.po i m):Gv P env O (Oper.mk (some d) (.assign x) ty pos af none) (.po i m):=Gv.assign hx
theorem nc {a:Value} (hx:aW env x=.raw a):Gv P env O (Oper.mk (some d) (.assign x) ty pos af none) (.raw a):=Gv.assign hx
theorem xi {vs:List AV} {i:Nat} {k:IntKind} {a:Int} (hx:aW env x=.tup vs) (hv:vs[i]?=some (.int k a)):Gv P env O (Oper.mk (some d) (.extract x i) ty pos af none) (.int k a):=Gv.extract hx hv
theorem w9 {vs:List AV} {i:Nat} {a:Bool} (hx:aW env x=.tup vs) (hv:vs[i]?=some (.bool a)):Gv P env O (Oper.mk (some d) (.extract x i) ty pos af none) (.bool a):=Gv.extract hx hv
theorem f9 {fs:Array Field} {f:Field} {i sz:Nat} {cs cs':List AV} (ht:P.underlying t=some (.struct fs)) (hf:fs[i]?=some f) (hs:∀w,(sizeOf f.type).run P w=.ok sz w)
  (hx:aW env x=.pf cs) (hr:cs.drop f.offset=cs') (hz:sz≠0:=by decide):Gv P env O (Oper.mk (some d) (.fieldAddr t x i) ty pos af none) (.pf cs'):=Gv.fieldF ht hf hs hz hx hr
theorem Fo {u:TypeId} {a b:Int} (hx:aW env x=.int .i64 a) (hy:aW env y=.int .i64 b) (hr:nK (a+b):=by unfold nK;omega):Gv P env O (Oper.mk (some d) (.binOp .add t x y u) ty pos af none) (.int .i64 (a+b)):=Gv.add hx hy hr
theorem ai {n id:Nat} {y:Code} {R:Exit→aK→OL→Prop} (h:ao P E l.toArray (lw (cG P E n y R) R .normal) l env O) (hd:ei n l=true:=by exact rfl):cG P E n (.seq (.region id l.toArray false) y) R env O:=cG.seq (cG.region hd h)
theorem bg {n id:Nat} {R:Exit→aK→OL→Prop} (h:ao P E l.toArray (R .normal) l env O) (hd:ei n l=true:=by exact rfl):cG P E n (.region id l.toArray false) R env O:=cG.region hd h
theorem dG {α:Type} {enc:α→List AV} {xs:List α} {k:Nat} {e:TypeId} (j:Nat) {i:Int} {v:α} (ht:P.underlying t=some (.slice e)) (hs:∀w,(sizeOf e).run P w=.ok k w) (hx:aW env x=.fro k (xs.map enc)) (hy:aW env y=.int .i64 i) (hi:i=(j:Int)) (hj:xs[j]?=some v) :
  Gv P env O (Oper.mk (some d) (.indexAddr t x y) ty pos af none) (.pf (enc v)):=Gv.idxM ht hs hx hy hi hj
theorem aU {O:OL}:Left O O:=⟨_,.refl _,rfl⟩
theorem cS.t1 {x0:Nat × bo} {O:OL} {i:Nat} {o:bo}:cS (x0::(i,o)::O) i o (x0::O):=.tail .head
theorem fe.t1 {x0:Nat × bo} {O:OL} {i:Nat} {o o':bo}:fe (x0::(i,o)::O) i o o' (x0::(i,o')::O):=.tail .head
theorem mJ.t1 {x0:Nat × bo} {O:OL} {i j:Nat} {o o':bo}:mJ (x0::(i,o)::O) i o j o' (x0::(j,o')::O):=.tail .head
theorem cS.t2 {x0 x1:Nat × bo} {O:OL} {i:Nat} {o:bo}:cS (x0::x1::(i,o)::O) i o (x0::x1::O):=.tail .t1
theorem fe.t2 {x0 x1:Nat × bo} {O:OL} {i:Nat} {o o':bo}:fe (x0::x1::(i,o)::O) i o o' (x0::x1::(i,o')::O):=.tail .t1
theorem mJ.t2 {x0 x1:Nat × bo} {O:OL} {i j:Nat} {o o':bo}:mJ (x0::x1::(i,o)::O) i o j o' (x0::x1::(j,o')::O):=.tail .t1
theorem cS.t3 {x0 x1 x2:Nat × bo} {O:OL} {i:Nat} {o:bo}:cS (x0::x1::x2::(i,o)::O) i o (x0::x1::x2::O):=.tail .t2
theorem fe.t3 {x0 x1 x2:Nat × bo} {O:OL} {i:Nat} {o o':bo}:fe (x0::x1::x2::(i,o)::O) i o o' (x0::x1::x2::(i,o')::O):=.tail .t2
theorem mJ.t3 {x0 x1 x2:Nat × bo} {O:OL} {i j:Nat} {o o':bo}:mJ (x0::x1::x2::(i,o)::O) i o j o' (x0::x1::x2::(j,o')::O):=.tail .t2
theorem cS.t4 {x0 x1 x2 x3:Nat × bo} {O:OL} {i:Nat} {o:bo}:cS (x0::x1::x2::x3::(i,o)::O) i o (x0::x1::x2::x3::O):=.tail .t3
theorem fe.t4 {x0 x1 x2 x3:Nat × bo} {O:OL} {i:Nat} {o o':bo}:fe (x0::x1::x2::x3::(i,o)::O) i o o' (x0::x1::x2::x3::(i,o')::O):=.tail .t3
theorem mJ.t4 {x0 x1 x2 x3:Nat × bo} {O:OL} {i j:Nat} {o o':bo}:mJ (x0::x1::x2::x3::(i,o)::O) i o j o' (x0::x1::x2::x3::(j,o')::O):=.tail .t3
theorem cS.t5 {x0 x1 x2 x3 x4:Nat × bo} {O:OL} {i:Nat} {o:bo}:cS (x0::x1::x2::x3::x4::(i,o)::O) i o (x0::x1::x2::x3::x4::O):=.tail .t4
theorem fe.t5 {x0 x1 x2 x3 x4:Nat × bo} {O:OL} {i:Nat} {o o':bo}:fe (x0::x1::x2::x3::x4::(i,o)::O) i o o' (x0::x1::x2::x3::x4::(i,o')::O):=.tail .t4
theorem mJ.t5 {x0 x1 x2 x3 x4:Nat × bo} {O:OL} {i j:Nat} {o o':bo}:mJ (x0::x1::x2::x3::x4::(i,o)::O) i o j o' (x0::x1::x2::x3::x4::(j,o')::O):=.tail .t4
theorem cS.t6 {x0 x1 x2 x3 x4 x5:Nat × bo} {O:OL} {i:Nat} {o:bo}:cS (x0::x1::x2::x3::x4::x5::(i,o)::O) i o (x0::x1::x2::x3::x4::x5::O):=.tail .t5
theorem fe.t6 {x0 x1 x2 x3 x4 x5:Nat × bo} {O:OL} {i:Nat} {o o':bo}:fe (x0::x1::x2::x3::x4::x5::(i,o)::O) i o o' (x0::x1::x2::x3::x4::x5::(i,o')::O):=.tail .t5
theorem mJ.t6 {x0 x1 x2 x3 x4 x5:Nat × bo} {O:OL} {i j:Nat} {o o':bo}:mJ (x0::x1::x2::x3::x4::x5::(i,o)::O) i o j o' (x0::x1::x2::x3::x4::x5::(j,o')::O):=.tail .t5
theorem cS.t7 {x0 x1 x2 x3 x4 x5 x6:Nat × bo} {O:OL} {i:Nat} {o:bo}:cS (x0::x1::x2::x3::x4::x5::x6::(i,o)::O) i o (x0::x1::x2::x3::x4::x5::x6::O):=.tail .t6
theorem fe.t7 {x0 x1 x2 x3 x4 x5 x6:Nat × bo} {O:OL} {i:Nat} {o o':bo}:fe (x0::x1::x2::x3::x4::x5::x6::(i,o)::O) i o o' (x0::x1::x2::x3::x4::x5::x6::(i,o')::O):=.tail .t6
theorem mJ.t7 {x0 x1 x2 x3 x4 x5 x6:Nat × bo} {O:OL} {i j:Nat} {o o':bo}:mJ (x0::x1::x2::x3::x4::x5::x6::(i,o)::O) i o j o' (x0::x1::x2::x3::x4::x5::x6::(j,o')::O):=.tail .t6
theorem cS.t8 {x0 x1 x2 x3 x4 x5 x6 x7:Nat × bo} {O:OL} {i:Nat} {o:bo}:cS (x0::x1::x2::x3::x4::x5::x6::x7::(i,o)::O) i o (x0::x1::x2::x3::x4::x5::x6::x7::O):=.tail .t7
theorem fe.t8 {x0 x1 x2 x3 x4 x5 x6 x7:Nat × bo} {O:OL} {i:Nat} {o o':bo}:fe (x0::x1::x2::x3::x4::x5::x6::x7::(i,o)::O) i o o' (x0::x1::x2::x3::x4::x5::x6::x7::(i,o')::O):=.tail .t7
theorem mJ.t8 {x0 x1 x2 x3 x4 x5 x6 x7:Nat × bo} {O:OL} {i j:Nat} {o o':bo}:mJ (x0::x1::x2::x3::x4::x5::x6::x7::(i,o)::O) i o j o' (x0::x1::x2::x3::x4::x5::x6::x7::(j,o')::O):=.tail .t7
theorem aV {α0:Sort _} {a0:α0}:a0=a0∧True:=⟨rfl,trivial⟩
theorem fF {α0:Sort _} {a0:α0} {α1:Sort _} {a1:α1}:a0=a0∧a1=a1∧True:=⟨rfl,rfl,trivial⟩
theorem oE {α0:Sort _} {a0:α0} {α1:Sort _} {a1:α1} {α2:Sort _} {a2:α2}:a0=a0∧a1=a1∧a2=a2∧True:=⟨rfl,rfl,rfl,trivial⟩
theorem fv {α0:Sort _} {a0:α0} {α1:Sort _} {a1:α1} {α2:Sort _} {a2:α2} {α3:Sort _} {a3:α3}:a0=a0∧a1=a1∧a2=a2∧a3=a3∧True:=⟨rfl,rfl,rfl,rfl,trivial⟩
theorem Ao {α0:Sort _} {a0:α0} {α1:Sort _} {a1:α1} {α2:Sort _} {a2:α2} {α3:Sort _} {a3:α3} {α4:Sort _} {a4:α4}:a0=a0∧a1=a1∧a2=a2∧a3=a3∧a4=a4∧True:=⟨rfl,rfl,rfl,rfl,rfl,trivial⟩
theorem Ax {α0:Sort _} {a0:α0} {α1:Sort _} {a1:α1} {α2:Sort _} {a2:α2} {α3:Sort _} {a3:α3} {α4:Sort _} {a4:α4} {α5:Sort _} {a5:α5}:a0=a0∧a1=a1∧a2=a2∧a3=a3∧a4=a4∧a5=a5∧True:=⟨rfl,rfl,rfl,rfl,rfl,rfl,trivial⟩
theorem gY {α0:Sort _} {a0:α0} {α1:Sort _} {a1:α1} {α2:Sort _} {a2:α2} {α3:Sort _} {a3:α3} {α4:Sort _} {a4:α4} {α5:Sort _} {a5:α5} {α6:Sort _} {a6:α6}:a0=a0∧a1=a1∧a2=a2∧a3=a3∧a4=a4∧a5=a5∧a6=a6∧True:=⟨rfl,rfl,rfl,rfl,rfl,rfl,rfl,trivial⟩
theorem qi {α0:Sort _} {a0:α0} {α1:Sort _} {a1:α1} {α2:Sort _} {a2:α2} {α3:Sort _} {a3:α3} {α4:Sort _} {a4:α4} {α5:Sort _} {a5:α5} {α6:Sort _} {a6:α6} {α7:Sort _} {a7:α7}:a0=a0∧a1=a1∧a2=a2∧a3=a3∧a4=a4∧a5=a5∧a6=a6∧a7=a7∧True:=⟨rfl,rfl,rfl,rfl,rfl,rfl,rfl,rfl,trivial⟩
theorem ne {α0:Sort _} {a0:α0} {α1:Sort _} {a1:α1} {α2:Sort _} {a2:α2} {α3:Sort _} {a3:α3} {α4:Sort _} {a4:α4} {α5:Sort _} {a5:α5} {α6:Sort _} {a6:α6} {α7:Sort _} {a7:α7} {α8:Sort _} {a8:α8}:a0=a0∧a1=a1∧a2=a2∧a3=a3∧a4=a4∧a5=a5∧a6=a6∧a7=a7∧a8=a8∧True:=⟨rfl,rfl,rfl,rfl,rfl,rfl,rfl,rfl,rfl,trivial⟩
theorem gk {α0:Sort _} {a0:α0} {α1:Sort _} {a1:α1} {α2:Sort _} {a2:α2} {α3:Sort _} {a3:α3} {α4:Sort _} {a4:α4} {α5:Sort _} {a5:α5} {α6:Sort _} {a6:α6} {α7:Sort _} {a7:α7} {α8:Sort _} {a8:α8} {α9:Sort _} {a9:α9} {α10:Sort _} {a10:α10} {α11:Sort _} {a11:α11}:a0=a0∧a1=a1∧a2=a2∧a3=a3∧a4=a4∧a5=a5∧a6=a6∧a7=a7∧a8=a8∧a9=a9∧a10=a10∧a11=a11∧True:=⟨rfl,rfl,rfl,rfl,rfl,rfl,rfl,rfl,rfl,rfl,rfl,rfl,trivial⟩
variable {ops:Array Oper} {K:aK→OL→Prop} {rest:List Oper} {u e:TypeId}
theorem aa {k:IntKind} {a:Int} (hx:aW env x=.int k a) (kk:ao P E ops K rest (bl env d (.int k a)) O):ao P E ops K (Oper.mk (some d) (.move x) ty pos af none::rest) env O:=ao.val (kq hx) kk
theorem ad {a:Bool} (hx:aW env x=.bool a) (kk:ao P E ops K rest (bl env d (.bool a)) O):ao P E ops K (Oper.mk (some d) (.assign x) ty pos af none::rest) env O:=ao.val (CX hx) kk
theorem aj {a:Bool} (hx:aW env x=.bool a) (kk:ao P E ops K rest (bl env d (.bool a)) O):ao P E ops K (Oper.mk (some d) (.move x) ty pos af none::rest) env O:=ao.val (Av hx) kk
theorem ak {b v:Bool} (hc:aW env x=.bool b) (hb:b=true) (hy:aW env y=.bool v) (kk:ao P E ops K rest (bl env d (.bool v)) O):ao P E ops K (Oper.mk (some d) (.pick x y z) ty pos af none::rest) env O:=ao.val (Aw hc hb hy) kk
theorem al {b v:Bool} (hc:aW env x=.bool b) (hb:b=false) (hy:aW env z=.bool v) (kk:ao P E ops K rest (bl env d (.bool v)) O):ao P E ops K (Oper.mk (some d) (.pick x y z) ty pos af none::rest) env O:=ao.val (CG hc hb hy) kk
theorem ap {fs:Array Field} {f:Field} {i sz:Nat} {cs cs':List AV} (ht:P.underlying t=some (.struct fs)) (hf:fs[i]?=some f) (hs:∀w,(sizeOf f.type).run P w=.ok sz w) (hx:aW env x=.pf cs) (hr:cs.drop f.offset=cs') (kk:ao P E ops K rest (bl env d (.pf cs')) O) (hz:sz≠0:=by decide):ao P E ops K (Oper.mk (some d) (.fieldAddr t x i) ty pos af none::rest) env O:=ao.val (f9 ht hf hs hx hr hz) kk
theorem aw {k:IntKind} {a:Int} (hx:aW env x=.int k a) (kk:ao P E ops K rest (bl env d (.int k a)) O):ao P E ops K (Oper.mk (some d) (.assign x) ty pos af none::rest) env O:=ao.val (Fm hx) kk
theorem ac {α:Type} {enc:α→List AV} {xs:List α} {k:Nat} (ht:P.underlying t=some (.slice e)) (hx:aW env x=.fro k (xs.map enc)) (kk:ao P E ops K rest (bl env d (.int .i64 xs.length)) O):ao P E ops K (Oper.mk (some d) (.call { callee:=.builtin .len,args:=#[x],argTypes:=#[t] }) ty pos af none::rest) env O:=ao.val (Gv.lenM ht hx) kk
theorem aB {u:TypeId} {a b:Int} (hx:aW env x=.int .i64 a) (hy:aW env y=.int .i64 b) (kk:ao P E ops K rest (bl env d (.int .i64 (a+b))) O) (hr:nK (a+b):=by unfold nK;omega):ao P E ops K (Oper.mk (some d) (.binOp .add t x y u) ty pos af none::rest) env O:=ao.val (Fo hx hy hr) kk
theorem ab {n:Nat} {cs:List AV} (ha:∀w,(isAgg t).run P w=.ok true w) (hs:∀w,(sizeOf t).run P w=.ok n w) (hx:aW env x=.pf cs) (hn:cs.length=n) (kk:ao P E ops K rest (bl env d (.agg cs)) O):ao P E ops K (Oper.mk (some d) (.load t x) ty pos af none::rest) env O:=ao.val (Gv.loadWF ha hs hx hn) kk
theorem aF {k:IntKind} {a:Int} {cs:List AV} (ha:∀w,(isAgg t).run P w=.ok false w) (hx:aW env x=.pf (.int k a::cs)) (kk:ao P E ops K rest (bl env d (.int k a)) O):ao P E ops K (Oper.mk (some d) (.load t x) ty pos af none::rest) env O:=ao.val (mK ha hx) kk
theorem aq {k:IntKind} {a b:Int} (hx:aW env x=.int k a) (hy:aW env y=.int k b) (kk:ao P E ops K rest (bl env d (.bool (decide (a=b)))) O):ao P E ops K (Oper.mk (some d) (.binOp .eql t x y u) ty pos af none::rest) env O:=ao.val (Gv.eqlI hx hy) kk
theorem aP {k:Nat} {a:List (List AV)} {cs:List AV} (ha:∀w,(isAgg t).run P w=.ok false w) (hx:aW env x=.pf (.fro k a::cs)) (kk:ao P E ops K rest (bl env d (.fro k a)) O):ao P E ops K (Oper.mk (some d) (.load t x) ty pos af none::rest) env O:=ao.val (lx ha hx) kk
theorem ay {k:IntKind} {a b:Int} (hx:aW env x=.int k a) (hy:aW env y=.int k b) (kk:ao P E ops K rest (bl env d (.bool (decide (a<b)))) O):ao P E ops K (Oper.mk (some d) (.binOp .lss t x y u) ty pos af none::rest) env O:=ao.val (Gv.lss hx hy) kk
theorem aX {k:Nat} {a:List (List AV)} (hx:aW env x=.fro k a) (kk:ao P E ops K rest (bl env d (.fro k a)) O):ao P E ops K (Oper.mk (some d) (.move x) ty pos af none::rest) env O:=ao.val (Am hx) kk
theorem aH {b:Bool} (hx:aW env x=.bool b) (kk:ao P E ops K rest (bl env d (.bool (!b))) O):ao P E ops K (Oper.mk (some d) (.unOp .not t x) ty pos af none::rest) env O:=ao.val (Gv.not hx) kk
theorem aG {k:IntKind} {a b:Int} (hx:aW env x=.int k a) (hy:aW env y=.int k b) (kk:ao P E ops K rest (bl env d (.bool (!decide (a=b)))) O):ao P E ops K (Oper.mk (some d) (.binOp .neq t x y u) ty pos af none::rest) env O:=ao.val (Gv.neqI hx hy) kk
end
set_option linter.defProp false
def j4:=@Tryz.underlying23
def j5:=@Tryz.underlying60
def j6:=@Tryz.underlying26
def j7:=@Tryz.underlying58
def j8:=@Tryz.sizeOf26
def j9:=@Tryz.sizeOf3
def ja:=@Tryz.underlying24
def jc:=@Tryz.underlying73
def jd:=@Tryz.underlying69
def je:=@Tryz.sizeOf23
def jf:=@Tryz.isAgg3
def jg:=@Tryz.underlying56
def jh:=@Tryz.isAgg26
def ji:=@Tryz.sizeOf24
def jj:=@Tryz.sizeOf60
def jk:=@Tryz.underlying22
def jl:=@Tryz.underlying53
def jm:=@Tryz.isAgg23
def jn:=@Tryz.sizeOf58
def jo:=@Tryz.underlying54
def jp:=@Tryz.sizeOf73
def jq:=@Tryz.zeroValue26
def jr:=@Tryz.sizeOf56
def js:=@Tryz.isAgg24
def jt:=@Tryz.sizeOf69
def ju:=@Tryz.zeroValue60
def jv:=@Tryz.underlying9
def jw:=@Tryz.sizeOf53
def jx:=@Tryz.underlying45
def jy:=@Tryz.sizeOf9
def jz:=@Tryz.zeroValue73
def Z0:=@Tryz.sizeOf54
def Z1:=@Tryz.isAgg9
def Z2:=@Tryz.sizeOf55
def Z3:=@Tryz.underlying66
def Z4:=@Tryz.type3
def Z5:=@Tryz.underlying97
def Z6:=@Tryz.isAgg55
def Z7:=@Tryz.isAgg60
def Z8:=@Tryz.isAgg53
def Z9:=@Tryz.sizeOf4
def Za:=@Tryz.sizeOf22
def Zb:=@Tryz.underlying213
def Zc:=@Tryz.sizeOf66
def Zd:=@Tryz.sizeOf67
def Ze:=@Tryz.isAgg54
def Zf:=@Tryz.isAgg73
def Zg:=@Tryz.zeroValue69
def Zh:=@Tryz.underlying163
def Zi:=@Tryz.isAgg22
def Zj:=@Tryz.isAgg67
def Zk:=@Tryz.sizeOf97
def Zl:=@Tryz.underlying162
def Zm:=@Tryz.isAgg69
def Zn:=@Tryz.type66
def Zo:=@Tryz.isAgg58
def Zp:=@Tryz.zeroValue3
def Zq:=@Tryz.underlying3
set_option linter.defProp false
def z6:=@ao.guardFd
def z7:=@ao.nil
def z8:=@ao.guardT
def za:=@ao.val
def zb:=@cG.seq
def zc:=@ao.guardUd
def zd:=@Gv.fieldO
def ze:=@ao.callP
def zf:=@cG.skip
def zg:=@cG.ret
def zh:=@cG.block
def zi:=@dh.t1
def zj:=@Gv.load1C
def zk:=@ao.case
def zm:=@ao.storeW
def zn:=@bc.perm
def zo:=@bV.intro
def zp:=@ao.alloc
def zr:=@ao.appendS
def zt:=@cG.condP
def zu:=@cG.cond
def zw:=@Gv.build
def zx:=@bc.ops
def zy:=@cG.exit
def zz:=@bc.wp
def y7:=@cG.loop
def y8:=@ao.buildSliceFF
def y9:=@ao.boxF
def ya:=@cG.regionDraw
def yb:=@ao.storeC
def yc:=@bz.writes
def yd:=@cG.condF
def ye:=@kp.one
def yf:=@kp.done
def yg:=@ao.buildSlice0
def yh:=@oM.perm
def yi:=@cG.condT
def yj:=@br.refl
def yk:=@Gv.idxM
def yl:=@Gv.idxAF
def yn:=@cG.cutS
def yo:=@Gv.loadWF
def yq:=@bc.knowC
def yr:=@Gv.loadWC
def yw:=@Gv.nilCheckO
def yx:=@Gv.move
def yy:=@Gv.gtr
def q1:=@Gv.idxAO
def q2:=@List.getElem?_eq_getElem
def q3:=@List.take_succ_eq_append_getElem
def q4:=@List.append_assoc
def q5:=@Nat.zero_le
def q6:=@List.getElem_mem
def q7:=@List.take_length
def q8:=@List.length_append
def q9:=@List.length_map
def qa:=@List.getElem?_map
def qb:=@List.mem_of_getElem?
def qc:=@List.length_take
def qe:=@decide_eq_true
def qf:=@decide_eq_false
def qg:=@Bool.and_eq_true
def qh:=@decide_eq_true_eq
theorem Z {α:Sort _} {a:α}:a=a:=rfl
end
end Go.Proofs.YtjpnhkmfhlnpcaaGreatDoor
