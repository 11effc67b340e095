/- How many digits numbers of three digits are told to have, whatever the table of powers holds there. Of a table of 20 numbers. -/
import Derived.Test.YtbconpmnckokoaaGreatDoorZo
import Derived.Shelf.Strconv.Itoa1
import Derived.Shelf.Vars
set_option linter.unusedVariables false
set_option linter.unusedSimpArgs false
set_option linter.unusedSectionVars false
namespace Go.Proofs.YtbconpmnckokoaaGreatDoor
section
open Go.Proofs
noncomputable def gt (G:Tr EV) (t:Nat):EV:=(G.get t).getD .u
noncomputable def setO (G:Tr EV) (d:Option Nat) (x:EV):Tr EV:=
 match d with
 |some d=>G.set d (some x)
 |none=>G
abbrev bL:=Nat→List EV→Hp→Nat→Option (EV × Hp × Nat)
def cf (P:Program) (E:World) (call:bL):Prop:=
 ∀f ar H nx x H' nx',call f ar H nx=some (x,H',nx')→∀φ I F w vs,cy I φ H nx F E w→RelVs φ ar vs→Fn P f vs.toArray w (di φ I F E nx nx x H' nx')
noncomputable def xv (T:TT) (call:bL) (g:Nat→EV) (H:Hp) (nx:Nat) (op:Op):Option (EV × Hp × Nat):=
 match op with
 |.call ⟨.value fo,ar,_⟩=>match bN g fo,lX (bN g) ar.toList with
  |some (.fn f a c),some m=>call f (a++m++c) H nx
  |_,_=>none
 |.call ⟨.invoke ro nm,ar,_⟩=>match bN g ro,lX (bN g) ar.toList with
  |some (.ifc t v),some m=>match (T t).bind fun i=>i.ms nm with
   |some f=>call f (v::m) H nx
   |none=>none
  |_,_=>none
 |_=>none
noncomputable def AM (T:TT) (call:bL) (g:Nat→EV) (H:Hp) (k nx:Nat) (op:Op):Option (EV × Hp × Nat):=
 match DQ T g op with
 |some x=>some (x,H,nx)
 |none=>match DW T g H op with
  |some x=>some (x,H,nx)
  |none=>match Dj T g k op with
   |some (x,o)=>some (x,H.set k (some o),nx)
   |none=>match D9 T g H k op with
    |some (x,H')=>some (x,H',nx)
    |none=>xv T call g H nx op
section
variable {P:Program} {φ:bV} {g:Nat→EV} {ρ:bF} {w:World} {T:TT} {I:aJ} {H H':Hp} {k nx nx':Nat} {F:List (Nat × Obj)} {E:World} {call:bL}
theorem di.weak {x:EV} {v:Value} (h:di φ I F E nx nx x H' nx' v w):di φ I F E k nx x H' nx' v w:=
 let ⟨J,ψ,a,b,c,d,e,f⟩:=h;⟨J,ψ,a,b,fun j hj _=>c j hj (Nat.ne_of_lt hj),d,e,f⟩
theorem dz.setO {G:Tr EV} (hg:dz φ (gt G) ρ) {x:EV} {v:Value} (hx:aQ φ x v) (d:Option Nat):dz φ (gt (setO G d x)) (updO ρ d v):=by
 cases d with
 |none=>exact hg
 |some d=>
  intro t
  show aQ φ (((G.set d (some x)).get t).getD .u) (upd ρ d v t)
  rw[Tr.get_set]
  by_cases e:t=d
  ·rw[if_pos e];subst e;rw[ej];exact hx
  ·rw[if_neg e,cN _ _ e];exact hg t
theorem rK (hT:b8 P T) (hC:cf P E call) (hg:dz φ g ρ) (hR:cy I φ H nx F E w) {o:Oper} {x:EV} (h:xv T call g H nx o.op=some (x,H',nx')):dy P o ρ w (di φ I F E k nx x H' nx'):=by
 obtain ⟨dst,op,ty,pos,af,gu⟩:=o
 dsimp only at h
 unfold xv at h
 split at h
 ·rename_i fo ar ts
  split at h
  ·rename_i f a c m hf hm
   obtain ⟨vs,us,he,h1,h2⟩:=aL hg hf
   have hm:=kz hg hm
   have hc:=hC _ _ _ _ _ _ _ h φ I F w _ hR ((h1.append hm).append h2)
   obtain ⟨⟨fn,cd,h3,hb,hn⟩,hcalls⟩:=hc
   unfold dy
   have hrun:(execOp (ev ρ) (Oper.mk dst (.call { callee:=.value fo,args:=ar,argTypes:=ts }) ty pos af gu)).run P w=.ok (.enter f (vs++ar.toList.map (ev ρ)++us).toArray) w:=by
    simp[execOp,resolve,he,Deferred.ofValue,invoke,callFunc,h3,hb,hn]
   rw[hrun]
   exact hcalls.mono fun e w' ⟨v,g1,g2⟩=>⟨v,g1,g2.weak⟩
  ·cases h
 ·rename_i ro nm ar ts
  split at h
  ·rename_i t v m hf hm
   split at h
   ·rename_i f hms
    obtain ⟨i,hi,hms⟩:=Option.bind_eq_some_iff.1 hms
    obtain ⟨u,he,h1⟩:=aL hg hf
    have hm:=kz hg hm
    have hc:=hC _ _ _ _ _ _ _ h φ I F w _ hR (show RelVs φ (v::m) (u::ar.toList.map (ev ρ)) from ⟨_,_,rfl,h1,hm⟩)
    obtain ⟨⟨fn,cd,h3,hb,hn⟩,hcalls⟩:=hc
    have hmt:=(hT t i hi).mt nm f hms
    unfold dy
    have hrun:(execOp (ev ρ) (Oper.mk dst (.call { callee:=.invoke ro nm,args:=ar,argTypes:=ts }) ty pos af gu)).run P w=.ok (.enter f (u::ar.toList.map (ev ρ)).toArray) w:=by
     have e1:(method (P.types.size+Made.depth) t u nm).run P w=.ok (f,u) w:=hmt (P.types.size+99) u w
     have e2:((#[ev ρ ro]++ar.map (ev ρ):Array Value).extract 1 (#[ev ρ ro]++ar.map (ev ρ):Array Value).size)=ar.map (ev ρ):=by
      apply Array.ext'
      simp only[Array.toList_extract,List.extract,Array.toList_append,Array.size_append,List.size_toArray,Array.size_map]
      simp
      exact List.take_of_length_le (by simp)
     have e3:(#[ev ρ ro]++ar.map (ev ρ):Array Value)[0]?=some (.iface t u):=by simp[he,Array.getElem?_append]
     have hpr:(program:Sem Program).run P w=.ok P w:=rfl
     have e4:(invoke (.fn (.method nm) #[]) (#[ev ρ ro]++ar.map (ev ρ))).run P w=.ok (.enter f (u::ar.toList.map (ev ρ)).toArray) w:=by
      unfold invoke
      simp only[e3,e2,callMethod,Sem.run_bind,hpr,Result.andThen_ok,e1,callFunc,h3,hb]
      simp[hn]
     have e5:(resolve (ev ρ) { callee:=.invoke ro nm,args:=ar,argTypes:=ts } ty).run P w=.ok { target:=.fn (.method nm) #[],args:=#[ev ρ ro]++ar.map (ev ρ) } w:=rfl
     show (do let d ←resolve (ev ρ) { callee:=.invoke ro nm,args:=ar,argTypes:=ts } ty;invoke d.target d.args:Sem Next).run P w=_
     rw[Sem.run_bind,e5]
     exact e4
    rw[hrun]
    exact hcalls.mono fun e w' ⟨v,g1,g2⟩=>⟨v,g1,g2.weak⟩
   ·cases h
  ·cases h
 ·cases h
theorem rL (hT:b8 P T) (hC:cf P E call) (hg:dz φ g ρ) (hR:cy I φ H nx F E w) (hk:φ k=none) (hkx:k<nx) {o:Oper} {x:EV} (h:AM T call g H k nx o.op=some (x,H',nx')):dy P o ρ w (di φ I F E k nx x H' nx'):=by
 unfold AM at h
 split at h
 ·rename_i y hy
  cases h
  obtain ⟨v,h1,h2⟩:=xj (P:=P) (w:=w) hT hg hy
  exact dy.val h1 (hR.stay h2)
 ·split at h
  ·rename_i y hy
   cases h
   obtain ⟨v,h1,h2⟩:=xm hT hg hR hy
   exact dy.val h1 (hR.stay h2)
  ·split at h
   ·rename_i y vo hy
    cases h
    obtain ⟨L,hr,hS⟩:=hR.freshN hk
    obtain ⟨v,w',q,A,h1,h2,h3,h4⟩:=xn (P:=P) hT hg hy hk hS
    exact dy.val h1 ⟨I,φ.put k q,.refl _,qf hk q,fun j _ hj=>gP φ q hj,Nat.le_refl _,h2,qe (hr.mono (.refl _) (qf hk q)) h3 h4 (iv hR.top hkx q)⟩
   ·split at h
    ·rename_i y H1 hy
     cases h
     exact xu hT hg hR hk hkx hy
    ·exact rK hT hC hg hR h
end
noncomputable def oP (ops:List Oper) (g:Nat→EV) (o:Oper):Option Bool:=
 match o.guard with
 |none=>some true
 |some (j,b)=>match (ops[j]?).bind (·.dst) with
  |some s=>match g s with
   |.b b'=>some (b' == b)
   |.tu _=>some false
   |_=>none
  |none=>none
noncomputable def oQ (T:TT) (call:bL) (ops:List Oper):List Oper→Tr EV→Hp→Nat→Option (Tr EV × Hp × Nat)
 |[],G,H,nx=>some (G,H,nx)
 |o::rest,G,H,nx=>match oP ops (gt G) o with
  |none=>none
  |some t=>bif t then
    match AM T call (gt G) H nx (nx+1) o.op with
    |some (x,H',nx')=>oQ T call ops rest (setO G o.dst x) H' nx'
    |none=>none
   else oQ T call ops rest (setO G o.dst (.tu [])) H nx
def eM (φ:bV) (I:aJ) (F:List (Nat × Obj)) (E:World) (nx:Nat) (G:Tr EV) (H:Hp) (nx':Nat) (ρ:bF) (w:World):Prop:=
 ∃J ψ,I.le J∧φ.le ψ∧(∀j,j<nx→ψ j=φ j)∧nx≤nx'∧dz ψ (gt G) ρ∧cy J ψ H nx' F E w
section
variable {P:Program} {φ ψ:bV} {g:Nat→EV} {ρ:bF} {w:World} {T:TT} {I J:aJ} {H H':Hp} {k nx nx' n:Nat} {F:List (Nat × Obj)} {E:World} {call:bL} {G G':Tr EV}
theorem eM.up (hI:I.le J) (h:φ.le ψ) (hs:∀j,j<nx→ψ j=φ j) {n1:Nat} (hn:nx≤n1):eM ψ J F E n1 G H nx' ρ w→eM φ I F E nx G H nx' ρ w:=
 fun ⟨K,χ,a,b,c,d,e,f⟩=>⟨K,χ,hI.trans a,h.trans b,fun j hj=>(c j (by omega)).trans (hs j hj),by omega,e,f⟩
theorem rM {ops:List Oper} {o:Oper} {t:Bool} (hg:dz φ g ρ) (h:oP ops g o=some t):bJ ops.toArray o ρ=t:=by
 unfold oP at h
 unfold bJ
 cases hgu:o.guard with
 |none=>rw[hgu] at h;cases h;rfl
 |some jb=>
  obtain ⟨j,b⟩:=jb
  rw[hgu] at h
  simp only[List.getElem?_toArray] at h ⊢
  cases hd:(ops[j]?).bind (fun o:Oper=>o.dst) with
  |none=>rw[hd] at h;cases h
  |some s=>
   rw[hd] at h
   simp only at h ⊢
   have hs:=hg s
   split at h
   ·rename_i b' hb
    cases h
    rw[hb] at hs
    have hs:ρ s=.bool b':=hs
    rw[hs]
   ·rename_i hb
    cases h
    rw[hb] at hs
    obtain ⟨vs,hs,_⟩:=hs
    rw[hs]
   ·cases h
theorem lM (hT:b8 P T) (hC:cf P E call) {ops:List Oper}:∀(rest:List Oper) (G:Tr EV) (H:Hp) (nx:Nat) (G':Tr EV) (H':Hp) (nx':Nat),oQ T call ops rest G H nx=some (G',H',nx') →
  ∀(φ:bV) (I:aJ) (ρ:bF) (w:World),dz φ (gt G) ρ→cy I φ H nx F E w→bx P ops.toArray (eM φ I F E nx G' H' nx') rest ρ w
 |[],G,H,nx,G',H',nx',h,φ,I,ρ,w,hg,hR=>by
  cases h
  exact ⟨I,φ,.refl _,.refl _,fun _ _=>rfl,Nat.le_refl _,hg,hR⟩
 |o::rest,G,H,nx,G',H',nx',h,φ,I,ρ,w,hg,hR=>by
  unfold oQ at h
  split at h
  ·cases h
  ·rename_i t ht
   have hw:=rM hg ht
   unfold bx
   rw[hw]
   cases t with
   |false=>
    simp only[cond_false] at h
    rw[if_neg (by decide)]
    exact lM hT hC rest _ _ _ _ _ _ h φ I _ w (hg.setO (x:=.tu []) (v:=undef) ⟨[],rfl,rfl⟩ o.dst) hR
   |true=>
    simp only[cond_true] at h
    rw[if_pos rfl]
    split at h
    ·rename_i x H1 nx1 hx
     refine (rL hT hC hg (hR.mono (Nat.le_succ nx)) (hR.top nx (Nat.le_refl _)) (Nat.lt_succ_self nx) hx).mono fun v w' ⟨J,ψ,a,b,c,d,e,f⟩=>?_
     have:=lM hT hC rest _ _ _ _ _ _ h ψ J (updO ρ o.dst v) w' ((hg.mono b).setO e o.dst) f
     exact q4 (fun _ _=>eM.up a b (fun j hj=>c j (by omega) (by omega)) (by omega)) _ _ _ this
    ·cases h
end
end
section
open Go.Proofs
def Ea:Operand→Option Nat
 |.tmp t=>some t
 |_=>none
def o0 (l:List Oper) (o:Oper):List Nat:=
 (match o.guard with
  |some (j,_)=>(match (l[j]?).bind (·.dst) with
   |some s=>[s]
   |none=>[])
  |none=>[])++o.op.operands.toList.filterMap Ea
def jU (t:Nat):List Nat→Bool
 |[]=>false
 |x::l=>Nat.beq t x||jU t l
theorem eN {t:Nat}:∀{l:List Nat},jU t l=true↔t∈l
 |[]=>by simp[jU]
 |x::l=>by
  have ih:=@eN t l
  unfold jU
  rw[Bool.or_eq_true,ih,List.mem_cons]
  constructor
  ·rintro (h|h)
   ·exact .inl (Nat.eq_of_beq_eq_true h)
   ·exact .inr h
  ·rintro (h|h)
   ·exact .inl (by rw[h];exact Nat.beq_refl x)
   ·exact .inr h
noncomputable def vN (lk:List Nat) (G:Tr EV):Nat→EV:=fun t=>bif jU t lk then gt G t else .u
inductive Rc where
 |pv (x:EV)
 |lv (x:EV)
 |av (x:EV) (o:VO)
 |cv (x:EV)
def Rc.x:Rc→EV
 |.pv x | .lv x | .av x _ | .cv x=>x
def bB (nx0:Nat) (p:Nat→Bool):List Rc→Nat→List (Nat × VO)
 |[],_=>[]
 |.av _ o::rs,a=>bif p a then (nx0+a,o)::bB nx0 p rs (a+1) else bB nx0 p rs (a+1)
 |_::rs,a=>bB nx0 p rs (a+1)
noncomputable def nF:List (Nat × VO)→Hp→Option Hp
 |[],H=>some H
 |(k,o)::r,H=>match H.get k with
  |none=>nF r (H.set k (some o))
  |some _=>none
def xw (am:List Nat) (o:Oper):Nat:=o.after.toList.foldl (fun m e=>bif Region.binds .any e then m ||| (2 ^ e.on ||| (am[e.on]?).getD 0) else m) 0
def fF:List Oper→List Nat→List Nat
 |[],am=>am
 |o::r,am=>fF r (am++[xw am o])
abbrev pZ:=Hp × Nat × Nat
def qA (fl m:Nat) (a:Nat):Bool:=m.testBit a&&!fl.testBit a
noncomputable def pass (T:TT) (call:bL) (l:List Oper) (am:List Nat) (nx0:Nat):List Oper→Nat→List Rc→Tr EV→List pZ→Hp→Nat→Nat→Option Nat→Option (List Rc × Tr EV × List pZ)
 |[],_,rs,G,S,_,_,_,_=>some (rs,G,S)
 |o::rest,i,rs,G,S,H,nx,fl,last=>
  let g:=vN (o0 l o) G
  match oP l g o with
  |none=>none
  |some t=>bif t then
    match DQ T g o.op with
    |some x=>pass T call l am nx0 rest (i+1) (rs++[.pv x]) (setO G o.dst x) S H nx fl last
    |none=>match Dj T g (nx0+i) o.op with
     |some (x,vo)=>pass T call l am nx0 rest (i+1) (rs++[.av x vo]) (setO G o.dst x) S H nx fl last
     |none=>
      match nF (bB nx0 (qA fl ((am[i]?).getD 0)) rs 0) H with
      |none=>none
      |some H1=>match DW T g H1 o.op with
       |some x=>pass T call l am nx0 rest (i+1) (rs++[.lv x]) (setO G o.dst x) S H nx fl last
       |none=>match (match D9 T g H1 (nx0+i) o.op with
         |some (x,H')=>some (x,H',nx)
         |none=>xv T call g H1 nx o.op) with
        |none=>none
        |some (x,H',nx')=>bif last.elim true (fun c=>((am[i]?).getD 0).testBit c) then
          pass T call l am nx0 rest (i+1) (rs++[.cv x]) (setO G o.dst x) (S++[(H',nx',fl ||| (am[i]?).getD 0)]) H' nx' (fl ||| (am[i]?).getD 0) (some i)
         else none
   else pass T call l am nx0 rest (i+1) (rs++[.pv (.tu [])]) (setO G o.dst (.tu [])) S H nx fl last
def dS:Rc→Bool
 |.cv _=>true
 |_=>false
def dl (R:List Rc) (i:Nat):Nat:=((R.take i).filter dS).length
def p5 (R:List Rc) (am:List Nat) (i j:Nat):Bool:=
 (List.range R.length).all fun c=>match R[c]? with
  |some (.cv _)=>(!((am[i]?).getD 0).testBit c||Nat.blt (dl R c) j)&&(!((am[c]?).getD 0).testBit i||Nat.ble j (dl R c))
  |_=>true
noncomputable def eO (T:TT) (l:List Oper) (am:List Nat) (nx0:Nat) (R:List Rc) (G:Tr EV) (S:List pZ):Bool:=
 (List.range R.length).all fun i=>match R[i]?,l[i]? with
  |some (.lv x),some o=>(List.range S.length).all fun j=>!p5 R am i j||(match S[j]? with
   |some (H,_,fl)=>(match nF (bB nx0 (qA fl ((am[i]?).getD 0)) (R.take i) 0) H with
    |some H1=>(match DW T (vN (o0 l o) G) H1 o.op with
     |some y=>eqE 40 x y
     |none=>false)
    |none=>false)
   |none=>false)
  |_,_=>true
where
 eqE:Nat→EV→EV→Bool
  |0,_,_=>false
  |n+1,x,y=>match x,y with
   |.u,.u=>true
   |.b a,.b c=>a == c
   |.i k a,.i k' c=>decide (k=k')&&decide (a=c)
   |.s a,.s c=>mh a c
   |.np,.np=>true
   |.p a b,.p c d=>Nat.beq a c&&Nat.beq b d
   |.ns,.ns=>true
   |.sl a b c d e,.sl a' b' c' d' e'=>Nat.beq a a'&&Nat.beq b b'&&Nat.beq c c'&&Nat.beq d d'&&(match e,e' with
    |.ex m,.ex m'=>Nat.beq m m'
    |.en,.en=>true
    |.un,.un=>true
    |_,_=>false)
   |.ag l,.ag m=>eqL n l m
   |.tu l,.tu m=>eqL n l m
   |.fn f a c,.fn f' a' c'=>Nat.beq f f'&&eqL n a a'&&eqL n c c'
   |.nf,.nf=>true
   |.ifc t v,.ifc t' v'=>Nat.beq t t'&&eqE n v v'
   |.ni,.ni=>true
   |.m a,.m b=>Nat.beq a b
   |.nm,.nm=>true
   |.vr a,.vr b=>Nat.beq a b
   |.us a b,.us c d=>Nat.beq a c&&Nat.beq b d
   |_,_=>false
 eqL:Nat→List EV→List EV→Bool
  |0,_,_=>false
  |_+1,[],[]=>true
  |n+1,x::l,y::m=>eqE n x y&&eqL n l m
  |_,_,_=>false
def nG (l:List Oper) (am:List Nat):Bool:=
 (List.range l.length).all fun i=>match l[i]? with
  |some o=>o.after.toList.all (fun e=>!Region.binds .any e||Nat.blt e.on i) &&
    (List.range l.length).all fun j=>match (l[j]?).bind (·.dst) with
     |some d=>(!jU d (o0 l o)||((am[i]?).getD 0).testBit j)&&(Nat.beq i j||!(match o.dst with
      |some d'=>Nat.beq d d'
      |none=>false))
     |none=>true
  |none=>true
noncomputable def nH (T:TT) (call:bL) (l:List Oper) (G:Tr EV) (H:Hp) (nx:Nat):Option (Tr EV × Hp × Nat):=
 let am:=fF l []
 bif nG l am then
  match pass T call l am nx l 0 [] G [(H,nx+l.length,0)] H (nx+l.length) 0 none with
  |some (R,GF,S)=>bif eO T l am nx R GF S then
    match S.getLast? with
    |some (Hm,nm,fl)=>match nF (bB nx (fun a=>!fl.testBit a) R 0) Hm with
     |some H'=>some (GF,H',nm)
     |none=>none
    |none=>none
   else none
  |none=>none
 else none
end
section
open Go.Proofs
def iz (l:List Oper) (X:Nat→Bool):Prop:=∀i o,X i=true→l[i]?=some o→∀e∈o.after,Region.binds .any e=true→X e.on=true
def lN (l:List Oper):Prop:=∀i o,l[i]?=some o→∀e∈o.after,Region.binds .any e=true→e.on<i
def xx (l:List Oper) (X:Nat→Bool) (am:List Nat):Prop:=
 ∀(i m:Nat) (o:Oper),am[i]?=some m→l[i]?=some o→(∀j,m.testBit j=true→j<i)∧((∀e∈o.after,Region.binds .any e=true→X e.on=true)→∀j,m.testBit j=true→X j=true)
theorem lO {am:List Nat} {o:Oper} {j:Nat} (h:(xw am o).testBit j=true):∃e∈o.after,Region.binds .any e=true∧(j=e.on∨∃m,am[e.on]?=some m∧m.testBit j=true):=by
 unfold xw at h
 have key:∀(es:List Edge) (m0:Nat),(es.foldl (fun m e=>bif Region.binds .any e then m ||| (2 ^ e.on ||| (am[e.on]?).getD 0) else m) m0).testBit j=true→m0.testBit j=true∨∃e∈es,Region.binds .any e=true∧(j=e.on∨∃m,am[e.on]?=some m∧m.testBit j=true):=by
  intro es
  induction es with
  |nil=>intro m0 h;exact .inl h
  |cons e es ih=>
   intro m0 h
   rw[List.foldl_cons] at h
   rcases ih _ h with h1|⟨e',h1,h2⟩
   ·cases hb:Region.binds .any e with
    |false=>rw[hb] at h1;exact .inl h1
    |true=>
     rw[hb] at h1
     simp only[cond_true,Nat.testBit_or,Bool.or_eq_true] at h1
     rcases h1 with h1|h1|h1
     ·exact .inl h1
     ·refine .inr ⟨e,.head _,hb,.inl ?_⟩
      rw[Nat.testBit_two_pow] at h1
      exact (of_decide_eq_true h1).symm
     ·refine .inr ⟨e,.head _,hb,.inr ?_⟩
      cases hm:am[e.on]? with
      |none=>rw[hm] at h1;simp at h1
      |some m=>rw[hm] at h1;exact ⟨m,rfl,h1⟩
   ·exact .inr ⟨e',.tail _ h1,h2⟩
 rcases key o.after.toList 0 h with h1|⟨e,h1,h2⟩
 ·simp at h1
 ·exact ⟨e,by simpa using h1,h2⟩
theorem rN {l:List Oper} {X:Nat→Bool} (hX:iz l X) (hE:lN l):∀(r:List Oper) (am:List Nat),l.drop am.length=r→xx l X am→xx l X (fF r am)
 |[],am,_,h=>h
 |o::r,am,hd,h=>by
  unfold fF
  have ho:l[am.length]?=some o:=by
   have:=congrArg (·[0]?) hd
   simpa using this
  refine rN hX hE r _ (by rw[qu,List.length_singleton];have:=congrArg (List.drop 1) hd;simpa [List.drop_drop] using this) fun i m o' hm ho'=>?_
  by_cases hi:i<am.length
  ·rw[List.getElem?_append_left hi] at hm
   exact h i m o' hm ho'
  ·have hlt:=(List.getElem?_eq_some_iff.1 hm).1
   rw[qu,List.length_singleton] at hlt
   have hie:i=am.length:=by omega
   subst hie
   rw[ho] at ho';cases ho'
   rw[List.getElem?_append_right (Nat.le_refl _),Nat.sub_self] at hm
   simp only[List.getElem?_cons_zero,Option.some.injEq] at hm
   subst hm
   constructor
   ·intro j hj
    obtain ⟨e,h1,h2,h3⟩:=lO hj
    have hlt:=hE _ o ho e h1 h2
    rcases h3 with rfl|⟨m,hm,hmj⟩
    ·exact hlt
    ·have hle:e.on<l.length:=Nat.lt_trans hlt (List.getElem?_eq_some_iff.1 ho).1
     have:=(h e.on m _ hm (qo hle)).1 j hmj
     omega
   ·intro hall j hj
    obtain ⟨e,h1,h2,h3⟩:=lO hj
    have hlt:=hE _ o ho e h1 h2
    have hXe:=hall e h1 h2
    rcases h3 with rfl|⟨m,hm,hmj⟩
    ·exact hXe
    ·have hle:e.on<l.length:=Nat.lt_trans hlt (List.getElem?_eq_some_iff.1 ho).1
     exact (h e.on m _ hm (qo hle)).2 (fun e' h1' h2'=>hX e.on _ hXe (qo hle) e' h1' h2') j hmj
theorem xy {l:List Oper} {X:Nat→Bool} (hX:iz l X) (hE:lN l):xx l X (fF l []):=rN hX hE l [] rfl fun i m o h=>by simp at h
section
variable {nx0:Nat}
theorem dw {p q:Nat→Bool}:∀(R:List Rc) (a:Nat),(∀j,q j=true→p j=true)→(bB nx0 p R a).Perm (bB nx0 q R a++bB nx0 (fun j=>p j&&!q j) R a)
 |[],_,_=>.refl _
 |.av x o::R,a,h=>by
  have ih:=dw R (a+1) h
  unfold bB
  cases hp:p a with
  |false=>
   have hq:q a=false:=by cases hq:q a with
    |false=>rfl
    |true=>rw[h a hq] at hp;cases hp
   simp only[hq,cond_false,Bool.false_and];exact ih
  |true=>
   cases hq:q a with
   |true=>simp only[cond_true,Bool.not_true,Bool.and_false,cond_false,List.cons_append];exact ih.cons _
   |false=>simp only[cond_true,cond_false,Bool.not_false,Bool.and_true];exact (ih.cons _).trans List.perm_middle.symm
 |.pv _::R,a,h=>dw R (a+1) h
 |.lv _::R,a,h=>dw R (a+1) h
 |.cv _::R,a,h=>dw R (a+1) h
theorem dx {p q:Nat→Bool}:∀(R:List Rc) (a:Nat),(∀j x o,R[j]?=some (.av x o)→p (a+j)=q (a+j))→bB nx0 p R a=bB nx0 q R a
 |[],_,_=>rfl
 |r::R,a,h=>by
  have ih:=dx R (a+1) fun j x o hj=>(by omega:a+(j+1)=a+1+j)▸h (j+1) x o (by simpa using hj)
  cases r with
  |av x o=>
   unfold bB
   have:=h 0 x o rfl
   rw[Nat.add_zero] at this
   rw[this,ih]
  |pv x=>exact ih
  |lv x=>exact ih
  |cv x=>exact ih
theorem iP (p:Nat→Bool):∀(R S:List Rc) (a:Nat),bB nx0 p (R++S) a=bB nx0 p R a++bB nx0 p S (a+R.length)
 |[],S,a=>rfl
 |r::R,S,a=>by
  have ih:=iP p R S (a+1)
  rw[show a+1+R.length=a+(r::R).length by rw[List.length_cons];omega] at ih
  rw[List.cons_append]
  cases r with
  |av x o=>
   show (bif p a then (nx0+a,o)::bB nx0 p (R++S) (a+1) else bB nx0 p (R++S) (a+1))=(bif p a then (nx0+a,o)::bB nx0 p R (a+1) else bB nx0 p R (a+1))++bB nx0 p S (a+(Rc.av x o::R).length)
   rw[ih]
   cases p a<;>rfl
  |pv x=>exact ih
  |lv x=>exact ih
  |cv x=>exact ih
theorem eP {p:Nat→Bool}:∀(R:List Rc) (a:Nat),(∀j,a≤j→p j=false)→bB nx0 p R a=[]
 |[],_,_=>rfl
 |r::R,a,h=>by
  have ih:=eP R (a+1) fun j hj=>h j (by omega)
  cases r with
  |av x o=>unfold bB;rw[h a (Nat.le_refl _)];exact ih
  |pv x=>exact ih
  |lv x=>exact ih
  |cv x=>exact ih
end
section
variable {φ:bV} {I:aJ} {H H':Hp} {nx k:Nat} {F A:List (Nat × Obj)} {E w:World} {o:VO}
theorem cy.take (h:cy I φ H nx (A++F) E w) (hb:eG I φ k o A) (hk:H.get k=none):cy I φ (H.set k (some o)) nx F E w:=by
 obtain ⟨M,L,hn,hm,hr,hS⟩:=h.ex
 refine qe (A:=A) (L:=L) ⟨M,hn,fun j o'=>?_,hr⟩ hb (hS.perm ?_) h.top
 ·rw[hm j o']
  exact ⟨fun hj=>⟨fun e=>(by subst e;rw[hk] at hj;cases hj),hj⟩,fun hj=>hj.2⟩
 ·rw[←qq,←qq]
  exact List.perm_append_comm.append_right F
theorem cy.takeAll:∀{M:List (Nat × VO)} {L:List (Nat × Obj)} {H H':Hp},eH I φ M L→nF M H=some H'→cy I φ H nx (L++F) E w→cy I φ H' nx F E w
 |[],L,H,H',h1,h2,h3=>by
  have h1:L=[]:=h1
  subst h1;cases h2;exact h3
 |(k,o)::M,L,H,H',⟨A,B,e,h1,h1'⟩,h2,h3=>by
  subst e
  unfold nF at h2
  split at h2
  ·rename_i hk
   rw[qq] at h3
   exact cy.takeAll h1' h2 (h3.take h1 hk)
  ·cases h2
theorem eH.app:∀{M N:List (Nat × VO)} {L:List (Nat × Obj)},eH I φ (M++N) L→∃A B,L=A++B∧eH I φ M A∧eH I φ N B
 |[],N,L,h=>⟨[],L,rfl,rfl,h⟩
 |x::M,N,L,⟨A,B,e,h1,h2⟩=>by
  obtain ⟨C,D,e2,h3,h4⟩:=eH.app h2
  exact ⟨A++C,D,by rw[e,e2,qq],⟨A,C,rfl,h1,h3⟩,h4⟩
theorem cy.permF {F':List (Nat × Obj)} (h:cy I φ H nx F E w) (hp:F'.Perm F):cy I φ H nx F' E w:=by
 obtain ⟨M,L,hn,hm,hr,hS⟩:=h.ex
 exact ⟨h.top,M,L,hn,hm,hr,hS.perm (hp.append_left L)⟩
end
theorem vO {lk:List Nat} {G G':Tr EV} (h:∀t∈lk,gt G t=gt G' t):vN lk G=vN lk G':=by
 funext t
 unfold vN
 cases hm:jU t lk with
 |false=>rfl
 |true=>exact h t (eN.1 hm)
noncomputable def xz (T:TT) (call:bL) (g:Nat→EV) (H:Hp) (k nx:Nat) (op:Op):Option (EV × Hp × Nat):=
 match D9 T g H k op with
 |some (x,H')=>some (x,H',nx)
 |none=>xv T call g H nx op
def B5 (T:TT) (call:bL) (l:List Oper) (am:List Nat) (nx0:Nat) (R:List Rc) (GF:Tr EV) (S:List pZ) (i:Nat) (o:Oper) (r:Rc):Prop:=
 ∃t,oP l (vN (o0 l o) GF) o=some t∧(t=false→r=.pv (.tu []))∧(t=true→match r with
  |.pv x=>DQ T (vN (o0 l o) GF) o.op=some x
  |.av x vo=>Dj T (vN (o0 l o) GF) (nx0+i) o.op=some (x,vo)
  |.lv _=>True
  |.cv x=>∃H nx fl H1 H' nx',S[dl R i]?=some (H,nx,fl)∧S[dl R i+1]?=some (H',nx',fl ||| (am[i]?).getD 0)∧nF (bB nx0 (qA fl ((am[i]?).getD 0)) (R.take i) 0) H=some H1 ∧
    xz T call (vN (o0 l o) GF) H1 (nx0+i) nx o.op=some (x,H',nx')∧(dl R i=0∨∃c y,R[c]?=some (.cv y)∧dl R c+1=dl R i∧((am[i]?).getD 0).testBit c=true))
def lP (T:TT) (call:bL) (l:List Oper) (am:List Nat) (nx0:Nat) (i:Nat) (rs:List Rc) (G:Tr EV) (S:List pZ) (R:List Rc) (GF:Tr EV) (SF:List pZ):Prop:=
 (∃rr,R=rs++rr∧rr.length+i=l.length)∧(∃ss,SF=S++ss)∧SF.length=(R.filter dS).length+1∧(∀t,(∀j o,i≤j→l[j]?=some o→o.dst≠some t)→gt GF t=gt G t) ∧
  ∀j o,i≤j→l[j]?=some o→∃r,R[j]?=some r∧B5 T call l am nx0 R GF SF j o r∧∀d,o.dst=some d→gt GF d=r.x
theorem nI (G:Tr EV) (d:Option Nat) (x:EV) (t:Nat):gt (setO G d x) t=if d=some t then x else gt G t:=by
 cases d with
 |none=>rw[if_neg (by simp)];rfl
 |some d=>
  unfold gt setO
  rw[Tr.get_set]
  by_cases e:t=d
  ·rw[if_pos e,if_pos (by rw[e])];rfl
  ·rw[if_neg e,if_neg (fun h=>e (Option.some.inj h).symm)]
theorem fq {T:TT} {call:bL} {l:List Oper} {am:List Nat} {nx0:Nat} (hD:∀(i j:Nat) (o o':Oper) d,l[i]?=some o→l[j]?=some o'→o.dst=some d→o'.dst=some d→i=j) (hW:∀(i:Nat) (o:Oper) t,l[i]?=some o→t∈o0 l o→∀(j:Nat) (o':Oper),l[j]?=some o'→o'.dst=some t→j<i)
  {i:Nat} {o:Oper} {rs:List Rc} {G:Tr EV} {S S':List pZ} {R:List Rc} {GF:Tr EV} {SF:List pZ} {r:Rc} (ho:l[i]?=some o) (hrs:rs.length=i) (hS:∃ss,S'=S++ss) (h:lP T call l am nx0 (i+1) (rs++[r]) (setO G o.dst r.x) S' R GF SF)
  (hf:(∃rr,R=rs++(r::rr))→(∃ss,SF=S'++ss)→vN (o0 l o) GF=vN (o0 l o) G→B5 T call l am nx0 R GF SF i o r):lP T call l am nx0 i rs G S R GF SF:=by
 obtain ⟨⟨rr,h1,h1'⟩,⟨ss,h2⟩,h3,h4,h5⟩:=h
 obtain ⟨s0,hs0⟩:=hS
 have hR:R=rs++(r::rr):=by rw[h1];simp
 have hget:R[i]?=some r:=by rw[hR,List.getElem?_append_right (by omega),hrs,Nat.sub_self];rfl
 refine ⟨⟨r::rr,hR,by rw[List.length_cons];omega⟩,⟨s0++ss,by rw[h2,hs0,qq]⟩,h3,fun t ht=>?_,fun j o' hj ho'=>?_⟩
 ·rw[h4 t fun j o' hj ho'=>ht j o' (by omega) ho',nI,if_neg (ht i o (Nat.le_refl _) ho)]
 ·by_cases e:j=i
  ·subst e
   rw[ho] at ho';cases ho'
   refine ⟨r,hget,hf ⟨rr,hR⟩ ⟨ss,h2⟩ (vO fun t ht=>?_),fun d hd=>?_⟩
   ·rw[h4 t fun j' o' hj' ho2 e2=>by have:=hW j o t ho ht j' o' ho2 e2;omega,nI,if_neg fun e2=>by have:=hW j o t ho ht j o ho e2;omega]
   ·rw[h4 d fun j' o' hj' ho2 e2=>by have:=hD j j' o o' d ho ho2 hd e2;omega,nI,if_pos hd]
  ·exact h5 j o' (by omega) ho'
theorem oR {rs rr:List Rc} {c:Nat} (h:c≤rs.length):dl (rs++rr) c=dl rs c:=by
 unfold dl;rw[List.take_append_of_le_length h]
theorem oS (rs rr:List Rc):dl (rs++rr) rs.length=(rs.filter dS).length:=by
 unfold dl;rw[List.take_left]
theorem lQ {T:TT} {call:bL} {l:List Oper} {am:List Nat} {nx0:Nat} (hD:∀(i j:Nat) (o o':Oper) d,l[i]?=some o→l[j]?=some o'→o.dst=some d→o'.dst=some d→i=j) (hW:∀(i:Nat) (o:Oper) t,l[i]?=some o→t∈o0 l o→∀(j:Nat) (o':Oper),l[j]?=some o'→o'.dst=some t→j<i) :
  ∀(rest:List Oper) (i:Nat) (rs:List Rc) (G:Tr EV) (S:List pZ) (H:Hp) (nx fl:Nat) (last:Option Nat) (R:List Rc) (GF:Tr EV) (SF:List pZ),l.drop i=rest→i≤l.length→rs.length=i→S.length=(rs.filter dS).length+1→S[(rs.filter dS).length]?=some (H,nx,fl) →
   (∀c,last=some c→(∃y,rs[c]?=some (.cv y))∧dl rs c+1=(rs.filter dS).length)→(last=none→(rs.filter dS).length=0)→pass T call l am nx0 rest i rs G S H nx fl last=some (R,GF,SF)→lP T call l am nx0 i rs G S R GF SF
 |[],i,rs,G,S,H,nx,fl,last,R,GF,SF,hd,hi,hrs,hS,hSl,hl1,hl2,h=>by
  cases h
  have:i=l.length:=by
   have:=congrArg List.length hd
   simp at this;omega
  refine ⟨⟨[],by simp,by simpa using this⟩,⟨[],by simp⟩,hS,fun _ _=>Z,fun j o hj ho=>?_⟩
  have:=(List.getElem?_eq_some_iff.1 ho).1
  omega
 |o::rest,i,rs,G,S,H,nx,fl,last,R,GF,SF,hd,hi,hrs,hS,hSl,hl1,hl2,h=>by
  have ho:l[i]?=some o:=by
   have:=congrArg (·[0]?) hd
   simpa using this
  have hlt:i<l.length:=(List.getElem?_eq_some_iff.1 ho).1
  have hd2:l.drop (i+1)=rest:=by have:=congrArg (List.drop 1) hd;simpa [List.drop_drop] using this
  have hcv:∀r:Rc,dS r=false→((rs++[r]).filter dS).length=(rs.filter dS).length:=fun r hr=>by
   rw[List.filter_append];simp[hr]
  have hlast:∀r:Rc,dS r=false→∀c,last=some c→(∃y,(rs++[r])[c]?=some (.cv y))∧dl (rs++[r]) c+1=((rs++[r]).filter dS).length:=fun r hr c hc=>by
   obtain ⟨⟨y,hy⟩,h2⟩:=hl1 c hc
   have hcl:=(List.getElem?_eq_some_iff.1 hy).1
   exact ⟨⟨y,by rw[List.getElem?_append_left hcl];exact hy⟩,by rw[oR (Nat.le_of_lt hcl),hcv r hr];exact h2⟩
  have go:∀(r:Rc),dS r=false→pass T call l am nx0 rest (i+1) (rs++[r]) (setO G o.dst r.x) S H nx fl last=some (R,GF,SF)→lP T call l am nx0 (i+1) (rs++[r]) (setO G o.dst r.x) S R GF SF:=fun r hr hp=>
   lQ hD hW rest (i+1) (rs++[r]) _ S H nx fl last R GF SF hd2 hlt (by simp[hrs]) (by rw[hcv r hr];exact hS) (by rw[hcv r hr];exact hSl) (hlast r hr) (fun e=>by rw[hcv r hr];exact hl2 e) hp
  unfold pass at h
  dsimp only at h
  split at h
  ·cases h
  ·rename_i t ht
   cases t with
   |false=>
    simp only[cond_false] at h
    exact fq hD hW ho hrs ⟨[],by simp⟩ (go (.pv (.tu [])) rfl h) fun _ _ hg=>⟨false,by rw[hg];exact ht,fun _=>rfl,fun e=>by cases e⟩
   |true=>
    simp only[cond_true] at h
    split at h
    ·rename_i x hx
     exact fq hD hW ho hrs ⟨[],by simp⟩ (go (.pv x) rfl h) fun _ _ hg=>⟨true,by rw[hg];exact ht,fun e=>(by cases e),fun _=>by rw[hg];exact hx⟩
    ·split at h
     ·rename_i x vo hx
      exact fq hD hW ho hrs ⟨[],by simp⟩ (go (.av x vo) rfl h) fun _ _ hg=>⟨true,by rw[hg];exact ht,fun e=>(by cases e),fun _=>by rw[hg];exact hx⟩
     ·split at h
      ·cases h
      ·rename_i H1 hH1
       split at h
       ·rename_i x hx
        exact fq hD hW ho hrs ⟨[],by simp⟩ (go (.lv x) rfl h) fun _ _ hg=>⟨true,by rw[hg];exact ht,fun e=>(by cases e),fun _=>trivial⟩
       ·split at h
        ·cases h
        ·rename_i x H' nx' hx
         cases hb:last.elim true (fun c=>((am[i]?).getD 0).testBit c) with
         |false=>rw[hb] at h;cases h
         |true=>
          rw[hb] at h
          simp only[cond_true] at h
          have hcv1:((rs++[Rc.cv x]).filter dS).length=(rs.filter dS).length+1:=by rw[List.filter_append,qu];rfl
          have hrec:=lQ hD hW rest (i+1) (rs++[.cv x]) (setO G o.dst x) (S++[(H',nx',fl ||| (am[i]?).getD 0)]) H' nx' (fl ||| (am[i]?).getD 0) (some i) R GF SF hd2 hlt (by simp[hrs]) (by rw[hcv1,qu,hS];rfl) (by rw[hcv1,List.getElem?_append_right (by omega),hS,Nat.sub_self];rfl)
           (fun c hc=>by
            cases hc
            exact ⟨⟨x,by rw[List.getElem?_append_right (by omega),hrs,Nat.sub_self];rfl⟩,by rw[hcv1,←hrs,oS]⟩) (fun e=>by cases e) h
          refine fq hD hW ho hrs ⟨_,rfl⟩ hrec fun ⟨rr,hR⟩ ⟨ss,hSF⟩ hg=>⟨true,by rw[hg];exact ht,fun e=>(by cases e),fun _=>?_⟩
          have hcp:dl R i=(rs.filter dS).length:=by rw[hR,←hrs,oS]
          refine ⟨H,nx,fl,H1,H',nx',?_,?_,?_,by rw[hg];exact hx,?_⟩
          ·rw[hcp,hSF,qq,List.getElem?_append_left (by omega)];exact hSl
          ·rw[hcp,hSF,List.getElem?_append_left (by rw[qu,hS];simp),List.getElem?_append_right (by omega),hS,Nat.sub_self];rfl
          ·rw[hR,←hrs,List.take_left,hrs];exact hH1
          ·cases last with
           |none=>left;rw[hcp];exact hl2 rfl
           |some c=>
            right
            obtain ⟨⟨y,hy⟩,h2⟩:=hl1 c rfl
            have hcl:=(List.getElem?_eq_some_iff.1 hy).1
            exact ⟨c,y,by rw[hR,List.getElem?_append_left hcl];exact hy,by rw[hcp,hR,oR (Nat.le_of_lt hcl)];exact h2,hb⟩
def eg (listed:Array Bool) (i:Nat):Bool:=listed.getD i false
theorem kD {listed:Array Bool} {i j:Nat} (h:i<listed.size):eg (listed.setIfInBounds i true) j=(eg listed j||Nat.beq j i):=by
 unfold eg
 by_cases e:i=j
 ·subst e
  rw[show Nat.beq i i=true from Nat.beq_refl i,Bool.or_true]
  simp[h]
 ·rw[getD_set_ne false e]
  have:Nat.beq j i=false:=by cases hb:Nat.beq j i with
   |false=>rfl
   |true=>exact absurd (Nat.eq_of_beq_eq_true hb).symm e
  rw[this,Bool.or_false]
theorem iQ {l:List Oper} {am:List Nat} (h:nG l am=true):lN l∧(∀(i:Nat) (o:Oper) t,l[i]?=some o→t∈o0 l o→∀(j:Nat) (o':Oper),l[j]?=some o'→o'.dst=some t→((am[i]?).getD 0).testBit j=true) ∧
  ∀(i j:Nat) (o o':Oper) d,l[i]?=some o→l[j]?=some o'→o.dst=some d→o'.dst=some d→i=j:=by
 have key:∀i o,l[i]?=some o→(o.after.toList.all (fun e=>!Region.binds .any e||Nat.blt e.on i) &&
    (List.range l.length).all fun j=>match (l[j]?).bind (·.dst) with
     |some d=>(!jU d (o0 l o)||((am[i]?).getD 0).testBit j)&&(Nat.beq i j||!(match o.dst with
      |some d'=>Nat.beq d d'
      |none=>false))
     |none=>true)=true:=fun i o ho=>by
  unfold nG at h
  have:=List.all_eq_true.1 h i (List.mem_range.2 (List.getElem?_eq_some_iff.1 ho).1)
  rw[ho] at this
  exact this
 have key2:∀(i j:Nat) (o o':Oper) d,l[i]?=some o→l[j]?=some o'→o'.dst=some d→(jU d (o0 l o)=true→((am[i]?).getD 0).testBit j=true)∧(o.dst=some d→i=j):=fun i j o o' d ho ho' hd=>by
  have h1:=key i o ho
  simp only[qz] at h1
  have h2:=List.all_eq_true.1 h1.2 j (List.mem_range.2 (List.getElem?_eq_some_iff.1 ho').1)
  rw[ho'] at h2
  simp only[Option.bind_some,hd,qz,Bool.or_eq_true,Bool.not_eq_true'] at h2
  refine ⟨fun hm=>h2.1.resolve_left (by rw[hm];decide),fun hod=>?_⟩
  rcases h2.2 with h3|h3
  ·exact Nat.eq_of_beq_eq_true h3
  ·rw[hod] at h3
   simp only at h3
   rw[show Nat.beq d d=true from Nat.beq_refl d] at h3;cases h3
 refine ⟨fun i o ho e he hb=>?_,fun i o t ho ht j o' ho' hd=>(key2 i j o o' t ho ho' hd).1 (eN.2 ht),fun i j o o' d ho ho' hd hd'=>(key2 i j o o' d ho ho' hd').2 hd⟩
 have h1:=key i o ho
 simp only[qz] at h1
 have h2:=List.all_eq_true.1 h1.1 e (by simpa using he)
 rw[hb] at h2
 have h2:Nat.blt e.on i=true:=by simpa using h2
 exact Nat.le_of_ble_eq_true h2
structure cF (φ0:bV) (I0:aJ) (F:List (Nat × Obj)) (E:World) (nx0:Nat) (l:List Oper) (R:List Rc) (GF:Tr EV) (S:List pZ) (X:Nat→Bool) (j:Nat) (φ:bV) (I:aJ) (H:Hp) (nx fl:Nat) (ρ:bF) (w:World):Prop where
 closed:iz l X
 stage:S[j]?=some (H,nx,fl)
 chain:∀i y,R[i]?=some (.cv y)→(X i=true↔dl R i<j)
 flX:∀a,fl.testBit a=true→X a=true
 slots:∀t,(∀(i:Nat) (o:Oper),l[i]?=some o→o.dst=some t→X i=true)→aQ φ (gt GF t) (ρ t)
 free:∀i,i<l.length→X i=false→φ (nx0+i)=none
 le:φ0.le φ
 leI:I0.le I
 keep:∀t,t<nx0→φ t=φ0 t
 top:nx0+l.length≤nx
 mem:∃Lx,eH I φ (bB nx0 (fun a=>X a&&!fl.testBit a) R 0) Lx∧cy I φ H nx (Lx++F) E w
section
variable {φ0 φ:bV} {I0 I:aJ} {F:List (Nat × Obj)} {E w:World} {nx0:Nat} {l:List Oper} {R:List Rc} {GF:Tr EV} {S:List pZ} {X:Nat→Bool} {j:Nat} {H:Hp} {nx fl:Nat} {ρ:bF}
theorem cF.closed' (h:cF φ0 I0 F E nx0 l R GF S X j φ I H nx fl ρ w) {i:Nat} {o:Oper} (ho:l[i]?=some o) (hr:∀e∈o.after,Region.binds .any e=true→X e.on=true):iz l (fun a=>X a||Nat.beq a i):=fun a o' ha ho' e he hb=>by
 simp only[Bool.or_eq_true] at ha ⊢
 rcases ha with ha|ha
 ·exact .inl (h.closed a o' ha ho' e he hb)
 ·have:=Nat.eq_of_beq_eq_true ha
  subst this
  rw[ho] at ho';cases ho'
  exact .inl (hr e he hb)
theorem cF.slots' (h:cF φ0 I0 F E nx0 l R GF S X j φ I H nx fl ρ w) {i:Nat} {o:Oper} (ho:l[i]?=some o) {x:EV} {v:Value} {ψ:bV} (hle:φ.le ψ) (hx:aQ ψ x v) (hd:∀d,o.dst=some d→gt GF d=x) :
  ∀t,(∀(i':Nat) (o':Oper),l[i']?=some o'→o'.dst=some t→(X i'||Nat.beq i' i)=true)→aQ ψ (gt GF t) (updO ρ o.dst v t):=fun t ht=>by
 by_cases e:o.dst=some t
 ·rw[hd t e,e]
  show aQ ψ x (upd ρ t v t)
  rw[ej];exact hx
 ·have:updO ρ o.dst v t=ρ t:=by
   cases hdd:o.dst with
   |none=>rfl
   |some d=>exact cN _ _ fun e2=>e (by rw[hdd,e2])
  rw[this]
  refine (h.slots t fun i' o' ho' hd'=>?_).mono hle
  have:=ht i' o' ho' hd'
  simp only[Bool.or_eq_true] at this
  rcases this with h1|h1
  ·exact h1
  ·have:=Nat.eq_of_beq_eq_true h1
   subst this
   rw[ho] at ho';cases ho'
   exact absurd hd' e
theorem cF.quiet (h:cF φ0 I0 F E nx0 l R GF S X j φ I H nx fl ρ w) {i:Nat} {o:Oper} (ho:l[i]?=some o) (hr:∀e∈o.after,Region.binds .any e=true→X e.on=true) {r:Rc} (hR:R[i]?=some r) (hcv:dS r=false) (hav:∀x vo,r≠.av x vo) {v:Value} (hx:aQ φ r.x v) (hd:∀d,o.dst=some d→gt GF d=r.x) :
  cF φ0 I0 F E nx0 l R GF S (fun a=>X a||Nat.beq a i) j φ I H nx fl (updO ρ o.dst v) w:=by
 refine ⟨h.closed' ho hr,h.stage,fun i' y hy=>?_,fun a ha=>by rw[h.flX a ha];rfl,h.slots' ho (.refl _) hx hd,fun i' hi' hx'=>h.free i' hi' ?_,h.le,h.leI,h.keep,h.top,?_⟩
 ·rw[←h.chain i' y hy]
  have:Nat.beq i' i=false:=by cases hb:Nat.beq i' i with
   |false=>rfl
   |true=>
    have:=Nat.eq_of_beq_eq_true hb
    subst this
    rw[hR] at hy;cases hy;cases hcv
  rw[this,Bool.or_false]
 ·cases hX:X i' with
  |false=>rfl
  |true=>rw[hX] at hx';cases hx'
 ·obtain ⟨Lx,h1,h2⟩:=h.mem
  refine ⟨Lx,?_,h2⟩
  rw[dx (q:=fun a=>X a&&!fl.testBit a) R 0 fun a x vo ha=>?_]
  ·exact h1
  ·rw[Nat.zero_add]
   have:Nat.beq a i=false:=by cases hb:Nat.beq a i with
    |false=>rfl
    |true=>
     have:=Nat.eq_of_beq_eq_true hb
     subst this
     rw[hR] at ha;cases ha;exact absurd rfl (hav x vo)
   simp only[this,Bool.or_false]
end
theorem vP {nx0 i:Nat} {R:List Rc} {x:EV} {vo:VO} (h:R[i]?=some (.av x vo)):bB nx0 (fun a=>Nat.beq a i) R 0=[(nx0+i,vo)]:=by
 obtain ⟨hlt,he⟩:=List.getElem?_eq_some_iff.1 h
 have hR:R=R.take i++(.av x vo::R.drop (i+1)):=by
  rw[←he,←List.drop_eq_getElem_cons hlt,List.take_append_drop]
 have hb:∀a,a≠i→Nat.beq a i=false:=fun a ha=>by
  cases hb:Nat.beq a i with
  |false=>rfl
  |true=>exact absurd (Nat.eq_of_beq_eq_true hb) ha
 have hl:(R.take i).length=i:=by rw[qw];omega
 rw[hR,iP,hl,Nat.zero_add]
 have h1:bB nx0 (fun a=>Nat.beq a i) (R.take i) 0=[]:=by
  rw[dx (q:=fun _=>false) (R.take i) 0 fun j y o hj=>?_]
  ·exact eP _ _ fun _ _=>rfl
  ·have:=(List.getElem?_eq_some_iff.1 hj).1
   rw[hl] at this
   exact hb _ (by omega)
 have h2:bB nx0 (fun a=>Nat.beq a i) (R.drop (i+1)) (i+1)=[]:=eP _ _ fun a ha=>hb a (by omega)
 rw[h1,List.nil_append]
 show (bif Nat.beq i i then (nx0+i,vo)::bB nx0 (fun a=>Nat.beq a i) (R.drop (i+1)) (i+1) else bB nx0 (fun a=>Nat.beq a i) (R.drop (i+1)) (i+1))=_
 rw[show Nat.beq i i=true from Nat.beq_refl i,h2];rfl
section
variable {P:Program} {T:TT} {φ0 φ:bV} {I0 I:aJ} {F:List (Nat × Obj)} {E w:World} {nx0:Nat} {l:List Oper} {R:List Rc} {GF:Tr EV} {S:List pZ} {X:Nat→Bool} {j:Nat} {H:Hp} {nx fl:Nat} {ρ:bF}
theorem cF.make (hT:b8 P T) (h:cF φ0 I0 F E nx0 l R GF S X j φ I H nx fl ρ w) {i:Nat} {o:Oper} (ho:l[i]?=some o) (hXi:X i=false) (hr:∀e∈o.after,Region.binds .any e=true→X e.on=true) {x:EV} {vo:VO} (hR:R[i]?=some (.av x vo)) {g:Nat→EV} (hg:dz φ g ρ) (hx:Dj T g (nx0+i) o.op=some (x,vo)) (hd:∀d,o.dst=some d→gt GF d=x) :
  dy P o ρ w fun v w'=>∃φ',cF φ0 I0 F E nx0 l R GF S (fun a=>X a||Nat.beq a i) j φ' I H nx fl (updO ρ o.dst v) w':=by
 have hil:i<l.length:=(List.getElem?_eq_some_iff.1 ho).1
 have hk:=h.free i hil hXi
 have hkx:nx0+i<nx:=by have:=h.top;omega
 obtain ⟨Lx,hm,hRel⟩:=h.mem
 obtain ⟨M,L,hn,hM,hrep,hS⟩:=hRel.ex
 obtain ⟨v,w',q,A,h1,h2,h3,h4⟩:=xn (P:=P) hT hg hx hk hS
 have hle:=qf hk q
 refine dy.val h1 ⟨φ.put (nx0+i) q,h.closed' ho hr,h.stage,fun i' y hy=>?_,fun a ha=>by rw[h.flX a ha];rfl,h.slots' ho hle h2 hd,fun i' hi' hx'=>?_,h.le.trans hle,h.leI,fun t ht=>by rw[gP φ q (by omega)];exact h.keep t ht,h.top,?_⟩
 ·rw[←h.chain i' y hy]
  have:Nat.beq i' i=false:=by cases hb:Nat.beq i' i with
   |false=>rfl
   |true=>
    have:=Nat.eq_of_beq_eq_true hb
    subst this
    rw[hR] at hy;cases hy
  rw[this,Bool.or_false]
 ·simp only[Bool.or_eq_false_iff] at hx'
  have:i'≠i:=fun e=>by rw[e,show Nat.beq i i=true from Nat.beq_refl i] at hx';cases hx'.2
  rw[gP φ q (by omega)];exact h.free i' hi' hx'.1
 ·have hfi:fl.testBit i=false:=by cases hb:fl.testBit i with
   |false=>rfl
   |true=>rw[h.flX i hb] at hXi;cases hXi
  have hp:(bB nx0 (fun a=>(X a||Nat.beq a i)&&!fl.testBit a) R 0).Perm ((nx0+i,vo)::bB nx0 (fun a=>X a&&!fl.testBit a) R 0):=by
   have hs:=dw (nx0:=nx0) (p:=fun a=>(X a||Nat.beq a i)&&!fl.testBit a) (q:=fun a=>Nat.beq a i) R 0 fun a ha=>by
    have:=Nat.eq_of_beq_eq_true ha
    subst this
    simp[hfi]
   have e3:bB nx0 (fun a=>(X a||Nat.beq a i)&&!fl.testBit a&&!Nat.beq a i) R 0=bB nx0 (fun a=>X a&&!fl.testBit a) R 0:=dx R 0 fun a y o' ha=>by
    rw[Nat.zero_add]
    cases hb:Nat.beq a i with
    |false=>simp
    |true=>
     have:=Nat.eq_of_beq_eq_true hb
     subst this
     simp[hXi]
   rw[vP hR,e3] at hs
   exact hs
  obtain ⟨L',h5,h6⟩:=eH.perm hp.symm (L:=A++Lx) ⟨A,Lx,rfl,h3,hm.mono (.refl _) hle⟩
  refine ⟨L',h5,iv hRel.top hkx q,M,L,hn,hM,hrep.mono (.refl _) hle,h4.perm ?_⟩
  refine ((h6.symm.append_right F).append_left L).trans ?_
  rw[qq,←qq,←qq A]
  exact List.perm_append_comm.append_right _
end
theorem rO {R:List Rc} {i i':Nat} {y:EV} (h:i<i') (hi:R[i]?=some (.cv y)):dl R i<dl R i':=by
 have hlt:=(List.getElem?_eq_some_iff.1 hi).1
 have h1:dl R (i+1)=dl R i+1:=by
  unfold dl
  obtain ⟨_,he⟩:=List.getElem?_eq_some_iff.1 hi
  rw[qp hlt,he,List.filter_append,qu];rfl
 have h2:dl R (i+1)≤dl R i':=by
  unfold dl
  exact ((List.take_sublist_take_left (l:=R) (show i+1≤i' from h)).filter dS).length_le
 omega
section
variable {P:Program} {T:TT} {call:bL} {φ0 φ:bV} {I0 I:aJ} {F:List (Nat × Obj)} {E w:World} {nx0:Nat} {l:List Oper} {R:List Rc} {GF:Tr EV} {S:List pZ} {X:Nat→Bool} {j:Nat} {H:Hp} {nx fl:Nat} {ρ:bF}
theorem cF.heap (h:cF φ0 I0 F E nx0 l R GF S X j φ I H nx fl ρ w) {i m:Nat} (hi:i≤R.length) (hb:∀a,m.testBit a=true→a<i∧X a=true) {H1:Hp} (ha:nF (bB nx0 (qA fl m) (R.take i) 0) H=some H1) :
  ∃B,eH I φ (bB nx0 (fun a=>(X a&&!fl.testBit a)&&!qA fl m a) R 0) B∧cy I φ H1 nx (B++F) E w:=by
 obtain ⟨Lx,hm,hR⟩:=h.mem
 have hq:∀a,qA fl m a=true→(fun a=>X a&&!fl.testBit a) a=true:=fun a hq=>by
  unfold qA at hq
  simp only[qz] at hq ⊢
  exact ⟨(hb a hq.1).2,hq.2⟩
 have hs:=dw (nx0:=nx0) R 0 hq
 have hpre:bB nx0 (qA fl m) R 0=bB nx0 (qA fl m) (R.take i) 0:=by
  have e:bB nx0 (qA fl m) (R.take i++R.drop i) 0=bB nx0 (qA fl m) (R.take i) 0++bB nx0 (qA fl m) (R.drop i) (0+(R.take i).length):=iP _ _ _ _
  rw[List.take_append_drop] at e
  rw[e,eP (R.drop i) _ fun a ha=>?_,List.append_nil]
  rw[qw] at ha
  unfold qA
  cases hbit:m.testBit a with
  |false=>rfl
  |true=>have:=(hb a hbit).1;omega
 obtain ⟨L',h1,h2⟩:=hm.perm hs
 obtain ⟨A,B,rfl,h3,h4⟩:=eH.app h1
 rw[hpre] at h3
 exact ⟨B,h4,cy.takeAll h3 ha (by rw[←qq];exact hR.permF (h2.symm.append_right F))⟩
theorem cF.write (hT:b8 P T) (hC:cf P E call) (h:cF φ0 I0 F E nx0 l R GF S X j φ I H nx fl ρ w) {i m:Nat} {o:Oper} (ho:l[i]?=some o) (hil:i<R.length) (hXi:X i=false) (hr:∀e∈o.after,Region.binds .any e=true→X e.on=true) (hb:∀a,m.testBit a=true→a<i∧X a=true) {x:EV} (hR:R[i]?=some (.cv x)) (hj:dl R i=j)
  {H1 H':Hp} {nx':Nat} (hS:S[j+1]?=some (H',nx',fl ||| m)) (ha:nF (bB nx0 (qA fl m) (R.take i) 0) H=some H1) {g:Nat→EV} (hg:dz φ g ρ) (hx:xz T call g H1 (nx0+i) nx o.op=some (x,H',nx')) (hd:∀d,o.dst=some d→gt GF d=x) :
  dy P o ρ w fun v w'=>∃φ' I',cF φ0 I0 F E nx0 l R GF S (fun a=>X a||Nat.beq a i) (j+1) φ' I' H' nx' (fl ||| m) (updO ρ o.dst v) w':=by
 have hil2:i<l.length:=(List.getElem?_eq_some_iff.1 ho).1
 have hk:=h.free i hil2 hXi
 have hkx:nx0+i<nx:=by have:=h.top;omega
 obtain ⟨B,hB,hRel⟩:=h.heap (Nat.le_of_lt hil) hb ha
 have hop:dy P o ρ w (di φ I (B++F) E (nx0+i) nx x H' nx'):=by
  unfold xz at hx
  split at hx
  ·rename_i y H2 hc
   cases hx
   exact xu hT hg hRel hk hkx hc
  ·exact rK hT hC hg hRel hx
 refine hop.mono fun v w' ⟨J,ψ,a,b,c,d,e,f⟩=>⟨ψ,J,h.closed' ho hr,hS,fun i' y hy=>?_,fun t ht=>?_,h.slots' ho b e hd,fun i' hi' hx'=>?_,h.le.trans b,h.leI.trans a,fun t ht=>by rw[c t (by have:=h.top;omega) (by omega)];exact h.keep t ht,by have:=h.top;omega,B,?_,f⟩
 ·by_cases e2:i'=i
  ·subst e2
   rw[hj,show Nat.beq i' i'=true from Nat.beq_refl i',Bool.or_true]
   simp
  ·have hbq:Nat.beq i' i=false:=by cases hb2:Nat.beq i' i with
    |false=>rfl
    |true=>exact absurd (Nat.eq_of_beq_eq_true hb2) e2
   rw[hbq,Bool.or_false,h.chain i' y hy]
   have hne:dl R i'≠j:=fun e3=>by
    rcases Nat.lt_or_gt_of_ne e2 with h1|h1
    ·have:=rO h1 hy;omega
    ·have:=rO h1 hR;omega
   omega
 ·rw[Nat.testBit_or,Bool.or_eq_true] at ht
  rcases ht with h1|h1
  ·rw[h.flX t h1];rfl
  ·rw[(hb t h1).2];rfl
 ·simp only[Bool.or_eq_false_iff] at hx'
  have:i'≠i:=fun e=>by rw[e,show Nat.beq i i=true from Nat.beq_refl i] at hx';cases hx'.2
  rw[c _ (by have:=h.top;omega) (by omega)];exact h.free i' hi' hx'.1
 ·rw[dx (q:=fun a=>(X a&&!fl.testBit a)&&!qA fl m a) R 0 fun t y o' ht=>?_]
  ·exact hB.mono a b
  ·rw[Nat.zero_add]
   have hbq:Nat.beq t i=false:=by cases hb2:Nat.beq t i with
    |false=>rfl
    |true=>
     have:=Nat.eq_of_beq_eq_true hb2
     subst this
     rw[hR] at ht;cases ht
   simp only[hbq,Bool.or_false,qA,Nat.testBit_or]
   cases X t<;>cases fl.testBit t<;>cases m.testBit t<;>rfl
end
theorem lR:∀n,(∀x y,eO.eqE n x y=true→x=y)∧∀l m,eO.eqL n l m=true→l=m
 |0=>⟨fun x y h=>(by unfold eO.eqE at h;cases h),fun l m h=>(by unfold eO.eqL at h;cases h)⟩
 |n+1=>by
  obtain ⟨ih1,ih2⟩:=lR n
  have nb:∀{a b:Nat},Nat.beq a b=true→a=b:=fun h=>Nat.eq_of_beq_eq_true h
  constructor
  ·intro x y h
   unfold eO.eqE at h
   split at h
   case h_8=>
    rename_i a b c d e a' b' c' d' e'
    simp only[qz] at h
    obtain ⟨⟨⟨⟨h1,h2⟩,h3⟩,h4⟩,h5⟩:=h
    rw[nb h1,nb h2,nb h3,nb h4]
    split at h5
    ·rw[nb h5]
    ·rfl
    ·rfl
    ·cases h5
   all_goals first
    |rfl
    |(cases h;done)
    |(simp only[qz,decide_eq_true_eq] at h;rw[h.1,h.2];done)
    |(simp only[qz] at h;rw[nb h.1,nb h.2];done)
    |(rw[ih2 _ _ h];done)
    |(rw[nb h];done)
    |(simp only[qz] at h;rw[nb h.1.1,ih2 _ _ h.1.2,ih2 _ _ h.2];done)
    |(simp only[qz] at h;rw[nb h.1,ih1 _ _ h.2];done)
    |(rw[fD] at h;rw[of_decide_eq_true h];done)
    |(rw[beq_iff_eq.1 h];done)
  ·intro l m h
   unfold eO.eqL at h
   split at h
   ·cases ‹_=0›
   ·rfl
   ·simp only[qz] at h
    first
     |rw[ih1 _ _ h.1,ih2 _ _ h.2]
     |(rename_i e;cases e;rw[ih1 _ _ h.1,ih2 _ _ h.2])
   ·cases h
theorem lS {l:List Oper} {X:Nat→Bool} (hX:iz l X) (hE:lN l) {i:Nat} {o:Oper} (ho:l[i]?=some o) (hr:∀e∈o.after,Region.binds .any e=true→X e.on=true):∀a,(((fF l [])[i]?).getD 0).testBit a=true→a<i∧X a=true:=fun a ha=>by
 cases hm:(fF l [])[i]? with
 |none=>rw[hm] at ha;simp at ha
 |some m=>
  rw[hm] at ha
  obtain ⟨h1,h2⟩:=xy hX hE i m o hm ho
  exact ⟨h1 a ha,h2 hr a ha⟩
theorem p6 {p q:Nat→Bool} {i:Nat} (hp:p i=true) (hq:q i=false) (h:∀a,q a=true→p a=true):∀l:List Nat,i∈l→(l.filter q).length<(l.filter p).length
 |[],hi=>by cases hi
 |a::l,hi=>by
  have le:∀l:List Nat,(l.filter q).length≤(l.filter p).length:=fun l=>by
   induction l with
   |nil=>exact Nat.le_refl _
   |cons b l ih=>
    rw[List.filter_cons,List.filter_cons]
    cases hb:q b with
    |true=>rw[if_pos rfl,if_pos (h b hb)];simpa using ih
    |false=>rw[if_neg (by decide)];split<;>(try rw[List.length_cons])<;>omega
  rcases List.mem_cons.1 hi with rfl|hi
  ·rw[List.filter_cons,List.filter_cons,if_neg (by rw[hq];decide),if_pos hp,List.length_cons]
   have:=le l;omega
  ·have ih:=p6 hp hq h l hi
   rw[List.filter_cons,List.filter_cons]
   cases hb:q a with
   |true=>rw[if_pos rfl,if_pos (h a hb)];simpa using ih
   |false=>rw[if_neg (by decide)];split<;>(try rw[List.length_cons])<;>omega
section
variable {P:Program} {T:TT} {call:bL} {φ0 φ:bV} {I0 I:aJ} {F:List (Nat × Obj)} {E w:World} {nx0:Nat} {l:List Oper} {R:List Rc} {GF G0:Tr EV} {S S0:List pZ} {X:Nat→Bool} {j:Nat} {H:Hp} {nx fl:Nat} {ρ:bF}
theorem cF.step (hT:b8 P T) (hC:cf P E call) (hst:nG l (fF l [])=true) (hP:lP T call l (fF l []) nx0 0 [] G0 S0 R GF S) (hL:eO T l (fF l []) nx0 R GF S=true) (h:cF φ0 I0 F E nx0 l R GF S X j φ I H nx fl ρ w) {i:Nat} {o:Oper} (ho:l[i]?=some o) (hXi:X i=false) (hr:∀e∈o.after,Region.binds .any e=true→X e.on=true) :
  bx P l.toArray (fun ρ' w'=>∃j φ I H nx fl,cF φ0 I0 F E nx0 l R GF S (fun a=>X a||Nat.beq a i) j φ I H nx fl ρ' w') [o] ρ w:=by
 obtain ⟨hE,hW,_⟩:=iQ hst
 obtain ⟨⟨rr,hRR,hlen⟩,_,hSl,_,hall⟩:=hP
 obtain ⟨r,hRi,⟨t,hw,hf,htr⟩,hd⟩:=hall i o (qr _) ho
 have hbits:=lS h.closed hE ho hr
 have hgm:dz φ (vN (o0 l o) GF) ρ:=fun t'=>by
  unfold vN
  cases hm:jU t' (o0 l o) with
  |false=>trivial
  |true=>exact h.slots t' fun i' o' ho' hd'=>(hbits i' (hW i o t' ho (eN.1 hm) i' o' ho' hd')).2
 have hwt:=rM hgm hw
 have hil:i<R.length:=(List.getElem?_eq_some_iff.1 hRi).1
 unfold bx
 rw[hwt]
 cases t with
 |false=>
  rw[if_neg (by decide)]
  have:=hf rfl
  subst this
  exact ⟨j,φ,I,H,nx,fl,h.quiet ho hr hRi rfl (fun _ _ e=>by cases e) (v:=undef) ⟨[],rfl,rfl⟩ hd⟩
 |true=>
  rw[if_pos rfl]
  have htr:=htr rfl
  cases r with
  |pv x=>
   obtain ⟨v,h1,h2⟩:=xj (P:=P) (w:=w) hT hgm htr
   exact dy.val h1 ⟨j,φ,I,H,nx,fl,h.quiet ho hr hRi rfl (fun _ _ e=>by cases e) h2 hd⟩
  |av x vo=>exact (h.make hT ho hXi hr hRi hgm htr hd).mono fun v w' ⟨φ',h'⟩=>⟨j,φ',I,H,nx,fl,h'⟩
  |lv x=>
   have hmay:p5 R (fF l []) i j=true:=by
    unfold p5
    refine List.all_eq_true.2 fun c hc=>?_
    have hcl:=List.mem_range.1 hc
    split
    ·rename_i y hy
     have hcc:=h.chain c y hy
     simp only[qz,Bool.or_eq_true,Bool.not_eq_true']
     constructor
     ·cases hb:(((fF l [])[i]?).getD 0).testBit c with
      |false=>exact .inl rfl
      |true=>exact .inr (Nat.ble_eq_true_of_le (hcc.1 (hbits c hb).2))
     ·cases hb:(((fF l [])[c]?).getD 0).testBit i with
      |false=>exact .inl rfl
      |true=>
       refine .inr (Nat.ble_eq_true_of_le ?_)
       refine Nat.le_of_not_lt fun hlt=>?_
       have hXc:=hcc.2 hlt
       have hcl2:c<l.length:=by rw[hRR,List.nil_append] at hcl;omega
       have:=(lS h.closed hE (qo hcl2) (fun e he hb=>h.closed c _ hXc (qo hcl2) e he hb) i hb).2
       rw[hXi] at this;cases this
    ·rfl
   unfold eO at hL
   have h1:=List.all_eq_true.1 hL i (List.mem_range.2 hil)
   rw[hRi,ho] at h1
   simp only at h1
   have hjl:=(List.getElem?_eq_some_iff.1 h.stage).1
   have h2:=List.all_eq_true.1 h1 j (List.mem_range.2 hjl)
   rw[hmay,h.stage] at h2
   simp only[Bool.not_true,Bool.false_or] at h2
   split at h2
   ·rename_i H1 hadd
    split at h2
    ·rename_i y hy
     have hxy:=(lR 40).1 x y h2
     subst hxy
     obtain ⟨B,hB,hRel⟩:=h.heap (Nat.le_of_lt hil) hbits hadd
     obtain ⟨v,h3,h4⟩:=xm hT hgm hRel hy
     exact dy.val h3 ⟨j,φ,I,H,nx,fl,h.quiet ho hr hRi rfl (fun _ _ e=>by cases e) h4 hd⟩
    ·cases h2
   ·cases h2
  |cv x=>
   obtain ⟨H2,nx2,fl2,H1,H',nx',s1,s2,s3,s4,s5⟩:=htr
   have hge:¬dl R i<j:=fun hlt=>by rw[(h.chain i x hRi).2 hlt] at hXi;cases hXi
   have hj:dl R i=j:=by
    rcases s5 with e|⟨c,y,hc,e,hb⟩
    ·omega
    ·have:=(h.chain c y hc).1 (hbits c hb).2
     omega
   rw[hj,h.stage] at s1
   cases s1
   rw[hj] at s2
   exact (h.write hT hC ho hil hXi hr hbits hRi hj s2 s3 hgm s4 hd).mono fun v w' ⟨φ',I',h'⟩=>⟨j+1,φ',I',H',nx',_,h'⟩
end
theorem rP:∀(R:List Rc),0<(R.filter dS).length→∃c y,R[c]?=some (.cv y)∧dl R c+1=(R.filter dS).length
 |[],h=>by simp at h
 |r::R,h=>by
  have hc:∀c,dl (r::R) (c+1)=(if dS r=true then 1 else 0)+dl R c:=fun c=>by
   unfold dl
   rw[List.take_succ_cons,List.filter_cons]
   split
   ·rw[List.length_cons];omega
   ·omega
  have hf:((r::R).filter dS).length=(if dS r=true then 1 else 0)+(R.filter dS).length:=by
   rw[List.filter_cons]
   split
   ·rw[List.length_cons];omega
   ·omega
  by_cases hR:0<(R.filter dS).length
  ·obtain ⟨c,y,h1,h2⟩:=rP R hR
   exact ⟨c+1,y,by simpa using h1,by rw[hc,hf];omega⟩
  ·cases r with
   |cv y=>exact ⟨0,y,rfl,by rw[hf];show 0+1=1+_;omega⟩
   |pv x=>exact absurd h (by rw[hf,if_neg (fun e=>by cases e)];omega)
   |lv x=>exact absurd h (by rw[hf,if_neg (fun e=>by cases e)];omega)
   |av x o=>exact absurd h (by rw[hf,if_neg (fun e=>by cases e)];omega)
section
variable {P:Program} {φ:bV} {ρ:bF} {w:World} {T:TT} {I:aJ} {F:List (Nat × Obj)} {E:World} {call:bL}
theorem mR (hT:b8 P T) (hC:cf P E call) {l:List Oper} {G G':Tr EV} {H H':Hp} {nx nx':Nat} (h:nH T call l G H nx=some (G',H',nx')) (hg:dz φ (gt G) ρ) (hR:cy I φ H nx F E w) {Q:bF→World→Prop} (hQ:∀ρ' w',eM φ I F E nx G' H' nx' ρ' w'→Q ρ' w') :
  bw P l.toArray (fun _=>True) (fun _=>True) (fun _=>false) Q l.length (Array.replicate l.length false) ρ w:=by
 unfold nH at h
 dsimp only at h
 cases hst:nG l (fF l []) with
 |false=>rw[hst] at h;cases h
 |true=>
  rw[hst] at h
  simp only[cond_true] at h
  obtain ⟨hE,hW,hD⟩:=iQ hst
  split at h
  ·rename_i R GF S hpass
   cases hL:eO T l (fF l []) nx R GF S with
   |false=>rw[hL] at h;cases h
   |true=>
    rw[hL] at h
    simp only[cond_true] at h
    split at h
    ·rename_i Hm nm flm hlast
     split at h
     ·rename_i H2 hadd
      cases h
      have hP:=lQ hD (fun i o t ho ht j o' ho' hd'=>(lS (X:=fun _=>true) (fun _ _ _ _ _ _ _=>rfl) hE ho (fun _ _ _=>rfl) j (hW i o t ho ht j o' ho' hd')).1) l 0 [] G [(H,nx+l.length,0)] H (nx+l.length) 0 none R G' S rfl (qr _) rfl rfl rfl (fun c hc=>by cases hc) (fun _=>rfl) hpass
      obtain ⟨⟨rr,hRR,hlen⟩,⟨ss,hSS⟩,hSl,hGF,_⟩:=id hP
      have hRl:R.length=l.length:=by rw[hRR,List.nil_append];omega
      have fin:∀(X:Nat→Bool) ρ' w',(∀i,i<l.length→X i=true)→(∃j ψ J H1 n1 fl,cF φ I F E nx l R G' S X j ψ J H1 n1 fl ρ' w')→Q ρ' w':=fun X ρ' w' hall ⟨j,ψ,J,H1,n1,fl,hi⟩=>by
       have hjl:=(List.getElem?_eq_some_iff.1 hi.stage).1
       have hj:j=(R.filter dS).length:=by
        by_cases h0:0<(R.filter dS).length
        ·obtain ⟨c,y,h1,h2⟩:=rP R h0
         have hc:=(List.getElem?_eq_some_iff.1 h1).1
         have:=(hi.chain c y h1).1 (hall c (by omega))
         omega
        ·omega
       rw[List.getLast?_eq_getElem?,hSl,Nat.add_sub_cancel,←hj,hi.stage] at hlast
       cases hlast
       obtain ⟨Lx,h1,h2⟩:=hi.mem
       rw[dx (q:=fun a=>!flm.testBit a) R 0 fun a y o ha=>by
        have:=(List.getElem?_eq_some_iff.1 ha).1
        rw[Nat.zero_add,hall a (by omega),Bool.true_and]] at h1
       exact hQ ρ' w' ⟨J,ψ,hi.leI,hi.le,hi.keep,by have:=hi.top;omega,fun t=>hi.slots t fun i' o' ho' _=>hall i' (List.getElem?_eq_some_iff.1 ho').1,cy.takeAll h1 hadd h2⟩
      have main:∀(fuel:Nat) (listed:Array Bool) (ρ':bF) (w':World),listed.size=l.length→((List.range l.length).filter fun i=>!eg listed i).length≤fuel→(∃j ψ J H1 n1 fl,cF φ I F E nx l R G' S (eg listed) j ψ J H1 n1 fl ρ' w')→bw P l.toArray (fun _=>True) (fun _=>True) (fun _=>false) Q fuel listed ρ' w':=by
       have rdy:∀(listed:Array Bool),listed.size=l.length→Region.ready .any l.toArray listed=[]→∀i,i<l.length→eg listed i=true:=fun listed hsz hre i=>by
        induction i using Nat.strongRecOn with
        |_ i ih=>
         intro hi
         cases hX:eg listed i with
         |true=>rfl
         |false=>
          have:i∈Region.ready .any l.toArray listed:=mem_ready.2 ⟨by
           unfold eg at hX
           have:i<listed.size:=by omega
           simp only[Array.getD_eq_getD_getElem?,Array.getElem?_eq_getElem this,Option.getD_some] at hX ⊢
           exact hX,l[i],by simp[hi],fun e he hb=>by
           have:=hE i l[i] (qo hi) e he hb
           exact ih e.on this (by omega)⟩
          rw[hre] at this;cases this
       intro fuel
       induction fuel with
       |zero=>
        intro listed ρ' w' hsz hc hi
        have hall:∀i,i<l.length→eg listed i=true:=fun i hil=>by
         cases hX:eg listed i with
         |true=>rfl
         |false=>
          have h0:(List.range l.length).filter (fun i=>!eg listed i)=[]:=List.eq_nil_of_length_eq_zero (by omega)
          have:=List.filter_eq_nil_iff.1 h0 i (List.mem_range.2 hil)
          rw[hX] at this;exact absurd rfl this
        refine ⟨?_,fin _ _ _ hall hi⟩
        refine List.eq_nil_iff_forall_not_mem.2 fun i hir=>?_
        obtain ⟨h1,o,ho,_⟩:=mem_ready.1 hir
        have hil:i<l.length:=by
         have:=(Array.getElem?_eq_some_iff.1 ho).1
         simpa using this
        have h2:=hall i hil
        unfold eg at h2
        have:i<listed.size:=by omega
        simp only[Array.getD_eq_getD_getElem?,Array.getElem?_eq_getElem this,Option.getD_some] at h1 h2
        rw[h1] at h2;cases h2
       |succ fuel ih=>
        intro listed ρ' w' hsz hc hi
        refine ⟨fun hre=>fin _ _ _ (rdy listed hsz hre) hi,fun i hir o ho=>?_⟩
        obtain ⟨h1,o2,ho2,hedge⟩:=mem_ready.1 hir
        rw[ho] at ho2;cases ho2
        have ho:l[i]?=some o:=by simpa using ho
        have hil:=(List.getElem?_eq_some_iff.1 ho).1
        have hXi:eg listed i=false:=by
         unfold eg
         have:i<listed.size:=by omega
         simp only[Array.getD_eq_getD_getElem?,Array.getElem?_eq_getElem this,Option.getD_some] at h1 ⊢
         exact h1
        obtain ⟨j,ψ,J,H1,n1,fl,hi⟩:=hi
        refine q4 (fun ρ2 w2 hi2=>⟨⟨trivial,.inr trivial⟩,ih _ ρ2 w2 (by simpa using hsz) ?_ ?_⟩) _ _ _ (hi.step hT hC hst hP hL ho hXi hedge)
        ·have hX:∀a,eg (listed.setIfInBounds i true) a=(eg listed a||Nat.beq a i):=fun a=>kD (by omega)
         have:=p6 (p:=fun i=>!eg listed i) (q:=fun a=>!eg (listed.setIfInBounds i true) a) (i:=i) (by rw[hXi];rfl) (by rw[hX,show Nat.beq i i=true from Nat.beq_refl i];simp) (fun a ha=>by rw[hX] at ha;simp at ha ⊢;exact ha.1) (List.range l.length) (List.mem_range.2 hil)
         omega
        ·have e:eg (listed.setIfInBounds i true)=fun a=>eg listed a||Nat.beq a i:=funext fun a=>kD (by omega)
         rw[e];exact hi2
      have hX0:∀i,eg (Array.replicate l.length false) i=false:=fun i=>by
       unfold eg
       simp only[Array.getD_eq_getD_getElem?,Array.getElem?_replicate]
       split<;>rfl
      refine main l.length _ ρ w (by simp) (by have:=List.length_filter_le (fun i=>!eg (Array.replicate l.length false) i) (List.range l.length);simpa using this) ⟨0,φ,I,H,nx+l.length,0,?_⟩
      refine ⟨fun i o hx=>(by rw[hX0] at hx;cases hx),by rw[hSS];rfl,fun i y _=>(by rw[hX0];simp),fun a ha=>(by simp at ha),fun t ht=>?_,fun i _ _=>hR.top _ (by omega),.refl _,.refl _,fun _ _=>rfl,Nat.le_refl _,[],?_,hR.mono (by omega)⟩
      ·rw[hGF t fun i o _ ho hd'=>by have:=ht i o ho hd';rw[hX0] at this;cases this]
       exact hg t
      ·rw[eP R 0 fun a _=>by simp[hX0]];rfl
     ·cases h
    ·cases h
  ·cases h
end
def nJ (l:List Oper) (o:Oper):Bool:=(List.range l.length).all (fun i=>o.after.toList.any (fun e=>Region.binds .any e&&Nat.beq e.on i))&&(o.after.toList.all (fun e=>!Region.binds .any e||Nat.blt e.on l.length)&&o.guard.isNone&&l.all fun p=>p.guard.all fun g=>Nat.blt g.1 l.length)
noncomputable def nK (T:TT) (call:bL) (l:List Oper) (G:Tr EV) (H:Hp) (nx:Nat):Option (Tr EV × Hp × Nat):=
 bif nG l (fF l []) then nH T call l G H nx
 else match l.getLast? with
  |none=>none
  |some o=>bif nG l.dropLast (fF l.dropLast [])&&nJ l.dropLast o then
    match nH T call l.dropLast G H nx with
    |some (G1,H1,n1)=>match AM T call (gt G1) H1 n1 (n1+1) o.op with
     |some (x,H2,n2)=>some (setO G1 o.dst x,H2,n2)
     |none=>none
    |none=>none
   else none
theorem oT {l:List Oper} {o:Oper} (h:nJ l o=true):(∀i,i<l.length→∃e∈o.after,Region.binds .any e=true∧e.on=i)∧o.guard=none∧(∀p∈l,∀j b,p.guard=some (j,b)→j<l.length)∧∀e∈o.after,Region.binds .any e=true→e.on<l.length:=by
 unfold nJ at h
 simp only[qz,List.all_eq_true,List.any_eq_true,List.mem_range] at h
 obtain ⟨h1,⟨h4,h2⟩,h3⟩:=h
 refine ⟨fun i hi=>?_,?_,fun p hp j b hg=>?_,fun e he hb=>?_⟩
 ·obtain ⟨e,he,hb,hj⟩:=h1 i hi
  exact ⟨e,by simpa using he,hb,Nat.eq_of_beq_eq_true hj⟩
 ·cases hg:o.guard with
  |none=>rfl
  |some g=>rw[hg] at h2;cases h2
 ·have:=h3 p hp
  rw[hg] at this
  exact Nat.le_of_ble_eq_true this
 ·have:=h4 e (by simpa using he)
  rw[hb] at this
  simpa using this
section
variable {P:Program} {l:List Oper} {o:Oper}
theorem iR {listed:Array Bool} {b:Bool} {i:Nat} (h:i<listed.size):(listed.push b).getD i true=listed.getD i true:=by
 simp only[Array.getD_eq_getD_getElem?]
 rw[Array.getElem?_push_lt (by omega),Array.getElem?_eq_getElem h]
theorem vQ {listed:Array Bool} {b:Bool}:(listed.push b).getD listed.size true=b:=by
 simp only[Array.getD_eq_getD_getElem?,Array.getElem?_push_size,Option.getD_some]
theorem oU {p:Oper} {ρ:bF} (hg:∀j b,p.guard=some (j,b)→j<l.length):bJ (l++[o]).toArray p ρ=bJ l.toArray p ρ:=by
 unfold bJ
 cases h:p.guard with
 |none=>rfl
 |some g=>
  obtain ⟨j,b⟩:=g
  have:=hg j b h
  have e:(l++[o]).toArray[j]?=l.toArray[j]?:=by simp only[List.getElem?_toArray];rw[List.getElem?_append_left this]
  simp only[e]
theorem vR {Q Q':bF→World→Prop} (hlast:∀i,i<l.length→∃e∈o.after,Region.binds .any e=true∧e.on=i) (hon:∀e∈o.after,Region.binds .any e=true→e.on<l.length) (hE:lN l) (hg:∀p∈l,∀j b,p.guard=some (j,b)→j<l.length)
  (hQ:∀ρ w,Q' ρ w→bx P (l++[o]).toArray Q [o] ρ w):∀(fuel:Nat) (listed:Array Bool) (ρ:bF) (w:World),listed.size=l.length→((List.range l.length).filter fun i=>!eg listed i).length≤fuel →
  bw P l.toArray (fun _=>True) (fun _=>True) (fun _=>false) Q' fuel listed ρ w→bw P (l++[o]).toArray (fun _=>True) (fun _=>True) (fun _=>false) Q (fuel+1) (listed.push false) ρ w:=by
 have hlen:(l++[o]).length=l.length+1:=by simp
 have rdy:∀(listed:Array Bool),listed.size=l.length→Region.ready .any l.toArray listed=[]→∀i,i<l.length→eg listed i=true:=fun listed hsz hre i=>by
  induction i using Nat.strongRecOn with
  |_ i ih=>
   intro hi
   cases hX:eg listed i with
   |true=>rfl
   |false=>
    have:i∈Region.ready .any l.toArray listed:=mem_ready.2 ⟨by
     unfold eg at hX
     have:i<listed.size:=by omega
     simp only[Array.getD_eq_getD_getElem?,Array.getElem?_eq_getElem this,Option.getD_some] at hX ⊢
     exact hX,l[i],by simp[hi],fun e he hb=>by
     have:=hE i l[i] (qo hi) e he hb
     exact ih e.on this (by omega)⟩
    rw[hre] at this;cases this
 have stP:∀(listed:Array Bool) (b:Bool) (i:Nat),i<listed.size→eg (listed.push b) i=eg listed i:=fun listed b i hi=>by
  unfold eg
  simp only[Array.getD_eq_getD_getElem?]
  rw[Array.getElem?_push_lt hi,Array.getElem?_eq_getElem hi]
 have stL:∀(listed:Array Bool) (b:Bool),eg (listed.push b) listed.size=b:=fun listed b=>by
  unfold eg
  simp only[Array.getD_eq_getD_getElem?,Array.getElem?_push_size,Option.getD_some]
 have fin:∀(fuel:Nat) (listed:Array Bool) (ρ:bF) (w:World),listed.size=l.length→(∀i,i<l.length→eg listed i=true)→Q' ρ w→bw P (l++[o]).toArray (fun _=>True) (fun _=>True) (fun _=>false) Q (fuel+1) (listed.push false) ρ w:=fun fuel listed ρ w hsz hall hq=>by
  have hmem:l.length∈Region.ready .any (l++[o]).toArray (listed.push false):=mem_ready.2 ⟨by rw[←hsz];exact vQ,o,by simp,fun e he hb=>by
   have h8:=hon e he hb
   show eg (listed.push false) e.on=true
   rw[stP listed false e.on (by omega)];exact hall e.on h8⟩
  refine ⟨fun hre=>(by rw[hre] at hmem;cases hmem),fun i hir p hp=>?_⟩
  ·obtain ⟨h1,p',hp',_⟩:=mem_ready.1 hir
   rw[hp] at hp';cases hp'
   have hp:(l++[o])[i]?=some p:=by simpa using hp
   have hil:=(List.getElem?_eq_some_iff.1 hp).1
   have hi:i=l.length:=by
    rcases (by omega:i<l.length∨i=l.length) with h|h
    ·have h2:=hall i h
     unfold eg at h2
     rw[iR (by omega)] at h1
     have:i<listed.size:=by omega
     simp only[Array.getD_eq_getD_getElem?,Array.getElem?_eq_getElem this,Option.getD_some] at h1 h2
     rw[h1] at h2;cases h2
    ·exact h
   subst hi
   have hpo:p=o:=by simpa using hp.symm
   subst hpo
   refine q4 (fun ρ2 w2 hq2=>⟨⟨trivial,.inr trivial⟩,?_⟩) _ _ _ (hQ ρ w hq)
   have hnone:Region.ready .any (l++[p]).toArray ((listed.push false).setIfInBounds l.length true)=[]:=List.eq_nil_iff_forall_not_mem.2 fun k hk=>by
    obtain ⟨h3,p3,hp3,_⟩:=mem_ready.1 hk
    have hkl:k<l.length+1:=by
     have:=(Array.getElem?_eq_some_iff.1 hp3).1
     simpa using this
    have h4:eg ((listed.push false).setIfInBounds l.length true) k=true:=by
     rw[kD (by simp;omega)]
     rcases (by omega:k<l.length∨k=l.length) with h|h
     ·rw[stP listed false k (by omega),hall k h];rfl
     ·rw[h,show Nat.beq l.length l.length=true from Nat.beq_refl _,Bool.or_true]
    unfold eg at h4
    have:k<((listed.push false).setIfInBounds l.length true).size:=by simp;omega
    simp only[Array.getD_eq_getD_getElem?,Array.getElem?_eq_getElem this,Option.getD_some] at h3 h4
    rw[h3] at h4;cases h4
   cases fuel with
   |zero=>exact ⟨hnone,hq2⟩
   |succ n=>exact ⟨fun _=>hq2,fun k hk=>by rw[hnone] at hk;cases hk⟩
 intro fuel
 induction fuel with
 |zero=>
  intro listed ρ w hsz hc ⟨hre,hq⟩
  exact fin 0 listed ρ w hsz (rdy listed hsz hre) hq
 |succ fuel ih=>
  intro listed ρ w hsz hc ⟨h1,h2⟩
  by_cases hre:Region.ready .any l.toArray listed=[]
  ·exact fin (fuel+1) listed ρ w hsz (rdy listed hsz hre) (h1 hre)
  ·have hex:∃i,i<l.length∧eg listed i=false:=by
    obtain ⟨i,hi⟩:=List.exists_mem_of_ne_nil _ hre
    obtain ⟨h3,p,hp,_⟩:=mem_ready.1 hi
    have hil:i<l.length:=by
     have:=(Array.getElem?_eq_some_iff.1 hp).1
     simpa using this
    refine ⟨i,hil,?_⟩
    unfold eg
    have:i<listed.size:=by omega
    simp only[Array.getD_eq_getD_getElem?,Array.getElem?_eq_getElem this,Option.getD_some] at h3 ⊢
    exact h3
   have hsame:∀i,i∈Region.ready .any (l++[o]).toArray (listed.push false)↔i∈Region.ready .any l.toArray listed:=fun i=>by
    constructor
    ·intro hi
     obtain ⟨h3,p,hp,he⟩:=mem_ready.1 hi
     have hp:(l++[o])[i]?=some p:=by simpa using hp
     have hil:=(List.getElem?_eq_some_iff.1 hp).1
     rcases (by omega:i<l.length∨i=l.length) with h|h
     ·refine mem_ready.2 ⟨by rw[←iR (b:=false) (by omega)];exact h3,p,by simpa [List.getElem?_append_left h] using hp,fun e hm hb=>?_⟩
      have hlt:=hE i p (by simpa [List.getElem?_append_left h] using hp) e hm hb
      have:=he e hm hb
      show eg listed e.on=true
      rw[←stP listed false e.on (by omega)];exact this
     ·subst h
      have hpo:p=o:=by simpa using hp.symm
      subst hpo
      obtain ⟨k,hk,hks⟩:=hex
      obtain ⟨e,hm,hb,hon⟩:=hlast k hk
      have:=he e hm hb
      rw[hon] at this
      have h5:=stP listed false k (by omega)
      rw[hks] at h5
      have h6:eg (listed.push false) k=true:=this
      rw[h5] at h6;cases h6
    ·intro hi
     obtain ⟨h3,p,hp,he⟩:=mem_ready.1 hi
     have hp:l[i]?=some p:=by simpa using hp
     have hil:=(List.getElem?_eq_some_iff.1 hp).1
     refine mem_ready.2 ⟨by rw[iR (by omega)];exact h3,p,by simpa [List.getElem?_append_left hil] using hp,fun e hm hb=>?_⟩
     have hlt:=hE i p hp e hm hb
     have:=he e hm hb
     have h5:=stP listed false e.on (by omega)
     show eg (listed.push false) e.on=true
     rw[h5];exact this
   refine ⟨fun hre2=>?_,fun i hir p hp=>?_⟩
   ·exfalso
    obtain ⟨i,hi⟩:=List.exists_mem_of_ne_nil _ hre
    have:=(hsame i).2 hi
    rw[hre2] at this;cases this
   ·have hi:=(hsame i).1 hir
    obtain ⟨h3,p2,hp2,_⟩:=mem_ready.1 hi
    have hp2l:l[i]?=some p2:=by simpa using hp2
    have hil:=(List.getElem?_eq_some_iff.1 hp2l).1
    have hpp:p=p2:=by
     have hp:(l++[o])[i]?=some p:=by simpa using hp
     rw[List.getElem?_append_left hil,hp2l] at hp
     exact (Option.some.inj hp).symm
    subst hpp
    have hst:=h2 i hi p hp2
    have hpm:p∈l:=qv hp2l
    have hst2:bx P (l++[o]).toArray (fun ρ' w'=>((fun _=>True) w'∧(dg (fun _=>false) (listed.setIfInBounds i true)∨(fun _=>True) w'))∧bw P l.toArray (fun _=>True) (fun _=>True) (fun _=>false) Q' fuel (listed.setIfInBounds i true) ρ' w') [p] ρ w:=by
     unfold bx at hst ⊢
     rw[oU (hg p hpm)]
     exact hst
    refine q4 (fun ρ2 w2 hq2=>⟨⟨trivial,.inr trivial⟩,?_⟩) _ _ _ hst2
    have hXi:eg listed i=false:=by
     unfold eg
     have:i<listed.size:=by omega
     simp only[Array.getD_eq_getD_getElem?,Array.getElem?_eq_getElem this,Option.getD_some] at h3 ⊢
     exact h3
    have:=ih (listed.setIfInBounds i true) ρ2 w2 (by simpa using hsz) (by
     have hX:∀a,eg (listed.setIfInBounds i true) a=(eg listed a||Nat.beq a i):=fun a=>kD (by omega)
     have:=p6 (p:=fun i=>!eg listed i) (q:=fun a=>!eg (listed.setIfInBounds i true) a) (i:=i) (by rw[hXi];rfl) (by rw[hX,show Nat.beq i i=true from Nat.beq_refl i];simp) (fun a ha=>by rw[hX] at ha;simp at ha ⊢;exact ha.1) (List.range l.length) (List.mem_range.2 hil)
     omega) hq2.2
    rwa [show (listed.push false).setIfInBounds i true=(listed.setIfInBounds i true).push false by
     apply Array.ext_getElem?
     intro k
     simp only[Array.getElem?_setIfInBounds,Array.getElem?_push,Array.size_push,Array.size_setIfInBounds]
     (repeat' split)<;>first|rfl|omega|(subst_vars;simp_all;done)|(subst_vars;omega)]
end
section
variable {P:Program} {φ:bV} {ρ:bF} {w:World} {T:TT} {I:aJ} {F:List (Nat × Obj)} {E:World} {call:bL}
theorem p7 (hT:b8 P T) (hC:cf P E call) {l:List Oper} {G G':Tr EV} {H H':Hp} {nx nx':Nat} (h:nK T call l G H nx=some (G',H',nx')) (hg:dz φ (gt G) ρ) (hR:cy I φ H nx F E w) {Q:bF→World→Prop} (hQ:∀ρ' w',eM φ I F E nx G' H' nx' ρ' w'→Q ρ' w') :
  bw P l.toArray (fun _=>True) (fun _=>True) (fun _=>false) Q l.length (Array.replicate l.length false) ρ w:=by
 unfold nK at h
 cases hst:nG l (fF l []) with
 |true=>rw[hst] at h;exact mR hT hC h hg hR hQ
 |false=>
  rw[hst] at h
  simp only[cond_false] at h
  split at h
  ·cases h
  ·rename_i o ho
   have hne:l≠[]:=fun e=>by rw[e] at ho;cases ho
   have hl:l=l.dropLast++[o]:=by
    have h0:=List.getLast?_eq_some_getLast hne
    rw[ho] at h0
    rw[Option.some.inj h0]
    exact (List.dropLast_concat_getLast hne).symm
   obtain ⟨m,hm⟩:∃m,l.dropLast=m:=⟨_,rfl⟩
   rw[hm] at h hl
   subst hl
   cases hok:(nG m (fF m [])&&nJ m o) with
   |false=>rw[hok] at h;cases h
   |true=>
    rw[hok] at h
    simp only[cond_true] at h
    rw[qz] at hok
    obtain ⟨hE,_,_⟩:=iQ hok.1
    obtain ⟨h1,h2,h3,h4⟩:=oT hok.2
    split at h
    ·rename_i G1 H1 n1 hd
     split at h
     ·rename_i x H2 n2 hx
      cases h
      have key:=vR (P:=P) (l:=m) (o:=o) (Q:=Q) (Q':=fun ρ' w'=>eM φ I F E nx G1 H1 n1 ρ' w') h1 h4 hE h3 (fun ρ1 w1 hp=>by
       obtain ⟨J,ψ,a,b,c,d,e,f⟩:=hp
       unfold bx
       rw[show bJ (m++[o]).toArray o ρ1=true by unfold bJ;rw[h2],if_pos rfl]
       have htop:=f.top
       refine (rL hT hC e (f.mono (Nat.le_succ n1)) (htop n1 (Nat.le_refl _)) (Nat.lt_succ_self n1) hx).mono fun v w2 ⟨K,χ,a2,b2,c2,d2,e2,f2⟩=>?_
       exact hQ _ _ ⟨K,χ,a.trans a2,b.trans b2,fun j hj=>(c2 j (by omega) (by omega)).trans (c j hj),by omega,(e.mono b2).setO e2 o.dst,f2⟩) m.length (Array.replicate m.length false) ρ w (by simp) (by have:=List.length_filter_le (fun i=>!eg (Array.replicate m.length false) i) (List.range m.length);simpa using this) (mR hT hC hd hg hR fun _ _ hp=>hp)
      rw[show (m++[o]).length=m.length+1 by simp,show Array.replicate (m.length+1) false=(Array.replicate m.length false).push false from Array.replicate_succ]
      exact key
     ·cases h
    ·cases h
end
end
section
open Go.Proofs
structure ES where
 G:Tr EV
 H:Hp
 nx:Nat
inductive Ex where
 |nrm
 |ret
 |exit (i:Nat)
def Ex.to:Ex→Exit
 |.nrm=>.normal
 |.ret=>.ret
 |.exit i=>.exit i
noncomputable def nL (f:ES→Option (Ex × ES)):Nat→ES→Option (Ex × ES)
 |0,_=>none
 |n+1,s=>match f s with
  |some (.nrm,s')=>nL f n s'
  |r=>r
noncomputable def dI (T:TT) (call:bL) (fuel:Nat):Code→ES→Option (Ex × ES)
 |.skip,s=>some (.nrm,s)
 |.ret,s=>some (.ret,s)
 |.exit i,s=>some (.exit i,s)
 |.seq a b,s=>match dI T call fuel a s with
  |some (.nrm,s')=>dI T call fuel b s'
  |r=>r
 |.cond c a b,s=>match bN (gt s.G) c with
  |some (.b t)=>bif t then dI T call fuel a s else dI T call fuel b s
  |_=>none
 |.block id c,s=>match dI T call fuel c s with
  |some (.exit i,s')=>bif Nat.beq i id then some (.nrm,s') else some (.exit i,s')
  |r=>r
 |.loop c,s=>nL (dI T call fuel c) fuel s
 |.region _ ops d,s=>match (bif d then nK T call ops.toList s.G s.H s.nx else oQ T call ops.toList ops.toList s.G s.H s.nx) with
  |some (G,H,nx)=>some (.nrm,⟨G,H,nx⟩)
  |none=>none
 |_,_=>none
def dJ (n:Nat):Code→Bool
 |.skip | .ret | .exit _=>true
 |.seq a b=>dJ n a&&dJ n b
 |.cond _ a b=>dJ n a&&dJ n b
 |.block _ c=>dJ n c
 |.loop c=>dJ n c
 |.region _ ops _=>dK n ops.toList
 |_=>false
section
variable {P:Program} {T:TT} {call:bL} {F:List (Nat × Obj)} {E:World} {n:Nat}
theorem vS (hm:P.follows .mixedOrders=true) (hT:b8 P T) (hC:cf P E call) (fuel:Nat):∀(c:Code) (s s':ES) (ex:Ex),dJ n c=true→dI T call fuel c s=some (ex,s') →
  ∀(φ:bV) (I:aJ) (ρ:bF) (w:World) (Q:Exit→bF→World→Prop),dz φ (gt s.G) ρ→cy I φ s.H s.nx F E w→(∀ρ' w',eM φ I F E s.nx s'.G s'.H s'.nx ρ' w'→Q ex.to ρ' w')→WP P n c Q ρ w:=by
 intro c
 induction c with
 |skip=>intro s s' ex _ h φ I ρ w Q hg hR hQ;cases h;exact WP.skip (hQ _ _ ⟨I,φ,.refl _,.refl _,fun _ _=>rfl,Nat.le_refl _,hg,hR⟩)
 |ret=>intro s s' ex _ h φ I ρ w Q hg hR hQ;cases h;exact WP.ret (hQ _ _ ⟨I,φ,.refl _,.refl _,fun _ _=>rfl,Nat.le_refl _,hg,hR⟩)
 |exit i=>intro s s' ex _ h φ I ρ w Q hg hR hQ;cases h;exact WP.exit (hQ _ _ ⟨I,φ,.refl _,.refl _,fun _ _=>rfl,Nat.le_refl _,hg,hR⟩)
 |seq a b iha ihb=>
  intro s s' ex ho h φ I ρ w Q hg hR hQ
  simp only[dJ,qz] at ho
  simp only[dI] at h
  refine WP.seq ?_
  split at h
  ·rename_i s1 h1
   refine iha s s1 .nrm ho.1 h1 φ I ρ w _ hg hR fun ρ' w' ⟨J,ψ,a,b,c,d,e,f⟩=>?_
   exact ihb s1 s' ex ho.2 h ψ J ρ' w' Q e f fun ρ2 w2 hp=>hQ _ _ (eM.up a b c d hp)
  ·rename_i hne
   refine iha s s' ex ho.1 h φ I ρ w _ hg hR fun ρ' w' hp=>?_
   cases ex with
   |nrm=>exact absurd h (hne s')
   |ret=>exact hQ _ _ hp
   |exit i=>exact hQ _ _ hp
 |cond c a b iha ihb=>
  intro s s' ex ho h φ I ρ w Q hg hR hQ
  simp only[dJ,qz] at ho
  simp only[dI] at h
  split at h
  ·rename_i t ht
   have hc:ev ρ c=.bool t:=aL hg ht
   refine WP.cond hc ?_
   cases t with
   |true=>rw[if_pos rfl];exact iha s s' ex ho.1 h φ I ρ w Q hg hR hQ
   |false=>rw[if_neg (by decide)];exact ihb s s' ex ho.2 h φ I ρ w Q hg hR hQ
  ·cases h
 |block id c ih=>
  intro s s' ex ho h φ I ρ w Q hg hR hQ
  simp only[dJ] at ho
  simp only[dI] at h
  refine WP.block ?_
  split at h
  ·rename_i i s1 h1
   refine ih s s1 (.exit i) ho h1 φ I ρ w _ hg hR fun ρ' w' hp=>?_
   show if i=id then Q .normal ρ' w' else Q (.exit i) ρ' w'
   cases hb:Nat.beq i id with
   |true=>
    rw[hb] at h;cases h
    rw[if_pos (Nat.eq_of_beq_eq_true hb)];exact hQ _ _ hp
   |false=>
    rw[hb] at h;cases h
    rw[if_neg (fun e=>by rw[e,show Nat.beq id id=true from Nat.beq_refl id] at hb;cases hb)];exact hQ _ _ hp
  ·rename_i hne
   refine ih s s' ex ho h φ I ρ w _ hg hR fun ρ' w' hp=>?_
   cases ex with
   |nrm=>exact hQ _ _ hp
   |ret=>exact hQ _ _ hp
   |exit i=>exact absurd h (hne i s')
 |loop c ih=>
  intro s s' ex ho h φ I ρ w Q hg hR hQ
  simp only[dJ] at ho
  simp only[dI] at h
  refine WP.loop (γ:=Nat × ES) (fun g ρ' w'=>nL (dI T call fuel c) g.1 g.2=some (ex,s')∧eM φ I F E s.nx g.2.G g.2.H g.2.nx ρ' w') (fun g=>g.1) (fuel,s) ⟨h,I,φ,.refl _,.refl _,fun _ _=>Z,Nat.le_refl _,hg,hR⟩ ?_
  rintro ⟨k,s1⟩ ρ1 w1 ⟨h1,J,ψ,a,b,c1,d,e,f⟩
  cases k with
  |zero=>cases h1
  |succ k=>
   simp only[nL] at h1
   split at h1
   ·rename_i s2 h2
    refine ih s1 s2 .nrm ho h2 ψ J ρ1 w1 _ e f fun ρ2 w2 hp=>?_
    exact ⟨(k,s2),⟨h1,eM.up a b c1 d hp⟩,Nat.lt_succ_self k⟩
   ·rename_i hne
    refine ih s1 s' ex ho h1 ψ J ρ1 w1 _ e f fun ρ2 w2 hp=>?_
    cases ex with
    |nrm=>exact absurd h1 (hne s')
    |ret=>exact hQ _ _ (eM.up a b c1 d hp)
    |exit i=>exact hQ _ _ (eM.up a b c1 d hp)
 |region id ops dr=>
  intro s s' ex ho h φ I ρ w Q hg hR hQ
  simp only[dJ] at ho
  simp only[dI] at h
  have eo:ops=ops.toList.toArray:=by simp
  split at h
  ·rename_i G H nx hr
   cases h
   rw[eo]
   cases dr with
   |false=>
    simp only[cond_false] at hr
    exact WP.region ho (q4 (fun ρ' w' hp=>hQ ρ' w' hp) _ _ _ (lM hT hC _ _ _ _ _ _ _ hr φ I ρ w hg hR))
   |true=>
    simp only[cond_true] at hr
    exact WP.regionDraw (fun _=>True) (fun _=>True) (fun _=>false) hm ho fun w' hw=>by
     subst hw
     exact p7 hT hC hr hg hR.drew fun ρ' w' hp=>hQ ρ' w' hp
  ·cases h
 |_=>intro s s' ex ho;cases ho
noncomputable def iA:List EV→Nat→Tr EV→Tr EV
 |[],_,G=>G
 |x::l,i,G=>iA l (i+1) (G.set i (some x))
noncomputable def lT (T:TT) (G:Tr EV) (H:Hp):List ResultVar→Option (List EV)
 |[]=>some []
 |.tmp t::r=>match lT T G H r with
  |some l=>some (gt G t::l)
  |none=>none
 |.cell a t::r=>match gt G a,lT T G H r with
  |.p b off,some l=>match lG T H t b off with
   |some x=>some (x::l)
   |none=>none
  |_,_=>none
def Eb:List EV→EV
 |[x]=>x
 |l=>.tu l
inductive NR where
 |v (x:EV)
 |ss (l:List ByteArray)
abbrev p8:=Nat→List EV→Option NR
def p9 (s:String):Bool:=!(s == "runtime.NumGoroutine")
noncomputable def vT (P:Program) (T:TT) (C:bL) (fuel:Nat):Nat→bL
 |0=>fun _ _ _ _=>none
 |d+1=>fun f ar H nx=>match C f ar H nx with
  |some r=>some r
  |none=>match P.funcs[f]? with
   |some fn=>match fn.body with
    |some c=>bif Nat.ble ar.length fn.ntmps&&dJ fn.ntmps c&&p9 fn.name then
      match dI T (vT P T C fuel d) fuel c ⟨iA ar 0 .lf,H,nx⟩ with
      |some (.exit _,_)=>none
      |some (_,s)=>match lT T s.G s.H fn.results.toList with
       |some l=>some (Eb l,s.H,s.nx)
       |none=>none
      |none=>none
     else none
    |none=>none
   |none=>none
noncomputable def AN (N:p8):bL:=fun f ar H nx=>match N f ar with
 |some (.v x)=>some (x,H,nx)
 |some (.ss l)=>bif l.isEmpty then none else some (.sl nx 0 l.length 1 .un,H.set nx (some (.kn (l.map EV.s))),nx+1)
 |none=>none
noncomputable def Ec (C D:bL):bL:=fun f ar H nx=>match C f ar H nx with
 |some r=>some r
 |none=>D f ar H nx
theorem lU {P:Program} {E:World} {C D:bL} (hC:cf P E C) (hD:cf P E D):cf P E (Ec C D):=fun f ar H nx x H' nx' h=>by
 unfold Ec at h
 split at h
 ·rename_i r hr
  cases h
  exact hC _ _ _ _ _ _ _ hr
 ·exact hD _ _ _ _ _ _ _ h
def oV (P:Program) (E:World) (N:p8):Prop:=
 (∀f ar x,N f ar=some (.v x)→∃as' r,aV P E f as' r∧(∀φ vs,RelVs φ ar vs→∀I:G,RepL I as' vs)∧∀(I:G) v,bO I r v→∀φ,aQ φ x v) ∧
 ∀f ar l,N f ar=some (.ss l)→∃as',aV P E f as' (.fro 1 (l.map fun s=>[AV.str s]))∧∀φ vs,RelVs φ ar vs→∀I:G,RepL I as' vs
theorem jC:∀(l:List EV) (i:Nat) (G:Tr EV) (t:Nat),gt (iA l i G) t=if i≤t∧t<i+l.length then (l[t - i]?).getD .u else gt G t
 |[],i,G,t=>by rw[if_neg (by simp<;>omega)];rfl
 |x::l,i,G,t=>by
  unfold iA
  rw[jC l (i+1) (G.set i (some x)) t]
  by_cases h:i+1≤t∧t<i+1+l.length
  ·rw[if_pos h,if_pos (by simp only[List.length_cons];omega),show t - i=(t - (i+1))+1 by omega,List.getElem?_cons_succ]
  ·rw[if_neg h]
   unfold gt
   rw[Tr.get_set]
   by_cases e:t=i
   ·rw[if_pos e,if_pos (by simp only[List.length_cons];omega),e,Nat.sub_self];rfl
   ·rw[if_neg e,if_neg (by simp only[List.length_cons];omega)]
theorem xA {φ:bV} {ar:List EV} {vs:List Value} (h:RelVs φ ar vs):dz φ (gt (iA ar 0 .lf)) (o4 vs.toArray):=by
 intro t
 rw[jC]
 by_cases ht:t<ar.length
 ·rw[if_pos (by omega),Nat.sub_zero,qo ht]
  obtain ⟨v,hv,hr⟩:=h.get (qo ht)
  have:o4 vs.toArray t=v:=by unfold o4;simp[hv]
  rw[this];exact hr
 ·rw[if_neg (by omega)]
  unfold gt
  rw[Tr.get_lf];trivial
theorem lV {φ:bV} {I:aJ} {H:Hp} {nx:Nat} {w:World} {G:Tr EV} {ρ:bF} (hT:b8 P T) (hg:dz φ (gt G) ρ) (hR:cy I φ H nx F E w):∀(rs:List ResultVar) (l:List EV),lT T G H rs=some l →
  ∃vs,RelVs φ l vs∧(rs.mapM (m:=Sem) fun x=>match x with
   |.tmp t=>Pure.pure (ρ t)
   |.cell a t=>do loadVar t (←asAddr (ρ a))).run P w=.ok vs w
 |[],l,h=>by cases h;exact ⟨[],rfl,rfl⟩
 |.tmp t::r,l,h=>by
  unfold lT at h
  split at h
  ·rename_i l' hl
   cases h
   obtain ⟨vs,h1,h2⟩:=lV hT hg hR r l' hl
   refine ⟨ρ t::vs,⟨_,_,Z,hg t,h1⟩,?_⟩
   rw[List.mapM_cons]
   simp only[Sem.run_bind,Sem.run_pure,Result.andThen_ok,h2]
  ·cases h
 |.cell a t::r,l,h=>by
  unfold lT at h
  split at h
  ·rename_i b off l' hp hl
   split at h
   ·rename_i x hx
    cases h
    obtain ⟨vs,h1,h2⟩:=lV hT hg hR r l' hl
    have ha:=hg a
    rw[hp] at ha
    obtain ⟨v,h3,h4⟩:=mM hT hR hx ha
    obtain ⟨q,hq,he⟩:=ha
    refine ⟨v::vs,⟨_,_,Z,h4,h1⟩,?_⟩
    have h5:(loadVar t ⟨q.r,q.sh+off,none⟩).run P w=.ok v w:=by
     rw[he] at h3
     simpa [Instr.loadAt,Instr.sureAddr] using h3
    have h6:(asAddr (ρ a)).run P w=.ok ⟨q.r,q.sh+off,none⟩ w:=by rw[he];rfl
    rw[List.mapM_cons]
    simp only[Sem.run_bind,h6,Sem.run_pure,Result.andThen_ok,h5,h2]
   ·cases h
  ·cases h
theorem AO {N:p8} (hN:oV P E N) {f:Nat} {ar:List EV} {x:EV} (h:N f ar=some (.v x)) {φ:bV} {I:aJ} {H:Hp} {nx:Nat} {w:World} {vs:List Value} (hR:cy I φ H nx F E w) (hr:RelVs φ ar vs):Fn P f vs.toArray w (di φ I F E nx nx x H nx):=by
 obtain ⟨as',r,hA,h1,h2⟩:=hN.1 f ar x h
 obtain ⟨M,L,hn,hm,hrep,hS⟩:=hR.ex
 refine (hA ⟨I,fun _=>none⟩ (L++F) w vs (h1 φ vs hr _) ⟨⟨0,fun _ _=>Z⟩,[],Z,hS⟩).mono fun v w' ⟨J,y,O',hJ,hy,⟨_,L',hL',hS'⟩,he⟩=>?_
 subst he
 exact ⟨J.k,φ,hJ.1,.refl _,fun _ _ _=>rfl,Nat.le_refl _,h2 J v hy φ,hR.top,M,L,hn,hm,hrep.mono hJ.1 (.refl _),hS'.dropAll⟩
theorem xB {N:p8} (hN:oV P E N) {f:Nat} {ar:List EV} {l:List ByteArray} (h:N f ar=some (.ss l)) (hl:l.isEmpty=false) {φ:bV} {I:aJ} {H:Hp} {nx:Nat} {w:World} {vs:List Value} (hR:cy I φ H nx F E w) (hr:RelVs φ ar vs) :
  Fn P f vs.toArray w (di φ I F E nx nx (.sl nx 0 l.length 1 .un) (H.set nx (some (.kn (l.map EV.s)))) (nx+1)):=by
 obtain ⟨as',hA,h1⟩:=hN.2 f ar l h
 obtain ⟨L,hrest,hS⟩:=(hR.mono (Nat.le_succ nx)).freshN (hR.top nx (Nat.le_refl _))
 refine (hA ⟨I,fun _=>none⟩ (L++F) w vs (h1 φ vs hr _) ⟨⟨0,fun _ _=>Z⟩,[],Z,hS⟩).mono fun v w' ⟨J,y,O',hJ,hy,⟨_,L',hL',hS'⟩,he⟩=>?_
 subst he
 obtain ⟨a,n,cap,rfl,hn,hcap,_,hrr⟩:=hy
 rw[List.length_map] at hn
 subst hn
 obtain ⟨s0,l0,rfl⟩:∃s0 l0,l=s0::l0:=by
  cases l with
  |nil=>cases hl
  |cons s0 l0=>exact ⟨s0,l0,rfl⟩
 obtain ⟨b,off,_,rfl,_⟩:=hrr.get (j:=0) (r:=[AV.str s0]) rfl
 have hk:φ nx=none:=hR.top nx (Nat.le_refl _)
 have hat:∀(j:Nat) s,(s0::l0)[j]?=some s→uM J.k b (off+j) (.string s):=fun j s hj=>by
  obtain ⟨b2,off2,us,e,_,⟨u,us2,rfl,h3,h4⟩,h5⟩:=hrr.get (j:=j) (r:=[AV.str s]) (by rw[List.getElem?_map,hj];rfl)
  cases e
  have h3:u=.string s:=h3
  subst h3
  have:=h5 0 _ rfl
  simpa using this
 refine ⟨J.k,φ.put nx ⟨b,off,0⟩,hJ.1,qf hk _,fun j hj _=>gP φ _ (by omega),Nat.le_succ nx,⟨_,off,cap,yy _ _ _,rfl,hcap,fun _=>rfl,trivial⟩,
  qe (A:=[]) (hrest.mono hJ.1 (qf hk _)) ⟨⟨b,off,0⟩,(s0::l0).map Value.string,yy _ _ _,?_,fun u hu=>?_,fun j u hj=>?_,rfl⟩ hS'.dropAll (iv (nx:=nx+1) (fun j hj=>hR.top j (by omega)) (Nat.lt_succ_self nx) _)⟩
 ·clear hat hrr hl h hS' hS hrest hr
  generalize s0::l0=m
  induction m with
  |nil=>rfl
  |cons x m ih=>exact ⟨_,_,rfl,rfl,ih⟩
 ·obtain ⟨s,_,rfl⟩:=List.mem_map.1 hu;rfl
 ·rw[List.getElem?_map] at hj
  obtain ⟨s,hs,rfl⟩:=Option.map_eq_some_iff.1 hj
  exact hat j s hs
theorem nM {N:p8} (hN:oV P E N):cf P E (AN N):=fun f ar H nx x H' nx' h φ I F w vs hR hr=>by
 unfold AN at h
 split at h
 ·rename_i y hy
  cases h
  exact AO hN hy hR hr
 ·rename_i l hy
  cases hl:l.isEmpty with
  |true=>rw[hl] at h;cases h
  |false=>
   rw[hl] at h;cases h
   exact xB hN hy hl hR hr
 ·cases h
theorem kE (hm:P.follows .mixedOrders=true) (hT:b8 P T) {C:bL} (hC:cf P E C) (fuel:Nat):∀d,cf P E (vT P T C fuel d)
 |0=>fun f ar H nx x H' nx' h=>by cases h
 |d+1=>fun f ar H nx x H' nx' h φ I F w vs hR hr=>by
  unfold vT at h
  split at h
  ·rename_i r hy
   cases h
   exact hC _ _ _ _ _ _ _ hy φ I F w vs hR hr
  ·split at h
   ·rename_i fn h1
    split at h
    ·rename_i cd h2
     cases hb:(Nat.ble ar.length fn.ntmps&&dJ fn.ntmps cd&&p9 fn.name) with
     |false=>rw[hb] at h;cases h
     |true=>
      rw[hb] at h
      simp only[cond_true] at h
      simp only[qz] at hb
      have h3:fn.name≠"runtime.NumGoroutine" := fun e=>by
       have:=hb.2
       unfold p9 at this
       rw[e] at this
       simp at this
      refine Fn.intro h1 h2 h3 (by rw[List.size_toArray,hr.length];exact hb.1.1) ?_
      have fin:∀(s:ES),(match lT T s.G s.H fn.results.toList with
        |some l=>some (Eb l,s.H,s.nx)
        |none=>none)=some (x,H',nx')→∀ρ' w',eM φ I F E nx s.G s.H s.nx ρ' w'→∃v,jD fn.results ρ' P w'=.ok v w'∧di φ I F E nx nx x H' nx' v w':=fun s hs ρ' w' ⟨J,ψ,a,b,c,d',e',f'⟩=>by
       split at hs
       ·rename_i l hl
        cases hs
        obtain ⟨us,g1,g2⟩:=lV hT e' f' fn.results.toList l hl
        have g3:(fn.results.mapM (m:=Sem) fun x=>match x with
          |.tmp t=>Pure.pure (ρ' t)
          |.cell a t=>do loadVar t (←asAddr (ρ' a))).run P w'=.ok us.toArray w':=by
         rw[Array.mapM_eq_mapM_toList,Sem.run_map]
         rw[g2];rfl
        refine ⟨if h:us.toArray.size=1 then us.toArray[0] else Value.tuple us.toArray,?_,J,ψ,a,b,fun j hj _=>c j hj,d',?_,f'⟩
        ·unfold jD
         rw[Sem.run_bind]
         exact (congrArg (fun r=>Result.andThen r _) g3).trans rfl
        ·cases us with
         |nil=>
          have:l=[]:=by have:=g1.length;simpa using this.symm
          subst this
          exact ⟨[],rfl,rfl⟩
         |cons u us=>
          cases us with
          |nil=>
           obtain ⟨y,rfl⟩:∃y,l=[y]:=by
            have:=g1.length
            match l,this with
            |[y],_=>exact ⟨y,rfl⟩
           exact g1.r1
          |cons u2 us=>
           have hl2:=g1.length
           match l,hl2,g1 with
           |x1::x2::l',_,g1=>exact ⟨u::u2::us,by simp,g1⟩
       ·cases hs
      split at h
      ·cases h
      ·rename_i ex s hne hc
       refine vS hm hT (kE hm hT hC fuel d) fuel cd _ s ex hb.1.2 hc φ I _ w _ (xA hr) hR fun ρ' w' hp=>?_
       have:=fin s h ρ' w' hp
       cases ex with
       |nrm=>exact this
       |ret=>exact this
       |exit i=>exact (hne i rfl).elim
      ·cases h
    ·cases h
   ·cases h
def AP:TypeDesc→Bool
 |.struct fs=>fs.toList.all fun f=>!(f.name == "_")
 |_=>true
def B6:TypeDesc→Bool
 |.pointer _=>false
 |_=>true
def CZ (d:TypeDesc) (ms:Array Method) (nm:String):Option Nat:=
 match ms.find? (·.name == nm) with
 |some m=>match m.func with
  |some (f,false)=>bif m.path.isEmpty&&B6 d then some f else none
  |_=>none
 |none=>none
def C0 (ms:Array Method) (want:Array (String × TypeId)):Bool:=want.toList.all fun n=>ms.any fun m=>m.name == n.1&&m.sig == n.2
theorem AQ (ms:Array Method) (want:Array (String × TypeId)):(Instr.missingMethod want ms).isNone=C0 ms want:=by
 unfold Instr.missingMethod C0
 dsimp only
 cases hm:(want.toList.filter fun n=>!ms.any fun m=>m.name == n.1&&m.sig == n.2) with
 |nil=>
  have h:(want.toList.all fun n=>ms.any fun m=>m.name == n.1&&m.sig == n.2)=true:=by
   rw[List.all_eq_true]
   intro x hx
   have:=List.filter_eq_nil_iff.1 hm x hx
   simpa using this
  rw[h]
  rfl
 |cons x l=>
  have h:(want.toList.all fun n=>ms.any fun m=>m.name == n.1&&m.sig == n.2)=false:=by
   have hx:x∈want.toList.filter fun n=>!ms.any fun m=>m.name == n.1&&m.sig == n.2:=by rw[hm];exact .head _
   rw[List.mem_filter] at hx
   rw[List.all_eq_false]
   exact ⟨x,hx.1,by simpa using hx.2⟩
  rw[h]
  have hl:∀(l:List String),l≠[]→∃s,Instr.least l=some s:=fun l hl=>by
   cases l with
   |nil=>exact (hl rfl).elim
   |cons a l=>exact ⟨_,rfl⟩
  simp only[List.partition_eq_filter_filter]
  cases hc:x.1.contains '.' with
  |true=>
   obtain ⟨s,hs⟩:=hl ((List.filter (fun s:String=>s.contains '.') ((x::l).map (·.1))).map fun id=>(id.splitOn ".").getLastD id) (by
    intro q
    have q:=List.map_eq_nil_iff.1 q
    have:=List.filter_eq_nil_iff.1 q x.1 (by simp)
    exact this hc)
   rw[hs]
   cases Instr.least (List.filter (not∘fun s:String=>s.contains '.') ((x::l).map (·.1)))<;>rfl
  |false=>
   obtain ⟨s,hs⟩:=hl (List.filter (not∘fun s:String=>s.contains '.') ((x::l).map (·.1))) (by
    intro q
    have:=List.filter_eq_nil_iff.1 q x.1 (by simp)
    exact this (by simp only[Function.comp,hc];rfl))
   rw[hs]
   rfl
def xC (P:Program) (t:Nat):Option TI:=
 match P.underlying t,P.info? t with
 |some d,some f=>match f.zero with
  |some zv=>match lX (vE 5) zv.cells.toList,vE 6 zv with
   |some z,some v=>bif z.all EV.cell&&Nat.beq z.length f.size then some ⟨d,f.size,f.bytes,z,v,!(P.eqGuardType P.depth t),!(P.stoodInHeld t)&&AP d,CZ d f.methods,C0 f.methods⟩ else none
   |_,_=>none
  |none=>none
 |_,_=>none
theorem nN:b8 P (xC P):=fun t i h=>by
 unfold xC at h
 split at h
 ·rename_i d f hd hf
  split at h
  ·rename_i zv hz
   split at h
   ·rename_i z v h1 h2
    cases hb:(z.all EV.cell&&Nat.beq z.length f.size) with
    |false=>rw[hb] at h;cases h
    |true=>
     rw[hb] at h;cases h
     simp only[qz] at hb
     refine ⟨hd,⟨f,zv,hf,rfl,rfl,hz,fun φ=>by simpa using gr (φ:=φ) (g:=id) (ky 5) zv.cells.toList z h1,fun φ=>ky 6 zv v h2⟩,hb.1,Nat.eq_of_beq_eq_true hb.2,(fun h=>by simpa using h),fun h=>by
      simp only[qz] at h
      refine ⟨by simpa using h.1,fun fs e f hf=>?_⟩
      have h2:=h.2
      dsimp only at e
      subst e
      have h3:=List.all_eq_true.1 h2 f hf
      simpa using h3,fun nm g hg k x w=>?_,⟨f,hf,fun want=>AQ _ _⟩⟩
     have hg:CZ d f.methods nm=some g:=hg
     unfold CZ at hg
     split at hg
     ·rename_i m hm
      split at hg
      ·rename_i g' hfn
       cases hbb:(m.path.isEmpty&&B6 d) with
       |false=>rw[hbb] at hg;cases hg
       |true=>
        rw[hbb] at hg;cases hg
        simp only[qz] at hbb
        have hp:m.path.toList=[]:=by have:=hbb.1;simpa using this
        have hu:∀w,(underlying t).run P w=.ok d w:=fun w=>run_underlying hd w
        have hpr:∀w,(program:Sem Program).run P w=.ok P w:=fun _=>rfl
        have hti:∀w,(typeInfo t).run P w=.ok f w:=fun w=>by
         simp only[typeInfo,Sem.run_bind,hpr,Result.andThen_ok,hf]
         rfl
        have h2:=hbb.2
        simp only[method,Sem.run_bind,hti,Result.andThen_ok,hm,hp,follow,Sem.run_pure,hfn,receiverAt,hu]
        cases d<;>first|(cases h2;done)|rfl
      ·cases hg
     ·cases hg
   ·cases h
  ·cases h
 ·cases h
theorem oW (hm:P.follows .mixedOrders=true) {C:bL} (hC:cf P E C) {fuel d f:Nat} (h:(match vT P (xC P) C fuel d f [] .lf 0 with
  |some (.b true,_,_)=>true
  |_=>false)=true):aV P E f [] (.bool true):=fun I F w vs h1 h2=>by
 split at h
 ·rename_i H' nx' hx
  have h1:vs=[]:=h1
  subst h1
  obtain ⟨ht,L,hL,hS⟩:=h2
  have hL:L=[]:=hL
  subst hL
  have hR:cy I.k (fun _=>none) .lf 0 F E w:=⟨fun _ _=>rfl,[],[],List.nodup_nil,fun j o=>by simp[Tr.get_lf],rfl,hS⟩
  refine (kE hm nN hC fuel d f [] .lf 0 _ _ _ hx _ I.k F w [] hR Z).mono fun v w' ⟨J,ψ,a,b,c,d',e',f'⟩=>?_
  exact ⟨⟨J,I.h⟩,.bool true,[],⟨a,fun _ _ h=>h⟩,e',⟨ht,[],rfl,f'.sl⟩,rfl⟩
 ·cases h
end
end
section
open Go.Proofs Go.Lib Go.Shelf
theorem xD {P:Program} {w:World} {g:Nat} {t u:TypeId} {zero:Array Value} {k:IntKind} {ts:List TypeId} {i:Nat}
  (h:w.ShapedOpen P) (hg:g<P.globals.size)
  (h0:((begin P (fun _ _=>0) default).world.heap[g]?).bind Obj.row?=some (zero,t))
  (hb:P.buildable t=true) (hc:P.cellTypes P.depth t=some ts) (hi:i<zero.size) (ht:ts[i % ts.length]?=some u) (hu:P.underlying u=some (.int k)) :
  ∃m,w.cell? ⟨g,i,none⟩=some (.int k m):=by
 obtain ⟨cs,hh,hs,hr⟩:=h.1 g zero t hg h0
 obtain ⟨ts',hts,_,hall⟩:=hr hb
 rw[hc] at hts
 cases hts
 have h1:i<cs.size:=by omega
 obtain ⟨u',hu',hok⟩:=hall i cs[i] (by simp[h1])
 have:u'=u:=by rw[ht] at hu';exact (Option.some.inj hu').symm
 subst this
 have hcell:w.cell? ⟨g,i,none⟩=some cs[i]:=by simp[World.cell?,hh,h1]
 rw[hcell]
 unfold Cell.ok at hok
 rw[hu] at hok
 cases hv:cs[i]<;>rw[hv] at hok<;>simp at hok
 case int k' n=>exact ⟨n,by rw[hok.1]⟩
theorem three:∀u:Nat,u<512→100≤u→Lib.l10 (Lib.bitLen u)=2∧Lib.bitLen u≤64:=by decide +kernel
set_option maxHeartbeats 2000000 in
set_option maxRecDepth 100000 in
theorem AR {P:Program} {ρ:Ren} (L:LaysM.n284 P ρ) (u:Nat) (h1:100≤u) (h2:u<512) (w:World) (m:Int)
  (hcell:w.cell? ⟨(ρ.g 17),2,none⟩=some (.int .u64 m)) :
  Calls P (ρ.f 284) #[.int .u64 u] w fun e w'=>e=.returned (.int .i64 (2+if m≤(u:Int) then 1 else 0))∧w'=w:=by
 have mixed:=L.mixed
 have t53:=L.t53;have a53:=L.a53;have z53:=L.z53;have v53:=L.v53
 have t3:=L.t3;have a3:=L.a3;have z3:=L.z3;have v3:=L.v3
 have t212:=L.t212;have a212:=L.a212;have z212:=L.z212;have v212:=L.v212
 have t0:=L.t0;have a0:=L.a0;have z0:=L.z0;have v0:=L.v0
 have t4:=L.t4;have a4:=L.a4;have z4:=L.z4;have v4:=L.v4
 have e129:∀args w,(callFunc (ρ.f 129) args).run P w=.ok (.enter (ρ.f 129) args) w:=enters_of L.f129 (by kernel_rfl) rfl
 have e317:∀args w,(callFunc (ρ.f 317) args).run P w=.ok (.enter (ρ.f 317) args) w:=enters_of L.f317 (by kernel_rfl) rfl
 have e318:∀args w,(callFunc (ρ.f 318) args).run P w=.ok (.enter (ρ.f 318) args) w:=enters_of L.f318 (by kernel_rfl) rfl
 have hg:=L.m17
 obtain ⟨hq,hL⟩:=three u h2 h1
 have hto:((u:Int)).toNat=u:=by omega
 generalize hq':Lib.l10 (Lib.bitLen u)=q at hq
 subst hq
 have h20:(2:Nat)<20:=by omega
 go_enter L.f284,Body.n284_ntmps ρ
 go_wp2_with (first
  |(go_at_fn (ρ.f 129);refine (Any.bits_Len64 { L with } _ _ (by omega) (by omega)).mono ?_;rintro e w' ⟨rfl,rfl⟩)
  |(go_at_fn (ρ.f 317);refine (Any.internal_strconv_log10Pow2 { L with } _ (by first|exact hL|(rw[hto];exact hL)) _).mono ?_;rintro e w' ⟨rfl,rfl⟩)
  |(go_at_fn (ρ.f 318);refine (Any.internal_strconv_bool2_int { L with } _ _).mono ?_;rintro e w' ⟨rfl,rfl⟩))
 all_goals go_ret
 all_goals (
  refine ⟨?_,Z⟩
  first
   |rfl
   |(congr 2;split<;>simp_all<;>omega)
   |(congr 2;simp_all<;>omega))
end
end Go.Proofs.YtbconpmnckokoaaGreatDoor
