/- What an operation comes to that only gives, that looks, or that makes a block, over a heap told exactly. No conditions. -/
import Derived.Test.YtbconpmnckokoaaGreatDoorZe
import Derived.Test.YtbconpmnckokoaaGreatDoorZh
set_option linter.unusedVariables false
set_option linter.unusedSimpArgs false
set_option linter.unusedSectionVars false
namespace Go.Proofs.YtbconpmnckokoaaGreatDoor
section
inductive Tr (α:Type) where
 |lf
 |nd (v:Option α) (l r:Tr α)
 deriving Inhabited
section
variable {α:Type}
inductive Pa where
 |e
 |l (p:Pa)
 |r (p:Pa)
 deriving DecidableEq
noncomputable def io (n:Nat):Nat→Pa:=Nat.rec (motive:=fun _=>Nat→Pa) (fun _=>.e) (fun _ ih k=>Bool.rec (Bool.rec (.r (ih (Nat.sub (Nat.div k 2) 1))) (.l (ih (Nat.div k 2))) (Nat.beq (Nat.mod k 2) 1)) .e (Nat.beq k 0)) n
noncomputable def pP (k:Nat):Pa:=io (Nat.succ k) k
noncomputable def Tr.getP (p:Pa):Tr α→Option α:=Pa.rec (motive:=fun _=>Tr α→Option α) (fun t=>Tr.rec none (fun v _ _ _ _=>v) t) (fun _ ih t=>Tr.rec none (fun _ l _ _ _=>ih l) t) (fun _ ih t=>Tr.rec none (fun _ _ r _ _=>ih r) t) p
noncomputable def Tr.setP (p:Pa):Tr α→Option α→Tr α:=Pa.rec (motive:=fun _=>Tr α→Option α→Tr α) (fun t v=>Tr.rec (.nd v .lf .lf) (fun _ l r _ _=>.nd v l r) t) (fun _ ih t v=>Tr.rec (.nd none (ih .lf v) .lf) (fun u l r _ _=>.nd u (ih l v) r) t) (fun _ ih t v=>Tr.rec (.nd none .lf (ih .lf v)) (fun u l r _ _=>.nd u l (ih r v)) t) p
noncomputable def Tr.get (t:Tr α) (k:Nat):Option α:=Tr.getP (pP k) t
noncomputable def Tr.set (t:Tr α) (k:Nat) (v:Option α):Tr α:=Tr.setP (pP k) t v
theorem rn {β:Type} (a b:Nat) (x y:β):(bif Nat.beq a b then x else y)=if a=b then x else y:=by
 by_cases h:a=b
 ·rw[if_pos h,h,show Nat.beq b b=true from Nat.beq_refl b];rfl
 ·rw[if_neg h,show Nat.beq a b=false from by cases e:Nat.beq a b<;>simp_all];rfl
def Pa.val:Pa→Nat
 |.e=>0
 |.l p=>2*p.val+1
 |.r p=>2*p.val+2
theorem iK:∀(n k:Nat),k<n→(io n k).val=k
 |0,_,h=>absurd h (Nat.not_lt_zero _)
 |n+1,k,h=>by
  have e:io (n+1) k=bif Nat.beq k 0 then Pa.e else bif Nat.beq (k % 2) 1 then Pa.l (io n (k / 2)) else Pa.r (io n (k / 2 - 1)):=by
   show (Bool.rec (Bool.rec (Pa.r (io n (k / 2 - 1))) (Pa.l (io n (k / 2))) (Nat.beq (k % 2) 1)) Pa.e (Nat.beq k 0):Pa)=_
   cases Nat.beq k 0<;>cases Nat.beq (k % 2) 1<;>rfl
  rw[e,rn,rn]
  by_cases h0:k=0
  ·rw[if_pos h0,h0];rfl
  ·rw[if_neg h0]
   by_cases h1:k % 2=1
   ·rw[if_pos h1]
    show 2*(io n (k / 2)).val+1=k
    rw[iK n _ (by omega)];omega
   ·rw[if_neg h1]
    show 2*(io n (k / 2 - 1)).val+2=k
    rw[iK n _ (by omega)];omega
theorem lF (k:Nat):(pP k).val=k:=iK (k+1) k (Nat.lt_succ_self k)
theorem Tr.getP_lf:∀p:Pa,Tr.getP p (Tr.lf:Tr α)=none
 |.e=>rfl
 |.l _=>rfl
 |.r _=>rfl
theorem Tr.get_lf (k:Nat):(Tr.lf:Tr α).get k=none:=Tr.getP_lf _
theorem Tr.getP_set:∀(p q:Pa) (t:Tr α) (v:Option α),Tr.getP q (Tr.setP p t v)=if q=p then v else Tr.getP q t
 |.e,.e,t,v=>by rw[if_pos rfl];cases t<;>rfl
 |.e,.l q,t,v=>by
  rw[if_neg (by simp)]
  cases t with
  |lf=>exact Tr.getP_lf q
  |nd=>rfl
 |.e,.r q,t,v=>by
  rw[if_neg (by simp)]
  cases t with
  |lf=>exact Tr.getP_lf q
  |nd=>rfl
 |.l p,.e,t,v=>by rw[if_neg (by simp)];cases t<;>rfl
 |.r p,.e,t,v=>by rw[if_neg (by simp)];cases t<;>rfl
 |.l p,.r q,t,v=>by
  rw[if_neg (by simp)]
  cases t with
  |lf=>exact Tr.getP_lf q
  |nd=>rfl
 |.r p,.l q,t,v=>by
  rw[if_neg (by simp)]
  cases t with
  |lf=>exact Tr.getP_lf q
  |nd=>rfl
 |.l p,.l q,t,v=>by
  have e:(Pa.l q=Pa.l p)=(q=p):=by simp
  simp only[e]
  cases t with
  |lf=>exact (Tr.getP_set p q .lf v).trans (by rw[Tr.getP_lf];rfl)
  |nd u l r=>exact Tr.getP_set p q l v
 |.r p,.r q,t,v=>by
  have e:(Pa.r q=Pa.r p)=(q=p):=by simp
  simp only[e]
  cases t with
  |lf=>exact (Tr.getP_set p q .lf v).trans (by rw[Tr.getP_lf];rfl)
  |nd u l r=>exact Tr.getP_set p q r v
theorem Tr.get_set (t:Tr α) (k:Nat) (v:Option α) (j:Nat):(t.set k v).get j=if j=k then v else t.get j:=by
 unfold Tr.get Tr.set
 rw[Tr.getP_set]
 by_cases h:j=k
 ·rw[if_pos h,if_pos (by rw[h])]
 ·rw[if_neg h,if_neg fun e=>h (by rw[←lF j,←lF k,e])]
end
inductive Cp where
 |ex (m:Nat)
 |en
 |un
inductive EV where
 |u
 |b (x:Bool)
 |i (k:IntKind) (n:Int)
 |s (x:ByteArray)
 |np
 |p (b off:Nat)
 |ns
 |sl (b off n k:Nat) (c:Cp)
 |ag (l:List EV)
 |tu (l:List EV)
 |fn (f:Nat) (a c:List EV)
 |nf
 |ifc (t:Nat) (v:EV)
 |ni
 |m (b:Nat)
 |nm
 |vr (b:Nat)
 |us (lo hi:Nat)
instance:Inhabited EV:=⟨.u⟩
structure rp where
 r:Nat
 sh:Nat
 κ:Nat
abbrev bV:=Nat→Option rp
def rp.num (q:rp):Int:=(q.r:Int) - (q.sh:Int)
def bV.le (φ ψ:bV):Prop:=∀b q,φ b=some q→ψ b=some q
theorem bV.le.refl (φ:bV):φ.le φ:=fun _ _ h=>h
theorem bV.le.trans {φ ψ χ:bV} (h:φ.le ψ) (k:ψ.le χ):φ.le χ:=fun b q e=>k b q (h b q e)
def bV.put (φ:bV) (b:Nat) (q:rp):bV:=fun x=>if x=b then some q else φ x
theorem bV.put_same (φ:bV) (b:Nat) (q:rp):φ.put b q b=some q:=if_pos rfl
theorem bV.le_put {φ:bV} {b:Nat} (h:φ b=none) (q:rp):φ.le (φ.put b q):=fun x q' e=>by
 unfold bV.put;split
 ·rename_i e';subst e';rw[h] at e;cases e
 ·exact e
def DD (q:rp) (off k:Nat):Cp→Nat→Prop
 |.ex m,cap=>cap=m
 |.en,cap=>q.sh+off+cap*k=q.κ
 |.un,_=>True
mutual
def aQ (φ:bV):EV→Value→Prop
 |.u,_=>True
 |.b x,v=>v=.bool x
 |.i k n,v=>v=.int k n
 |.s x,v=>v=.string x
 |.np,v=>v=.pointer none
 |.p b off,v=>∃q,φ b=some q∧v=.pointer (some ⟨q.r,q.sh+off,none⟩)
 |.ns,v=>v=.slice none 0 0
 |.sl b off n k c,v=>∃q o cap,φ b=some q∧v=.slice (some ⟨q.r,o,none⟩) n cap∧n≤cap∧(cap≠0→o=q.sh+off)∧DD q off k c cap
 |.ag l,v=>∃vs:List Value,v=.agg vs.toArray∧RelVs φ l vs
 |.tu l,v=>∃vs:List Value,v=.tuple vs.toArray∧RelVs φ l vs
 |.fn f a c,v=>∃vs us:List Value,v=.func (.func f) vs.toArray us.toArray∧RelVs φ a vs∧RelVs φ c us
 |.nf,v=>v=.nilFunc
 |.ifc t x,v=>∃u,v=.iface t u∧aQ φ x u
 |.ni,v=>v=.nilIface
 |.m b,v=>∃q,φ b=some q∧v=.map (some q.r)
 |.nm,v=>v=.map none
 |.vr b,v=>∃q,φ b=some q∧v=.int .i64 q.num
 |.us lo hi,v=>∃s:ByteArray,v=.string s∧lo≤s.data.toList.length∧s.data.toList.length≤hi
def RelVs (φ:bV):List EV→List Value→Prop
 |[],vs=>vs=[]
 |x::xs,vs=>∃v us,vs=v::us∧aQ φ x v∧RelVs φ xs us
end
mutual
theorem aQ.mono {φ ψ:bV} (h:φ.le ψ):∀(x:EV) (v:Value),aQ φ x v→aQ ψ x v
 |.u,_,_=>trivial
 |.b _,_,e=>e
 |.i _ _,_,e=>e
 |.s _,_,e=>e
 |.np,_,e=>e
 |.p _ _,_,⟨q,a,e⟩=>⟨q,h _ _ a,e⟩
 |.ns,_,e=>e
 |.sl _ _ _ _ _,_,⟨q,o,cap,a,e⟩=>⟨q,o,cap,h _ _ a,e⟩
 |.ag l,_,⟨vs,e,k⟩=>⟨vs,e,RelVs.mono h l vs k⟩
 |.tu l,_,⟨vs,e,k⟩=>⟨vs,e,RelVs.mono h l vs k⟩
 |.fn _ a c,_,⟨vs,us,e,k1,k2⟩=>⟨vs,us,e,RelVs.mono h a vs k1,RelVs.mono h c us k2⟩
 |.nf,_,e=>e
 |.ifc _ x,_,⟨u,e,k⟩=>⟨u,e,aQ.mono h x u k⟩
 |.ni,_,e=>e
 |.m _,_,⟨q,a,e⟩=>⟨q,h _ _ a,e⟩
 |.nm,_,e=>e
 |.vr _,_,⟨q,a,e⟩=>⟨q,h _ _ a,e⟩
 |.us _ _,_,e=>e
theorem RelVs.mono {φ ψ:bV} (h:φ.le ψ):∀(x:List EV) (v:List Value),RelVs φ x v→RelVs ψ x v
 |[],_,e=>e
 |x::xs,_,⟨v,us,e,h1,h2⟩=>⟨v,us,e,aQ.mono h x v h1,RelVs.mono h xs us h2⟩
end
section
variable {φ ψ:bV}
theorem RelVs.length:∀{xs:List EV} {vs:List Value},RelVs φ xs vs→vs.length=xs.length
 |[],_,e=>by simp[RelVs] at e;simp[e]
 |x::xs,_,⟨v,us,e,_,h2⟩=>by subst e;simp[RelVs.length h2]
theorem RelVs.get:∀{xs:List EV} {vs:List Value},RelVs φ xs vs→∀{j:Nat} {x:EV},xs[j]?=some x→∃v,vs[j]?=some v∧aQ φ x v
 |[],_,_,j,x,hj=>by simp at hj
 |y::ys,_,⟨v,us,e,h1,h2⟩,j,x,hj=>by
  subst e
  cases j with
  |zero=>simp at hj;subst hj;exact ⟨v,rfl,h1⟩
  |succ j=>simp at hj;simpa using RelVs.get h2 hj
theorem RelVs.take:∀{xs:List EV} {vs:List Value},RelVs φ xs vs→∀n,RelVs φ (xs.take n) (vs.take n)
 |[],_,e,n=>by simp[RelVs] at e;simp[e,RelVs]
 |y::ys,_,⟨v,us,e,h1,h2⟩,n=>by
  subst e
  cases n with
  |zero=>simp[RelVs]
  |succ n=>exact ⟨v,us.take n,by simp,h1,RelVs.take h2 n⟩
theorem RelVs.drop:∀{xs:List EV} {vs:List Value},RelVs φ xs vs→∀n,RelVs φ (xs.drop n) (vs.drop n)
 |[],_,e,n=>by simp[RelVs] at e;simp[e,RelVs]
 |y::ys,_,⟨v,us,e,h1,h2⟩,n=>by
  subst e
  cases n with
  |zero=>exact ⟨v,us,rfl,h1,h2⟩
  |succ n=>simpa using RelVs.drop h2 n
theorem RelVs.append:∀{xs ys:List EV} {vs us:List Value},RelVs φ xs vs→RelVs φ ys us→RelVs φ (xs++ys) (vs++us)
 |[],_,_,_,e,h=>by simp[RelVs] at e;simpa [e] using h
 |y::ys,_,_,_,⟨v,us,e,h1,h2⟩,h=>by subst e;exact ⟨v,_,rfl,h1,RelVs.append h2 h⟩
theorem RelVs.one {x:EV} {v:Value} (h:aQ φ x v):RelVs φ [x] [v]:=⟨v,[],rfl,h,rfl⟩
def EV.cell:EV→Bool
 |.u | .ag _ | .tu _=>false
 |_=>true
theorem EV.cell_rel {x:EV} {v:Value} (h:aQ φ x v) (hc:x.cell=true):v.oneCell'=true:=by
 cases x<;>simp only[aQ,EV.cell] at h hc
 all_goals first
  |(cases hc;done)
  |(subst h;rfl)
  |(obtain ⟨_,_,_,_,e,_⟩:=h;subst e;rfl)
  |(obtain ⟨_,_,e,_⟩:=h;subst e;rfl)
  |(obtain ⟨_,e,_⟩:=h;subst e;rfl)
  |(obtain ⟨_,_,e⟩:=h;subst e;rfl)
theorem EV.cells_rel {xs:List EV} {vs:List Value} (h:RelVs φ xs vs) (hc:xs.all EV.cell=true):∀u∈vs,u.oneCell'=true:=by
 intro u hu
 obtain ⟨j,hj⟩:=List.getElem?_of_mem hu
 have hlt:=(List.getElem?_eq_some_iff.1 hj).1
 rw[h.length] at hlt
 obtain ⟨v,hv,hr⟩:=h.get (qo hlt)
 rw[hj] at hv;cases hv
 exact EV.cell_rel hr (List.all_eq_true.1 hc _ (qs hlt))
def EV.cs:EV→List EV
 |.ag l=>l
 |x=>[x]
def EV.sto:EV→Bool
 |.u | .tu _=>false
 |_=>true
theorem EV.cs_rel {x:EV} {v:Value} (h:aQ φ x v) (hs:x.sto=true):RelVs φ x.cs v.cells.toList:=by
 cases x<;>simp only[EV.sto] at hs
 all_goals first
  |(cases hs;done)
  |(obtain ⟨vs,rfl,h2⟩:=h;simpa [EV.cs,Value.cells] using h2)
  |skip
 all_goals (
  have hc:=EV.cell_rel h rfl
  have hv:v.cells=#[v]:=by cases v<;>first|rfl|(simp[Value.oneCell'] at hc)
  rw[hv];exact RelVs.one h)
end
inductive VO where
 |cells (ex:Bool) (cs:List EV)
 |kn (cs:List EV)
 |it (s:ByteArray) (p:Nat)
 |mp (es:List (EV × EV))
abbrev Hp:=Tr VO
def b7 (φ:bV):List (EV × EV)→List MapEntry→Prop
 |[],es=>es=[]
 |x::xs,es=>∃e r,es=e::r∧aQ φ x.1 e.key∧aQ φ x.2 e.val∧b7 φ xs r
theorem b7.mono {φ ψ:bV} (h:φ.le ψ):∀{x:List (EV × EV)} {v:List MapEntry},b7 φ x v→b7 ψ x v
 |[],_,e=>e
 |_::_,_,⟨e,r,a,b,c,d⟩=>⟨e,r,a,b.mono h,c.mono h,b7.mono h d⟩
def jT (ms:List MapEntry):Prop:=∀(j:Nat) (e:MapEntry),ms[j]?=some e→e.born=j
def eG (I:aJ) (φ:bV) (k:Nat) (o:VO) (A:List (Nat × Obj)):Prop:=
 match o with
 |.cells ex cs=>∃q T vs junk,φ k=some q∧q.sh=0∧RelVs φ cs vs∧(∀u∈vs++junk,u.oneCell'=true)∧(vs++junk).length=q.κ∧(ex=true→junk=[])∧A=[(q.r,.cells (vs++junk).toArray T (0,0))]
 |.kn cs=>∃q vs,φ k=some q∧RelVs φ cs vs∧(∀u∈vs,u.oneCell'=true)∧(∀(j:Nat) u,vs[j]?=some u→uM I q.r (q.sh+j) u)∧A=[]
 |.it s p=>∃q,φ k=some q∧q.sh=0∧A=[(q.r,.stringIter s p)]
 |.mp es=>∃q ms,φ k=some q∧(b7 φ es ms∧jT ms)∧A=[(q.r,.map ms.toArray ms.length)]
theorem eG.mono {I J:aJ} {φ ψ:bV} (hI:I.le J) (h:φ.le ψ) {k:Nat} {o:VO} {A:List (Nat × Obj)} (hb:eG I φ k o A):eG J ψ k o A:=by
 cases o<;>simp only[eG] at *
 ·obtain ⟨q,T,vs,junk,h1,h2,h3,h4⟩:=hb;exact ⟨q,T,vs,junk,h _ _ h1,h2,h3.mono h,h4⟩
 ·obtain ⟨q,vs,h1,h2,h3,h4,h5⟩:=hb;exact ⟨q,vs,h _ _ h1,h2.mono h,h3,fun j u e=>(h4 j u e).mono hI,h5⟩
 ·obtain ⟨q,h1,h2⟩:=hb;exact ⟨q,h _ _ h1,h2⟩
 ·obtain ⟨q,ms,h1,h2,h3⟩:=hb;exact ⟨q,ms,h _ _ h1,⟨h2.1.mono h,h2.2⟩,h3⟩
theorem eG.phi {I:aJ} {φ:bV} {k:Nat} {o:VO} {A:List (Nat × Obj)} (hb:eG I φ k o A):∃q,φ k=some q:=by
 cases o<;>simp only[eG] at hb
 ·obtain ⟨q,T,vs,junk,h1,_⟩:=hb;exact ⟨q,h1⟩
 ·obtain ⟨q,vs,h1,_⟩:=hb;exact ⟨q,h1⟩
 ·obtain ⟨q,h1,_⟩:=hb;exact ⟨q,h1⟩
 ·obtain ⟨q,ms,h1,_⟩:=hb;exact ⟨q,h1⟩
def eH (I:aJ) (φ:bV):List (Nat × VO)→List (Nat × Obj)→Prop
 |[],L=>L=[]
 |x::xs,L=>∃A B,L=A++B∧eG I φ x.1 x.2 A∧eH I φ xs B
theorem eH.mono {I J:aJ} {φ ψ:bV} (hI:I.le J) (h:φ.le ψ):∀{M:List (Nat × VO)} {L:List (Nat × Obj)},eH I φ M L→eH J ψ M L
 |[],_,e=>e
 |_::_,_,⟨A,B,e,h1,h2⟩=>⟨A,B,e,h1.mono hI h,eH.mono hI h h2⟩
theorem eH.perm {I:aJ} {φ:bV} {M M':List (Nat × VO)} (h:M.Perm M'):∀{L},eH I φ M L→∃L',eH I φ M' L'∧L.Perm L':=by
 induction h with
 |nil=>exact fun h=>⟨_,h,.refl _⟩
 |cons x _ ih=>
  rintro L ⟨A,B,rfl,h1,h2⟩
  obtain ⟨B',h3,h4⟩:=ih h2
  exact ⟨A++B',⟨A,B',rfl,h1,h3⟩,h4.append_left A⟩
 |swap x y _=>
  rintro L ⟨A,B,rfl,h1,C,D,rfl,h2,h3⟩
  exact ⟨C++(A++D),⟨C,A++D,rfl,h2,A,D,rfl,h1,h3⟩,by
   rw[←qq,←qq]
   exact List.perm_append_comm.append_right D⟩
 |trans _ _ ih1 ih2=>
  intro L h
  obtain ⟨L1,h1,p1⟩:=ih1 h
  obtain ⟨L2,h2,p2⟩:=ih2 h1
  exact ⟨L2,h2,p1.trans p2⟩
theorem eH.phi {I:aJ} {φ:bV}:∀{M:List (Nat × VO)} {L:List (Nat × Obj)},eH I φ M L→∀x∈M,∃q,φ x.1=some q
 |_::_,_,⟨_,_,_,h1,h2⟩,x,hx=>by
  rcases List.mem_cons.1 hx with rfl|hx
  ·exact h1.phi
  ·exact eH.phi h2 x hx
def mf (I:aJ) (φ:bV) (H:Hp) (k:Nat) (L:List (Nat × Obj)):Prop:=
 ∃M,(M.map (·.1)).Nodup∧(∀j o,(j,o)∈M↔j≠k∧H.get j=some o)∧eH I φ M L
structure cy (I:aJ) (φ:bV) (H:Hp) (nx:Nat) (F:List (Nat × Obj)) (E w:World):Prop where
 top:∀j,nx≤j→φ j=none
 ex:∃M L,(M.map (·.1)).Nodup∧(∀j o,(j,o)∈M↔H.get j=some o)∧eH I φ M L∧SL I (L++F) E w
section
variable {I J:aJ} {φ ψ:bV} {H:Hp} {nx:Nat} {F:List (Nat × Obj)} {E w:World} {k:Nat} {o:VO} {L A:List (Nat × Obj)}
theorem mf.mono (hI:I.le J) (h:φ.le ψ) (hr:mf I φ H k L):mf J ψ H k L:=let ⟨M,a,b,c⟩:=hr;⟨M,a,b,c.mono hI h⟩
theorem cy.pick (h:cy I φ H nx F E w) (hk:H.get k=some o):∃A L,eG I φ k o A∧mf I φ H k L∧SL I (A++(L++F)) E w:=by
 obtain ⟨M,L,hn,hm,hr,hS⟩:=h.ex
 have hmem:=(hm k o).2 hk
 obtain ⟨M1,M2,rfl⟩:=List.append_of_mem hmem
 obtain ⟨L',hr',hp⟩:=hr.perm (M':=(k,o)::(M1++M2)) List.perm_middle
 obtain ⟨A,B,rfl,h1,h2⟩:=hr'
 have hn2:(((k,o)::(M1++M2)).map (·.1)).Nodup:=((List.perm_middle (a:=(k,o)) (l₁:=M1) (l₂:=M2)).map (·.1)).nodup_iff.1 hn
 simp only[List.map_cons,List.nodup_cons] at hn2
 refine ⟨A,B,h1,⟨M1++M2,hn2.2,fun j o'=>?_,h2⟩,hS.perm ?_⟩
 ·rw[←hm j o']
  constructor
  ·intro hj
   refine ⟨fun e=>hn2.1 (List.mem_map.2 ⟨(j,o'),hj,e⟩),?_⟩
   rw[(List.perm_middle (a:=(k,o)) (l₁:=M1) (l₂:=M2)).mem_iff]
   exact List.mem_cons_of_mem _ hj
  ·rintro ⟨hne,hj⟩
   rw[(List.perm_middle (a:=(k,o)) (l₁:=M1) (l₂:=M2)).mem_iff] at hj
   rcases List.mem_cons.1 hj with e|hj
   ·cases e;exact absurd rfl hne
   ·exact hj
 ·rw[←qq];exact (hp.append_right F).symm
theorem cy.close (hr:mf I φ H k L) (hb:eG I φ k o A) (hS:SL I (A++(L++F)) E w) (ht:∀j,nx≤j→φ j=none):cy I φ (H.set k (some o)) nx F E w:=by
 obtain ⟨M,hn,hm,hr⟩:=hr
 refine ⟨ht,(k,o)::M,A++L,?_,fun j o'=>?_,⟨A,L,Z,hb,hr⟩,by rw[qq];exact hS⟩
 ·simp only[List.map_cons,List.nodup_cons]
  refine ⟨fun hk=>?_,hn⟩
  obtain ⟨x,hx,e⟩:=List.mem_map.1 hk
  exact ((hm x.1 x.2).1 hx).1 e
 ·rw[Tr.get_set,List.mem_cons,hm j o']
  by_cases e:j=k
  ·rw[if_pos e];subst e;simp[eq_comm]
  ·rw[if_neg e];simp[e]
theorem cy.gone (hr:mf I φ H k L) (hS:SL I (L++F) E w) (ht:∀j,nx≤j→φ j=none):cy I φ (H.set k none) nx F E w:=by
 obtain ⟨M,hn,hm,hr⟩:=hr
 refine ⟨ht,M,L,hn,fun j o'=>?_,hr,hS⟩
 rw[Tr.get_set,hm j o']
 by_cases e:j=k
 ·rw[if_pos e];simp[e]
 ·rw[if_neg e];simp[e]
theorem cy.mono (h:cy I φ H nx F E w) {n':Nat} (hn:nx≤n'):cy I φ H n' F E w:=⟨fun j hj=>h.top j (Nat.le_trans hn hj),h.ex⟩
theorem cy.drew (h:cy I φ H nx F E w):cy I φ H nx F E w.drew:=let ⟨M,L,a,b,c,d⟩:=h.ex;⟨h.top,M,L,a,b,c,d.drew⟩
theorem cy.sl (h:cy I φ H nx F E w):SL I F E w:=let ⟨_,_,_,_,_,d⟩:=h.ex;d.dropAll
def VO.cs?:VO→Option (List EV)
 |.cells _ cs=>some cs
 |.kn cs=>some cs
 |_=>none
theorem cy.read (h:cy I φ H nx F E w) (hk:H.get k=some o) {cs:List EV} (hc:o.cs?=some cs) {q:rp} (hq:φ k=some q) :
  ∃vs,RelVs φ cs vs∧(∀u∈vs,u.oneCell'=true)∧∀(j:Nat) v,vs[j]?=some v→w.cell? ⟨q.r,q.sh+j,none⟩=some v:=by
 obtain ⟨A,L,hb,_,hS⟩:=h.pick hk
 cases o<;>simp only[VO.cs?] at hc
 ·cases hc
  obtain ⟨q',T,vs,junk,h1,h2,h3,h4,h5,h6,rfl⟩:=hb
  rw[hq] at h1;cases h1
  refine ⟨vs,h3,fun u hu=>h4 u (List.mem_append_left _ hu),fun j v hj=>?_⟩
  rw[SL.cell_own (c:=(vs++junk).toArray) (T:=T) (f:=(0,0)) (O:=L++F) hS,h2,Nat.zero_add,List.getElem?_toArray,List.getElem?_append_left (List.getElem?_eq_some_iff.1 hj).1]
  exact hj
 ·cases hc
  obtain ⟨q',vs,h1,h2,h3,h4,rfl⟩:=hb
  rw[hq] at h1;cases h1
  exact ⟨vs,h2,h3,fun j v hj=>hS.at_ ((h4 j v hj).at_ _)⟩
 ·cases hc
 ·cases hc
end
def dz (φ:bV) (g:Nat→EV) (ρ:bF):Prop:=∀t,aQ φ (g t) (ρ t)
theorem dz.mono {φ ψ:bV} (h:φ.le ψ) {g:Nat→EV} {ρ:bF} (hr:dz φ g ρ):dz ψ g ρ:=fun t=>(hr t).mono h
end
section
structure TI where
 d:TypeDesc
 size:Nat
 bytes:Nat
 z:List EV
 v:EV
 g:Bool
 q:Bool
 ms:String→Option Nat
 mi:Array (String × TypeId)→Bool
def w8:TypeDesc→Bool
 |.struct _=>true
 |.array _ _=>true
 |_=>false
structure nu (P:Program) (t:TypeId) (i:TI):Prop where
 und:P.underlying t=some i.d
 inf:∃f zv,P.info? t=some f∧f.size=i.size∧f.bytes=i.bytes∧f.zero=some zv∧(∀φ,RelVs φ i.z zv.cells.toList)∧∀φ,aQ φ i.v zv
 z1:i.z.all EV.cell=true
 zl:i.z.length=i.size
 gd:i.g=true→P.eqGuardType P.depth t=false
 qd:i.q=true→P.stoodInHeld t=false∧∀fs,i.d=.struct fs→∀f∈fs.toList,f.name≠"_"
 mt:∀nm f,i.ms nm=some f→∀(k:Nat) (v:Value) (w:World),(method (k+1) t v nm).run P w=.ok (f,v) w
 md:∃f,P.info? t=some f∧∀want,(Instr.missingMethod want f.methods).isNone=i.mi want
abbrev TT:=Nat→Option TI
def b8 (P:Program) (T:TT):Prop:=∀t i,T t=some i→nu P t i
section
variable {P:Program} {t:TypeId} {i:TI} (h:nu P t i)
include h
theorem nu.sz (w:World):(sizeOf t).run P w=.ok i.size w:=by
 obtain ⟨f,zv,h1,h2,_⟩:=h.inf
 simp[sizeOf,typeInfo,h1,h2]
theorem nu.agg (w:World):(isAgg t).run P w=.ok (w8 i.d) w:=by
 unfold isAgg
 rw[Sem.run_bind,run_underlying h.und]
 cases i.d<;>rfl
theorem nu.zero:∃zv,(∀w,(zeroValue t).run P w=.ok zv w)∧(∀φ,RelVs φ i.z zv.cells.toList)∧zv.cells.size=i.size:=by
 obtain ⟨f,zv,h1,h2,h3,h4,h5⟩:=h.inf
 refine ⟨zv,fun w=>by simp[zeroValue,typeInfo,h1,h4],h5.1,?_⟩
 have:=(h5.1 (fun _=>none)).length
 rw[h.zl] at this
 simpa using this
theorem nu.zeroV:∃zv,(∀w,(zeroValue t).run P w=.ok zv w)∧∀φ,aQ φ i.v zv:=by
 obtain ⟨f,zv,h1,h2,h3,h4,h5⟩:=h.inf
 exact ⟨zv,fun w=>by simp[zeroValue,typeInfo,h1,h4],h5.2⟩
end
section
variable {φ:bV}
theorem RelVs.r1 {x:EV} {a:Value} (h:RelVs φ [x] [a]):aQ φ x a:=by
 obtain ⟨v,us,e,h1,h2⟩:=h;cases e;exact h1
end
def mh (a b:ByteArray):Bool:=beqL a.data.toList b.data.toList
where
 beqL:List UInt8→List UInt8→Bool
  |[],[]=>true
  |x::l,y::m=>Nat.beq x.toNat y.toNat&&beqL l m
  |_,_=>false
theorem rt:∀(a b:List UInt8),mh.beqL a b=decide (a=b)
 |[],[]=>rfl
 |[],_::_=>rfl
 |_::_,[]=>rfl
 |x::l,y::m=>by
  unfold mh.beqL
  rw[rt l m]
  by_cases h:x=y
  ·subst h
   rw[show Nat.beq x.toNat x.toNat=true from Nat.beq_refl _]
   by_cases h2:l=m<;>simp[h2]
  ·have:Nat.beq x.toNat y.toNat=false:=by
    cases e:Nat.beq x.toNat y.toNat with
    |false=>rfl
    |true=>exact absurd (UInt8.toNat_inj.1 (Nat.eq_of_beq_eq_true e)) h
   rw[this];simp[h]
theorem fD (a b:ByteArray):mh a b=decide (a=b):=by
 unfold mh
 rw[rt]
 rw[decide_eq_decide]
 constructor
 ·intro h;cases a;cases b;simp only[ByteArray.mk.injEq];exact Array.toList_inj.1 h
 ·intro h;rw[h]
noncomputable def w9 (op:BinOp) (k:IntKind) (a b:Int):Option EV:=
 match op with
 |.add=>some (.i k (k.wrap (a+b)))
 |.sub=>some (.i k (k.wrap (a - b)))
 |.mul=>some (.i k (k.wrap (a*b)))
 |.quo=>if b=0 then none else some (.i k (k.wrap (a.tdiv b)))
 |.rem=>if b=0 then none else some (.i k (a.tmod b))
 |.and=>some (.i k (k.wrap (BitVec.ofInt k.bits a &&& BitVec.ofInt k.bits b).toNat))
 |.or=>some (.i k (k.wrap (BitVec.ofInt k.bits a ||| BitVec.ofInt k.bits b).toNat))
 |.xor=>some (.i k (k.wrap (BitVec.ofInt k.bits a ^^^ BitVec.ofInt k.bits b).toNat))
 |.andNot=>some (.i k (k.wrap (BitVec.ofInt k.bits a &&& ~~~BitVec.ofInt k.bits b).toNat))
 |.eql=>some (.b (a == b))
 |.neq=>some (.b (a != b))
 |.lss=>some (.b (decide (a<b)))
 |.leq=>some (.b (decide (a≤b)))
 |.gtr=>some (.b (decide (b<a)))
 |.geq=>some (.b (decide (b≤a)))
 |.shl | .shr=>none
noncomputable def Ay (op:BinOp) (k:IntKind) (a b:Int):Option EV:=
 if b<0 then none else
 match op with
 |.shl=>some (.i k (k.wrap (a*2 ^ min b.toNat k.bits)))
 |.shr=>some (.i k (a.fdiv (2 ^ min b.toNat k.bits)))
 |_=>none
noncomputable def xa (op:BinOp) (a b:ByteArray):Option EV:=
 match op with
 |.eql=>some (.b (mh a b))
 |.neq=>some (.b (!mh a b))
 |.add=>if Nat.ble (a.data.toList.length+b.data.toList.length) 1000000 then some (.s ⟨(a.data.toList++b.data.toList).toArray⟩) else none
 |_=>none
noncomputable def mL (d:TypeDesc) (x y:EV):Option Bool:=
 match d,x,y with
 |.pointer _,.np,.np=>some true
 |.pointer _,.p _ _,.np=>some false
 |.slice _,.ns,.ns=>some true
 |.slice _,.sl _ _ _ _ _,.ns=>some false
 |.map _ _,.nm,.nm=>some true
 |.map _ _,.m _,.nm=>some false
 |_,_,_=>none
noncomputable def ru (T:TT) (op:BinOp) (t:TypeId) (o:Operand) (x y:EV):Option EV:=
 match x,y with
 |.i k a,.i k' b=>match op with
  |.shl=>Ay .shl k a b
  |.shr=>Ay .shr k a b
  |_=>if k=k' then w9 op k a b else none
 |.s a,.s b=>xa op a b
 |.s a,.us lo hi=>match op with
  |.add=>bif Nat.ble (a.data.toList.length+hi) 1000000 then some (.us (a.data.toList.length+lo) (a.data.toList.length+hi)) else none
  |_=>none
 |.b a,.b b=>match op,(T t).map (·.d) with
  |.eql,some TypeDesc.bool=>some (.b (a == b))
  |.neq,some TypeDesc.bool=>some (.b (!(a == b)))
  |_,_=>none
 |x,y=>match op,T t with
  |.eql,some i=>(mL i.d x y).map EV.b
  |.neq,some i=>(mL i.d x y).map fun z=>.b (!z)
  |_,_=>none
noncomputable def Az (op:UnOp) (x:EV):Option EV:=
 match op,x with
 |.not,.b a=>some (.b (!a))
 |.neg,.i k a=>some (.i k (k.wrap (0 - a)))
 |_,_=>none
section
variable {P:Program} {φ:bV} {ρ:bF} {w:World} {T:TT} {o:Oper} {t:TypeId}
theorem xb {op:BinOp} {k:IntKind} {a b:Int} {x:EV} (h:w9 op k a b=some x):∃v,(binOp op t (.int k a) (.int k b)).run P w=.ok v w∧aQ φ x v:=by
 cases op<;>simp only[w9] at h
 case quo=>split at h<;>first|(cases h;done)|(cases h;rename_i hb;exact ⟨_,by simp[binOp,Op.intDiv,hb],rfl⟩)
 case rem=>split at h<;>first|(cases h;done)|(cases h;rename_i hb;exact ⟨_,by simp[binOp,Op.intDiv,hb],rfl⟩)
 case shl=>cases h
 case shr=>cases h
 case add=>cases h;exact ⟨_,by rw[show binOp .add t (.int k a) (.int k b)=Op.intArith .add k a b by simp[binOp]];rfl,rfl⟩
 case sub=>cases h;exact ⟨_,by rw[show binOp .sub t (.int k a) (.int k b)=Op.intArith .sub k a b by simp[binOp]];rfl,rfl⟩
 case mul=>cases h;exact ⟨_,by rw[show binOp .mul t (.int k a) (.int k b)=Op.intArith .mul k a b by simp[binOp]];rfl,rfl⟩
 case and=>cases h;exact ⟨_,by rw[binOp_and];rfl,rfl⟩
 case or=>cases h;exact ⟨_,by rw[binOp_or];rfl,rfl⟩
 case xor=>cases h;exact ⟨_,by rw[binOp_xor];rfl,rfl⟩
 case andNot=>cases h;exact ⟨_,by rw[binOp_andNot];rfl,rfl⟩
 case eql=>cases h;exact ⟨_,by rw[binOp_eql];rfl,rfl⟩
 case neq=>cases h;exact ⟨_,by rw[binOp_neq];rfl,rfl⟩
 case lss=>cases h;exact ⟨_,by rw[binOp_lss];rfl,rfl⟩
 case leq=>cases h;exact ⟨_,by rw[binOp_leq];rfl,rfl⟩
 case gtr=>cases h;exact ⟨_,by rw[binOp_gtr];rfl,rfl⟩
 case geq=>cases h;exact ⟨_,by rw[binOp_geq];rfl,rfl⟩
theorem rv {op:BinOp} {k k':IntKind} {a b:Int} {x:EV} (ho:op=.shl∨op=.shr) (h:Ay op k a b=some x):∃v,(binOp op t (.int k a) (.int k' b)).run P w=.ok v w∧aQ φ x v:=by
 unfold Ay at h
 split at h
 ·cases h
 ·rename_i hb
  rcases ho with rfl|rfl<;>(cases h;exact ⟨_,by simp[binOp,Op.shift,hb],rfl⟩)
theorem vB (a b:ByteArray):(⟨(a.data.toList++b.data.toList).toArray⟩:ByteArray)=a++b:=by
 have:(a++b).data=a.data++b.data:=ByteArray.data_append
 cases hab:a++b with
 |mk d=>
  rw[hab] at this
  simp only at this
  rw[this];congr 1;simp
theorem oG {op:BinOp} {a b:ByteArray} {x:EV} (h:xa op a b=some x):∃v,(binOp op t (.string a) (.string b)).run P w=.ok v w∧aQ φ x v:=by
 cases op<;>simp only[xa] at h
 case add=>
  split at h
  ·rename_i hl
   cases h
   have hl:=Nat.le_of_ble_eq_true hl
   refine ⟨.string (a++b),?_,by rw[vB];rfl⟩
   have h2:¬((a.size+b.size:Nat):Int)>IntKind.i64.max:=by
    have e1:a.size=a.data.toList.length:=by rw[Array.length_toList];rfl
    have e2:b.size=b.data.toList.length:=by rw[Array.length_toList];rfl
    have:IntKind.i64.max=9223372036854775807:=by decide
    rw[this];omega
   simp only[binOp,Op.stringOp]
   rw[if_neg h2];rfl
  ·cases h
 case eql=>cases h;refine ⟨.bool (a.toList == b.toList),by rw[binOp_string_eql];rfl,?_⟩;show Value.bool _=Value.bool _;rw[gR,fD]
 case neq=>cases h;refine ⟨.bool (!a.toList == b.toList),by rw[binOp_string_neq];rfl,?_⟩;show Value.bool _=Value.bool _;rw[gR,fD]
 all_goals cases h
theorem oH {d:TypeDesc} {x y:EV} {a c:Value} {b:Bool} {op:BinOp} {p q:Operand} (h:mL d x y=some b) (hd:P.underlying t=some d) (hx:aQ φ x a) (hy:aQ φ y c) :
  (eqGuard op t p q a c).run P w=.ok () w∧(binOp .eql t a c).run P w=.ok (.bool b) w∧(binOp .neq t a c).run P w=.ok (.bool (!b)) w:=by
 unfold mL at h
 split at h
 case h_1 e=>
  have hx:a=.pointer none:=hx
  have hy:c=.pointer none:=hy
  have hp:P.pointee t=e:=by unfold Program.pointee;rw[hd]
  cases h;subst hx hy
  exact ⟨fG,run_eql_pointer_nil w t none (by rw[hp];exact hd),run_neq_pointer_nil w t none (by rw[hp];exact hd)⟩
 case h_2 e _ _=>
  obtain ⟨_,_,rfl⟩:=hx
  have hy:c=.pointer none:=hy
  have hp:P.pointee t=e:=by unfold Program.pointee;rw[hd]
  cases h;subst hy
  exact ⟨fG,run_eql_pointer_nil w t _ (by rw[hp];exact hd),run_neq_pointer_nil w t _ (by rw[hp];exact hd)⟩
 case h_3 e=>
  have hx:a=.slice none 0 0:=hx
  have hy:c=.slice none 0 0:=hy
  cases h;subst hx hy
  exact ⟨eW,Lib.run_eql_slice_nil w t e none 0 0 0 0 hd,run_neq_slice_nil_any w t e none 0 0 0 0 hd⟩
 case h_4 e _ _ _ _ _=>
  obtain ⟨_,_,_,_,rfl,_⟩:=hx
  have hy:c=.slice none 0 0:=hy
  cases h;subst hy
  exact ⟨eW,Lib.run_eql_slice_nil w t e _ _ _ 0 0 hd,run_neq_slice_nil_any w t e _ _ _ 0 0 hd⟩
 case h_5 k e=>
  have hx:a=.map none:=hx
  have hy:c=.map none:=hy
  cases h;subst hx hy
  exact ⟨by unfold eqGuard;cases op<;>rfl,run_eql_map_nil w t k e none hd,Go.run_neq_map_nil w t k e none hd⟩
 case h_6 k e _=>
  obtain ⟨_,_,rfl⟩:=hx
  have hy:c=.map none:=hy
  cases h;subst hy
  exact ⟨by unfold eqGuard;cases op<;>rfl,run_eql_map_nil w t k e _ hd,Go.run_neq_map_nil w t k e _ hd⟩
 case h_7=>cases h
theorem xc (hT:b8 P T) {op:BinOp} {p q:Operand} {x y z:EV} {a c:Value} (h:ru T op t q x y=some z) (hx:aQ φ x a) (hy:aQ φ y c) :
  ∃v,(do eqGuard op t p q a c;binOp op t a c:Sem Value).run P w=.ok v w∧aQ φ z v:=by
 unfold ru at h
 split at h
 ·rename_i k a' k' b'
  have hx:a=.int k a':=hx
  have hy:c=.int k' b':=hy
  subst hx hy
  have hg:(eqGuard op t p q (.int k a') (.int k' b')).run P w=.ok () w:=by unfold eqGuard;cases op<;>rfl
  rw[Sem.run_bind,hg]
  split at h
  ·exact rv (.inl rfl) h
  ·exact rv (.inr rfl) h
  ·split at h
   ·rename_i e;subst e;exact xb h
   ·cases h
 ·rename_i a' b'
  have hx:a=.string a':=hx
  have hy:c=.string b':=hy
  subst hx hy
  rw[Sem.run_bind,dA]
  exact oG h
 ·rename_i a' lo hi
  have hx:a=.string a':=hx
  obtain ⟨b',hy,h1,h2⟩:=hy
  subst hx hy
  split at h
  ·cases hl:Nat.ble (a'.data.toList.length+hi) 1000000 with
   |false=>rw[hl] at h;cases h
   |true=>
    rw[hl] at h;cases h
    have hl:=Nat.le_of_ble_eq_true hl
    rw[Sem.run_bind,dA]
    obtain ⟨v,g1,g2⟩:=oG (P:=P) (w:=w) (φ:=φ) (t:=t) (op:=.add) (a:=a') (b:=b') (x:=.s ⟨(a'.data.toList++b'.data.toList).toArray⟩) (if_pos (Nat.ble_eq_true_of_le (by omega)))
    have e:(⟨(a'.data.toList++b'.data.toList).toArray⟩:ByteArray).data.toList.length=a'.data.toList.length+b'.data.toList.length:=qu
    exact ⟨v,g1,_,g2,by rw[e];omega,by rw[e];omega⟩
  ·cases h
 ·rename_i a' b'
  have hx:a=.bool a':=hx
  have hy:c=.bool b':=hy
  subst hx hy
  rw[Sem.run_bind,fu]
  split at h
  ·rename_i hd
   cases h
   cases hi:T t with
   |none=>rw[hi] at hd;cases hd
   |some i=>
    rw[hi] at hd
    have hd2:=(hT t i hi).und
    simp only[Option.map_some,Option.some.injEq] at hd
    rw[hd] at hd2
    exact ⟨_,run_eql_bool w t a' b' hd2,rfl⟩
  ·rename_i hd
   cases h
   cases hi:T t with
   |none=>rw[hi] at hd;cases hd
   |some i=>
    rw[hi] at hd
    have hd2:=(hT t i hi).und
    simp only[Option.map_some,Option.some.injEq] at hd
    rw[hd] at hd2
    exact ⟨_,run_neq_bool w t a' b' hd2,rfl⟩
  ·cases h
 ·split at h
  ·rename_i i hi
   cases hn:mL i.d x y with
   |none=>rw[hn] at h;cases h
   |some b=>
    rw[hn] at h;cases h
    obtain ⟨h1,h2,_⟩:=oH (op:=.eql) (p:=p) (q:=q) (w:=w) hn (hT t i hi).und hx hy
    rw[Sem.run_bind,h1]
    exact ⟨_,h2,rfl⟩
  ·rename_i i hi
   cases hn:mL i.d x y with
   |none=>rw[hn] at h;cases h
   |some b=>
    rw[hn] at h;cases h
    obtain ⟨h1,_,h2⟩:=oH (op:=.neq) (p:=p) (q:=q) (w:=w) hn (hT t i hi).und hx hy
    rw[Sem.run_bind,h1]
    exact ⟨_,h2,rfl⟩
  ·cases h
theorem AA {op:UnOp} {x z:EV} {a:Value} (h:Az op x=some z) (hx:aQ φ x a):∃v,(Op.unary op a).run P w=.ok v w∧aQ φ z v:=by
 unfold Az at h
 split at h
 ·have hx:a=.bool _:=hx
  cases h;subst hx;exact ⟨_,rfl,rfl⟩
 ·have hx:a=.int _ _:=hx
  cases h;subst hx;exact ⟨_,by simp[Op.unary,Op.intArith],rfl⟩
 ·cases h
end
noncomputable def lG (T:TT) (H:Hp) (t b off:Nat):Option EV:=
 match T t,(H.get b).bind VO.cs? with
 |some i,some cs=>bif w8 i.d then (bif Nat.ble (off+i.size) cs.length then some (.ag ((cs.drop off).take i.size)) else none) else cs[off]?
 |_,_=>none
noncomputable def da (T:TT) (t:TypeId) (cs:List EV) (off:Nat):Option EV:=
 match T t with
 |some i=>bif w8 i.d then some (.ag ((cs.drop off).take i.size)) else cs[off]?
 |none=>none
def nw (T:TT) (t f:Nat):Option Field:=
 match T t with
 |some i=>match i.d with
  |.struct fs=>fs[f]?
  |_=>none
 |none=>none
noncomputable def km (T:TT) (t f b off:Nat):Option EV:=
 match nw T t f with
 |some fd=>match T fd.type with
  |some i=>bif Nat.beq i.size 0 then none else some (.p b (off+fd.offset))
  |none=>none
 |none=>none
noncomputable def ko (T:TT) (t f:Nat) (cs:List EV):Option EV:=
 match nw T t f with
 |some fd=>da T fd.type cs fd.offset
 |none=>none
def gi (n:Int):Option Nat:=
 match n with
 |.ofNat j=>some j
 |_=>none
noncomputable def ny (T:TT) (t:Nat) (x:EV) (n:Int):Option EV:=
 match T t,gi n with
 |some i,some j=>match i.d,x with
  |.slice e,.sl b off len _ _=>match T e with
   |some ie=>bif Nat.blt j len then some (.p b (off+j*ie.size)) else none
   |none=>none
  |.array len e,.p b off=>match T e with
   |some ie=>bif Nat.blt j len then some (.p b (off+j*ie.size)) else none
   |none=>none
  |_,_=>none
 |_,_=>none
noncomputable def rx (T:TT) (t:Nat) (x:EV) (n:Int):Option EV:=
 match T t,gi n with
 |some i,some j=>match i.d,x with
  |.string,.s s=>(s.data.toList[j]?).map fun c=>.i .u8 c.toNat
  |.array len e,.ag cs=>match T e with
   |some ie=>bif Nat.blt j len then da T e cs (j*ie.size) else none
   |none=>none
  |_,_=>none
 |_,_=>none
section
variable {P:Program} {φ:bV} {w:World} {T:TT} {I:aJ} {H:Hp} {nx:Nat} {F:List (Nat × Obj)} {E:World}
theorem mM (hT:b8 P T) (hR:cy I φ H nx F E w) {t b off:Nat} {z:EV} {a:Value} (h:lG T H t b off=some z) (hx:aQ φ (.p b off) a) :
  ∃v,(Instr.loadAt t a).run P w=.ok v w∧aQ φ z v:=by
 obtain ⟨q,hq,rfl⟩:=hx
 unfold lG at h
 split at h
 ·rename_i i cs hi hc
  obtain ⟨o,ho,hoc⟩:=Option.bind_eq_some_iff.1 hc
  have hTi:=hT t i hi
  obtain ⟨vs,h1,h2,h3⟩:=hR.read ho hoc hq
  cases hd:w8 i.d with
  |true=>
   rw[hd] at h
   simp only[cond_true] at h
   cases hb:Nat.ble (off+i.size) cs.length with
   |false=>rw[hb] at h;cases h
   |true=>
    rw[hb] at h;cases h
    have hb:=Nat.le_of_ble_eq_true hb
    have hl:((vs.drop off).take i.size).length=i.size:=by rw[qw,List.length_drop,h1.length];omega
    refine ⟨.agg ((vs.drop off).take i.size).toArray,?_,_,Z,(h1.drop off).take i.size⟩
    have hrun:=d7 (P:=P) (T:=t) (b:=q.r) (off:=q.sh+off) (cs:=(vs.drop off).take i.size) (w:=w) (fun w=>by rw[hTi.agg,hd]) (fun w=>by rw[hl];exact hTi.sz w) (fun j v hj=>by
     have hjl:=(List.getElem?_eq_some_iff.1 hj).1
     rw[hl] at hjl
     rw[List.getElem?_take_of_lt hjl,List.getElem?_drop] at hj
     rw[Nat.add_assoc];exact h3 _ _ hj)
    simp[Instr.loadAt,Instr.sureAddr,hrun]
  |false=>
   rw[hd] at h
   simp only[cond_false] at h
   obtain ⟨v,hv,hr⟩:=h1.get h
   refine ⟨v,?_,hr⟩
   have hrun:=jE (P:=P) (T:=t) (b:=q.r) (off:=q.sh+off) (v:=v) (w:=w) (fun w=>by rw[hTi.agg,hd]) (h3 _ _ hv)
   simp[Instr.loadAt,Instr.sureAddr,hrun]
 ·cases h
theorem dR (hT:b8 P T) {t off:Nat} {cs:List EV} {vs:List Value} {z:EV} (h:da T t cs off=some z) (hx:RelVs φ cs vs):∃v,(part t vs.toArray off).run P w=.ok v w∧aQ φ z v:=by
 unfold da at h
 split at h
 ·rename_i i hi
  have hTi:=hT t i hi
  cases hd:w8 i.d with
  |true=>
   rw[hd] at h;cases h
   refine ⟨.agg ((vs.drop off).take i.size).toArray,?_,_,Z,(hx.drop off).take i.size⟩
   simp[part,hTi.agg,hd,hTi.sz]
  |false=>
   rw[hd] at h
   obtain ⟨v,hv,hr⟩:=hx.get h
   exact ⟨v,by simp[part,hTi.agg,hd,hv],hr⟩
 ·cases h
theorem mN (hT:b8 P T) {t f:Nat} {fd:Field} (h:nw T t f=some fd):∃fs,P.underlying t=some (.struct fs)∧fs[f]?=some fd:=by
 unfold nw at h
 split at h
 ·rename_i i hi
  split at h
  ·rename_i fs hd
   exact ⟨fs,hd▸(hT t i hi).und,h⟩
  ·cases h
 ·cases h
theorem pQ (hT:b8 P T) {t f b off:Nat} {z:EV} {a:Value} (h:km T t f b off=some z) (hx:aQ φ (.p b off) a):∃v,(Instr.fieldAt t a f).run P w=.ok v w∧aQ φ z v:=by
 obtain ⟨q,hq,rfl⟩:=hx
 unfold km at h
 split at h
 ·rename_i fd hfd
  obtain ⟨fs,h1,h2⟩:=mN hT hfd
  split at h
  ·rename_i i hi
   have hTi:=hT _ i hi
   cases hz:Nat.beq i.size 0 with
   |true=>rw[hz] at h;cases h
   |false=>
    rw[hz] at h;cases h
    have hne:i.size≠0:=fun e=>by rw[e] at hz;cases hz
    refine ⟨.pointer (some ⟨q.r,q.sh+off+fd.offset,none⟩),?_,q,hq,by rw[Nat.add_assoc]⟩
    simp[Instr.fieldAt,run_underlying h1,h2,Instr.sureAddr,fieldPlace,hTi.sz,hne,bv]
  ·cases h
 ·cases h
theorem pR (hT:b8 P T) {t f:Nat} {cs:List EV} {z:EV} {a:Value} (h:ko T t f cs=some z) (hx:aQ φ (.ag cs) a):∃v,(Instr.field t a f).run P w=.ok v w∧aQ φ z v:=by
 obtain ⟨vs,rfl,hx⟩:=hx
 unfold ko at h
 split at h
 ·rename_i fd hfd
  obtain ⟨fs,h1,h2⟩:=mN hT hfd
  obtain ⟨v,h3,h4⟩:=dR (w:=w) hT h hx
  refine ⟨v,?_,h4⟩
  simp[Instr.field,run_underlying h1,h2,asAgg,h3]
 ·cases h
theorem eJ {n:Int} {j:Nat} (h:gi n=some j):n=(j:Int):=by
 unfold gi at h
 split at h
 ·cases h;rfl
 ·cases h
theorem vC (hT:b8 P T) {t:Nat} {x:EV} {k:IntKind} {n:Int} {z:EV} {a c:Value} (h:ny T t x n=some z) (hx:aQ φ x a) (hy:aQ φ (.i k n) c):∃v,(Instr.indexAt t a c).run P w=.ok v w∧aQ φ z v:=by
 have hy:c=.int k n:=hy
 subst hy
 unfold ny at h
 split at h
 ·rename_i i j hi hj
  have hj:=eJ hj
  subst hj
  have hTi:=hT t i hi
  split at h
  ·rename_i e b off len _ _ hd
   have hu:=hd▸hTi.und
   obtain ⟨q,o,cap,hq,rfl,h1,h2,_⟩:=hx
   split at h
   ·rename_i ie hie
    have hTe:=hT e ie hie
    cases hb:Nat.blt j len with
    |false=>rw[hb] at h;cases h
    |true=>
     rw[hb] at h;cases h
     have hb:j<len:=Nat.le_of_ble_eq_true hb
     have ho:=h2 (by omega)
     subst ho
     refine ⟨.pointer (some ⟨q.r,q.sh+off+j*ie.size,none⟩),?_,q,hq,by rw[Nat.add_assoc]⟩
     simp[Instr.indexAt,asIntOf,run_underlying hu,hTe.sz,hb,bv]
   ·cases h
  ·rename_i len e b off hd
   have hu:=hd▸hTi.und
   obtain ⟨q,hq,rfl⟩:=hx
   split at h
   ·rename_i ie hie
    have hTe:=hT e ie hie
    cases hb:Nat.blt j len with
    |false=>rw[hb] at h;cases h
    |true=>
     rw[hb] at h;cases h
     have hb:j<len:=Nat.le_of_ble_eq_true hb
     refine ⟨.pointer (some ⟨q.r,q.sh+off+j*ie.size,none⟩),?_,q,hq,by rw[Nat.add_assoc]⟩
     by_cases h1:len≤1
     ·simp[Instr.indexAt,asIntOf,run_underlying hu,hTe.sz,hb,bv,Instr.sureAddr,h1]
     ·simp[Instr.indexAt,asIntOf,run_underlying hu,hTe.sz,hb,bv,Instr.sureAddr,h1]
   ·cases h
  ·cases h
 ·cases h
theorem xd (hT:b8 P T) {t:Nat} {x:EV} {k:IntKind} {n:Int} {z:EV} {a c:Value} (h:rx T t x n=some z) (hx:aQ φ x a) (hy:aQ φ (.i k n) c):∃v,(Instr.index t a c).run P w=.ok v w∧aQ φ z v:=by
 have hy:c=.int k n:=hy
 subst hy
 unfold rx at h
 split at h
 ·rename_i i j hi hj
  have hj:=eJ hj
  subst hj
  have hTi:=hT t i hi
  split at h
  ·rename_i s hd
   have hu:=hd▸hTi.und
   have hx:a=.string s:=hx
   subst hx
   obtain ⟨c,hc,rfl⟩:=Option.map_eq_some_iff.1 h
   have hv:s.data[j]?=some c:=by rw[←hc];simp
   have hj:s[j]?=some c:=by
    obtain ⟨h1,h2⟩:=Array.getElem?_eq_some_iff.1 hv
    show (if h:j<s.size then some s[j] else none)=some c
    rw[dif_pos (show j<s.size from h1)];exact congrArg some h2
   exact ⟨.int .u8 c.toNat,by simp[Instr.index,asIntOf,run_underlying hu,hj],rfl⟩
  ·rename_i len e cs hd
   have hu:=hd▸hTi.und
   obtain ⟨vs,rfl,hx⟩:=hx
   split at h
   ·rename_i ie hie
    have hTe:=hT e ie hie
    cases hb:Nat.blt j len with
    |false=>rw[hb] at h;cases h
    |true=>
     rw[hb] at h
     have hb:j<len:=Nat.le_of_ble_eq_true hb
     obtain ⟨v,h3,h4⟩:=dR (w:=w) hT h hx
     refine ⟨v,?_,h4⟩
     simp[Instr.index,asIntOf,run_underlying hu,hb,hTe.sz,h3]
   ·cases h
  ·cases h
 ·cases h
end
end
section
def pS:Option Value→Option Nat→Prop
 |none,none=>True
 |some v,some n=>∃k,v=.int k (n:Int)
 |_,_=>False
theorem dH {P:Program} {w:World} {k:IntKind} {n y:Nat} {c:BoundsCode} (h:n≤y):(Instr.sliceBound (.int k (n:Int)) y c).run P w=.ok n w:=by
 have:(0:Int)≤(n:Int)∧(n:Int)≤(y:Int):=by omega
 simp[Instr.sliceBound,asIntOf,this]
theorem gq {P:Program} {w:World} {s:Bool} {len cap:Nat} {lo hi mx:Option Value} {lo' hi' mx':Option Nat} (h1:pS lo lo') (h2:pS hi hi') (h3:pS mx mx') (hm:mx'.isSome=true→hi'.isSome=true)
  (c1:mx'.getD cap≤cap) (c2:hi'.getD len≤mx'.getD cap) (c3:lo'.getD 0≤hi'.getD len):(Instr.sliceBounds s len cap lo hi mx).run P w=.ok (lo'.getD 0,hi'.getD len,mx'.getD cap) w:=by
 cases mx with
 |some m=>
  cases mx' with
  |none=>exact h3.elim
  |some m'=>
   cases hi' with
   |none=>simp at hm
   |some g=>
    cases hi with
    |none=>exact h2.elim
    |some hv=>
     obtain ⟨k1,rfl⟩:=h3
     obtain ⟨k2,rfl⟩:=h2
     simp only[Option.getD_some] at c1 c2 c3 ⊢
     cases lo with
     |none=>
      cases lo' with
      |none=>simp only[Instr.sliceBounds,Sem.run_bind,dH c1,Result.andThen_ok,dH c2];simp
      |some _=>exact h1.elim
     |some l=>
      cases lo' with
      |none=>exact h1.elim
      |some l'=>
       obtain ⟨k3,rfl⟩:=h1
       simp only[Option.getD_some] at c3 ⊢
       simp only[Instr.sliceBounds,Sem.run_bind,dH c1,Result.andThen_ok,dH c2,dH c3];simp
 |none=>
  cases mx' with
  |some _=>exact h3.elim
  |none=>
   simp only[Option.getD_none] at c1 c2 ⊢
   cases hi with
   |none=>
    cases hi' with
    |some _=>exact h2.elim
    |none=>
     simp only[Option.getD_none] at c2 c3 ⊢
     cases lo with
     |none=>
      cases lo' with
      |none=>simp[Instr.sliceBounds]
      |some _=>exact h1.elim
     |some l=>
      cases lo' with
      |none=>exact h1.elim
      |some l'=>
       obtain ⟨k3,rfl⟩:=h1
       simp only[Option.getD_some] at c3 ⊢
       simp[Instr.sliceBounds,dH c3]
   |some hv=>
    cases hi' with
    |none=>exact h2.elim
    |some g=>
     obtain ⟨k2,rfl⟩:=h2
     simp only[Option.getD_some] at c2 c3 ⊢
     cases lo with
     |none=>
      cases lo' with
      |none=>simp[Instr.sliceBounds,dH c2]
      |some _=>exact h1.elim
     |some l=>
      cases lo' with
      |none=>exact h1.elim
      |some l'=>
       obtain ⟨k3,rfl⟩:=h1
       simp only[Option.getD_some] at c3 ⊢
       simp[Instr.sliceBounds,dH c2,dH c3]
theorem nz (s:ByteArray) (l h:Nat):s.extract l h=⟨((s.data.toList.drop l).take (h - l)).toArray⟩:=by
 have e:(s.extract l h).data=s.data.extract l h:=ByteArray.data_extract
 cases hx:s.extract l h with
 |mk d=>
  rw[hx] at e
  simp only at e
  rw[e];congr 1
  apply Array.toList_inj.1
  simp[List.extract_eq_take_drop]
def B3 (k k' l:Nat) (mx:Option Nat) (c:Cp):Cp:=
 match mx,c with
 |some m,_=>.ex (m - l)
 |none,.ex m=>.ex (m - l)
 |none,.en=>bif Nat.beq k k' then .en else .un
 |none,.un=>.un
def lH (len n:Nat):Cp→Bool
 |.ex m=>Nat.ble n m
 |_=>Nat.ble n len
noncomputable def AB (T:TT) (t:Nat) (x:EV) (lo hi mx:Option Nat):Option EV:=
 match T t with
 |some i=>match i.d,x with
  |.string,.s s=>match mx with
   |some _=>none
   |none=>bif Nat.ble (hi.getD s.data.toList.length) s.data.toList.length&&Nat.ble (lo.getD 0) (hi.getD s.data.toList.length) then some (.s ⟨((s.data.toList.drop (lo.getD 0)).take (hi.getD s.data.toList.length - lo.getD 0)).toArray⟩) else none
  |.slice e,.sl b off len k c=>match T e with
   |some ie=>bif (!mx.isSome||hi.isSome)&&(lH len (hi.getD len) c&&(mx.elim true (fun m=>lH len m c&&Nat.ble (hi.getD len) m)&&Nat.ble (lo.getD 0) (hi.getD len))) then
     some (.sl b (off+lo.getD 0*ie.size) (hi.getD len - lo.getD 0) k (B3 k ie.size (lo.getD 0) mx c)) else none
   |none=>none
  |.slice e,.ns=>match T e,mx with
   |some _,none=>bif Nat.beq (hi.getD 0) 0&&Nat.beq (lo.getD 0) 0 then some .ns else none
   |_,_=>none
  |.array n e,.p b off=>match T e,mx with
   |some ie,none=>bif Nat.ble (hi.getD n) n&&Nat.ble (lo.getD 0) (hi.getD n) then some (.sl b (off+lo.getD 0*ie.size) (hi.getD n - lo.getD 0) ie.size (.ex (n - lo.getD 0))) else none
   |_,_=>none
  |_,_=>none
 |none=>none
section
variable {P:Program} {φ:bV} {w:World} {T:TT} {I:aJ} {H:Hp} {nx:Nat} {F:List (Nat × Obj)} {E:World}
theorem mO {q:rp} {off k len n cap:Nat} {c:Cp} (h:lH len n c=true) (hl:len≤cap) (hc:DD q off k c cap):n≤cap:=by
 cases c with
 |ex m=>
  have hc:cap=m:=hc
  have:=Nat.le_of_ble_eq_true h
  omega
 |en=>have:=Nat.le_of_ble_eq_true h;omega
 |un=>have:=Nat.le_of_ble_eq_true h;omega
theorem AC (hT:b8 P T) {t:Nat} {x z:EV} {a:Value} {lo hi mx:Option Value} {lo' hi' mx':Option Nat} (h:AB T t x lo' hi' mx'=some z) (hx:aQ φ x a) (h1:pS lo lo') (h2:pS hi hi') (h3:pS mx mx') :
  ∃v,(Instr.sliceAt t a lo hi mx).run P w=.ok v w∧aQ φ z v:=by
 unfold AB at h
 split at h
 ·rename_i i hi0
  have hTi:=hT t i hi0
  split at h
  ·rename_i s hd
   have hu:=hd▸hTi.und
   have hx:a=.string s:=hx
   subst hx
   split at h
   ·cases h
   ·have hm:mx=none:=by cases mx with
     |none=>rfl
     |some _=>exact h3.elim
    subst hm
    cases hb:(Nat.ble (hi'.getD s.data.toList.length) s.data.toList.length&&Nat.ble (lo'.getD 0) (hi'.getD s.data.toList.length)) with
    |false=>rw[hb] at h;cases h
    |true=>
     rw[hb] at h;cases h
     simp only[qz] at hb
     have b1:=Nat.le_of_ble_eq_true hb.1
     have b2:=Nat.le_of_ble_eq_true hb.2
     have es:s.size=s.data.toList.length:=by rw[Array.length_toList];rfl
     have hbd:=gq (P:=P) (w:=w) (s:=false) (len:=s.size) (cap:=s.size) h1 h2 (mx':=none) (mx:=none) trivial (by simp) (Nat.le_refl _) (by rw[es];exact b1) (by rw[es];exact b2)
     refine ⟨.string (s.extract (lo'.getD 0) (hi'.getD s.size)),?_,by rw[nz,es];rfl⟩
     simp only[Instr.sliceAt,Sem.run_bind,run_underlying hu,Result.andThen_ok,Instr.slice,Option.isSome_none,hbd]
     simp[hbd]
  ·rename_i e b off len k c hd
   have hu:=hd▸hTi.und
   obtain ⟨q,o,cap,hq,rfl,g1,g2,g3⟩:=hx
   split at h
   ·rename_i ie hie
    have hTe:=hT e ie hie
    cases hb:((!mx'.isSome||hi'.isSome)&&(lH len (hi'.getD len) c&&(mx'.elim true (fun m=>lH len m c&&Nat.ble (hi'.getD len) m)&&Nat.ble (lo'.getD 0) (hi'.getD len)))) with
    |false=>rw[hb] at h;cases h
    |true=>
     rw[hb] at h;cases h
     simp only[qz] at hb
     obtain ⟨b0,b1,b2,b3⟩:=hb
     have b1:=mO b1 g1 g3
     have b3:=Nat.le_of_ble_eq_true b3
     have hm:mx'.getD cap≤cap∧hi'.getD len≤mx'.getD cap∧(mx'.isSome=true→hi'.isSome=true):=by
      cases mx' with
      |none=>exact ⟨Nat.le_refl _,b1,fun h=>by cases h⟩
      |some m=>
       simp only[Option.elim_some,qz] at b2
       exact ⟨mO b2.1 g1 g3,Nat.le_of_ble_eq_true b2.2,fun _=>by simpa using b0⟩
     have hbd:=gq (P:=P) (w:=w) (s:=true) (len:=len) (cap:=cap) h1 h2 h3 hm.2.2 hm.1 hm.2.1 b3
     refine ⟨.slice (if mx'.getD cap=lo'.getD 0 then some ⟨q.r,o,none⟩ else (some ⟨q.r,o,none⟩:Option Addr).map (·.add (lo'.getD 0*ie.size))) (hi'.getD len - lo'.getD 0) (mx'.getD cap - lo'.getD 0),?_,q,?_⟩
     ·simp only[Instr.sliceAt,Sem.run_bind,run_underlying hu,Result.andThen_ok,Instr.slice,hbd,hTe.sz]
      simp
     ·refine ⟨if mx'.getD cap=lo'.getD 0 then o else o+lo'.getD 0*ie.size,mx'.getD cap - lo'.getD 0,hq,?_,by omega,fun hne=>?_,?_⟩
      ·split
       ·rfl
       ·simp[bv]
      ·rw[if_neg (by omega),g2 (by omega),Nat.add_assoc]
      ·cases mx' with
       |some m=>exact rfl
       |none=>
        simp only[Option.getD_none]
        cases c with
        |ex m=>exact congrArg (·- lo'.getD 0) (show cap=m from g3)
        |en=>
         unfold B3
         cases hk:Nat.beq k ie.size with
         |false=>trivial
         |true=>
          have hk:=Nat.eq_of_beq_eq_true hk
          subst hk
          have g3:q.sh+off+cap*ie.size=q.κ:=g3
          show q.sh+(off+lo'.getD 0*ie.size)+(cap - lo'.getD 0)*ie.size=q.κ
          have hle:lo'.getD 0≤cap:=by omega
          have:lo'.getD 0*ie.size+(cap - lo'.getD 0)*ie.size=cap*ie.size:=by rw[←Nat.add_mul];congr 1;omega
          omega
        |un=>trivial
   ·cases h
  ·rename_i e hd
   have hu:=hd▸hTi.und
   have hx:a=.slice none 0 0:=hx
   subst hx
   split at h
   ·rename_i ie hie
    have hTe:=hT e ie hie
    cases hb:(Nat.beq (hi'.getD 0) 0&&Nat.beq (lo'.getD 0) 0) with
    |false=>rw[hb] at h;cases h
    |true=>
     rw[hb] at h;cases h
     simp only[qz] at hb
     have b1:=Nat.eq_of_beq_eq_true hb.1
     have b2:=Nat.eq_of_beq_eq_true hb.2
     have hm:mx=none:=by cases mx with
      |none=>rfl
      |some _=>exact h3.elim
     subst hm
     have hbd:=gq (P:=P) (w:=w) (s:=true) (len:=0) (cap:=0) h1 h2 (mx':=none) (mx:=none) trivial (by simp) (Nat.le_refl _) (by rw[b1];exact Nat.le_refl _) (by rw[b2];exact qr _)
     refine ⟨.slice none 0 0,?_,Z⟩
     simp only[Instr.sliceAt,Sem.run_bind,run_underlying hu,Result.andThen_ok,Instr.slice,hbd,hTe.sz]
     rw[b1,b2];simp
   ·cases h
  ·rename_i n e b off hd
   have hu:=hd▸hTi.und
   obtain ⟨q,hq,rfl⟩:=hx
   split at h
   ·rename_i ie hie
    have hTe:=hT e ie hie
    cases hb:(Nat.ble (hi'.getD n) n&&Nat.ble (lo'.getD 0) (hi'.getD n)) with
    |false=>rw[hb] at h;cases h
    |true=>
     rw[hb] at h;cases h
     simp only[qz] at hb
     have b1:=Nat.le_of_ble_eq_true hb.1
     have b2:=Nat.le_of_ble_eq_true hb.2
     have hm:mx=none:=by cases mx with
      |none=>rfl
      |some _=>exact h3.elim
     subst hm
     have hbd:=gq (P:=P) (w:=w) (s:=false) (len:=n) (cap:=n) h1 h2 (mx':=none) (mx:=none) trivial (by simp) (Nat.le_refl _) b1 b2
     simp only[Option.getD_none] at hbd
     refine ⟨.slice (some (if n=lo'.getD 0 then ⟨q.r,q.sh+off,none⟩ else (⟨q.r,q.sh+off,none⟩:Addr).add (lo'.getD 0*ie.size))) (hi'.getD n - lo'.getD 0) (n - lo'.getD 0),?_,q,if n=lo'.getD 0 then q.sh+off else q.sh+off+lo'.getD 0*ie.size,n - lo'.getD 0,hq,?_,by omega,fun hne=>?_,rfl⟩
     ·simp[Instr.sliceAt,run_underlying hu,Instr.sureAddr,hbd,hTe.sz]
     ·split
      ·rfl
      ·simp[bv]
     ·rw[if_neg (by omega),Nat.add_assoc]
   ·cases h
  ·cases h
 ·cases h
end
def lI (place:Nat→Option (Nat × Nat)):List EV→List (Nat × EV)→Option (List EV)
 |cells,[]=>some cells
 |cells,(i,x)::rest=>
  match place i with
  |none=>none
  |some (off,size)=>bif x.sto&&(Nat.beq x.cs.length size&&Nat.ble (off+size) cells.length) then lI place (cells.take off++(x.cs++cells.drop (off+size))) rest else none
theorem iq {φ:bV} {place:Nat→Option (Nat × Nat)}:∀(l:List (Nat × Value)) (cps:List (Nat × EV)) (cells:List EV) (vcells:Array Value) (rs:List EV),
  cps.map (·.1)=l.map (·.1)→RelVs φ (cps.map (·.2)) (l.map (·.2))→RelVs φ cells vcells.toList→lI place cells cps=some rs →
  ∃vc,Instr.fill place vcells l=some vc∧RelVs φ rs vc.toList
 |[],[],cells,vcells,rs,_,_,h,hf=>⟨vcells,rfl,by cases hf;exact h⟩
 |[],_::_,_,_,_,h,_,_,_=>by cases h
 |_::_,[],_,_,_,h,_,_,_=>by cases h
 |(i,v)::l,(i',x)::cps,cells,vcells,rs,hk,hp,h,hf=>by
  simp only[List.map_cons,List.cons.injEq] at hk
  obtain ⟨rfl,hk⟩:=hk
  obtain ⟨v',us,e,hx,hp⟩:=hp
  cases e
  unfold lI at hf
  unfold Instr.fill
  cases hpl:place i' with
  |none=>rw[hpl] at hf;cases hf
  |some os=>
   obtain ⟨off,size⟩:=os
   rw[hpl] at hf
   simp only at hf ⊢
   cases hb:(x.sto&&(Nat.beq x.cs.length size&&Nat.ble (off+size) cells.length)) with
   |false=>rw[hb] at hf;cases hf
   |true=>
    rw[hb] at hf
    simp only[cond_true] at hf
    simp only[qz] at hb
    have hx:=EV.cs_rel hx hb.1
    have hxl:=hx.length
    have hcl:=h.length
    simp only[Array.length_toList] at hxl hcl
    have e1:=Nat.eq_of_beq_eq_true hb.2.1
    have e2:=Nat.le_of_ble_eq_true hb.2.2
    rw[if_neg (show ¬((v.cells.size≠size||off+v.cells.size>vcells.size)=true) by simp;omega)]
    have hfold:=mq off v.cells.toList 0 vcells (by simp;omega)
    simp only[Nat.add_zero] at hfold
    have hfa:(v.cells.zipIdx.foldl (fun cs (x:Value × Nat)=>cs.setIfInBounds (off+x.2) x.1) vcells).toList=vcells.toList.take off++v.cells.toList++vcells.toList.drop (off+size):=by
     rw[←Array.foldl_toList]
     have:v.cells.zipIdx.toList=v.cells.toList.zipIdx 0:=by simp
     have hlen:v.cells.toList.length=size:=by rw[Array.length_toList];omega
     rw[this,hfold,hlen]
    refine iq l cps _ _ rs hk hp ?_ hf
    rw[hfa,qq]
    exact (h.take off).append (hx.append (h.drop _))
def kp (T:TT):List Field→Option (List (Nat × Nat))
 |[]=>some []
 |f::fs=>match T f.type,kp T fs with
  |some i,some l=>some ((f.offset,i.size)::l)
  |_,_=>none
theorem lJ {P:Program} {T:TT} {w:World} (hT:b8 P T):∀(fs:List Field) (l:List (Nat × Nat)),kp T fs=some l→(fs.mapM (m:=Sem) fun f=>do pure (f.offset,←sizeOf f.type)).run P w=.ok l w
 |[],l,h=>by cases h;rfl
 |f::fs,l,h=>by
  unfold kp at h
  split at h
  ·rename_i i l' hi hl'
   cases h
   have h2:=lJ (w:=w) hT fs l' hl'
   rw[List.mapM_cons]
   simp only[Sem.run_bind,(hT _ _ hi).sz,Result.andThen_ok,Sem.run_pure,h2]
  ·cases h
noncomputable def kq (T:TT) (t:Nat) (ks:List Nat) (vs:List EV):Option EV:=
 match T t with
 |some i=>match i.d with
  |.struct fs=>match kp T fs.toList with
   |some pl=>(lI (fun k=>pl[k]?) i.z (ks.zip vs)).map EV.ag
   |none=>none
  |.array _ e=>match T e with
   |some ie=>(lI (fun k=>some (k*ie.size,ie.size)) i.z (ks.zip vs)).map EV.ag
   |none=>none
  |_=>none
 |none=>none
theorem kw {α β:Type}:∀(a:List α) (b:List β),a.length=b.length→(a.zip b).map (·.1)=a
 |[],_,_=>rfl
 |_::_,[],h=>by simp at h
 |x::a,y::b,h=>by rw[List.zip_cons_cons,List.map_cons,kw a b (by simpa using h)]
theorem kx {α β:Type}:∀(a:List α) (b:List β),a.length=b.length→(a.zip b).map (·.2)=b
 |[],[],_=>rfl
 |[],_::_,h=>by simp at h
 |_::_,[],_=>rfl
 |x::a,y::b,h=>by rw[List.zip_cons_cons,List.map_cons,kx a b (by simpa using h)]
theorem pT {P:Program} {φ:bV} {w:World} {T:TT} (hT:b8 P T) {t:Nat} {parts:List (Nat × Value)} {vs:List EV} {z:EV} (h:kq T t (parts.map (·.1)) vs=some z) (hv:RelVs φ vs (parts.map (·.2))) :
  ∃v,(Instr.build t parts.toArray).run P w=.ok v w∧aQ φ z v:=by
 have hl:(parts.map (·.1)).length=vs.length:=by have:=hv.length;simp at this ⊢;exact this
 unfold kq at h
 split at h
 ·rename_i i hi
  have hTi:=hT t i hi
  obtain ⟨zv,hz,hzr,_⟩:=hTi.zero
  split at h
  ·rename_i fs hd
   have hu:=hd▸hTi.und
   split at h
   ·rename_i pl hpl
    obtain ⟨rs,hrs,rfl⟩:=Option.map_eq_some_iff.1 h
    obtain ⟨vc,h1,h2⟩:=iq (place:=fun k=>pl[k]?) parts _ i.z zv.cells rs (kw _ _ hl) (by rw[kx _ _ hl];exact hv) (hzr φ) hrs
    refine ⟨.agg vc,?_,vc.toList,by simp,h2⟩
    have hp:=lJ (w:=w) hT fs.toList pl hpl
    have hp2:(fs.mapM (m:=Sem) fun f=>do pure (f.offset,←sizeOf f.type)).run P w=.ok pl.toArray w:=by
     rw[Array.mapM_eq_mapM_toList,Sem.run_map,hp];rfl
    unfold Instr.build
    simp only[Sem.run_bind,hz,Result.andThen_ok,run_underlying hu,hp2]
    have h1:Instr.fill (fun x=>pl.toArray[x]?) zv.cells parts=some vc:=by simpa using h1
    rw[h1];rfl
   ·cases h
  ·rename_i n e hd
   have hu:=hd▸hTi.und
   split at h
   ·rename_i ie hie
    obtain ⟨rs,hrs,rfl⟩:=Option.map_eq_some_iff.1 h
    obtain ⟨vc,h1,h2⟩:=iq (place:=fun k=>some (k*ie.size,ie.size)) parts _ i.z zv.cells rs (kw _ _ hl) (by rw[kx _ _ hl];exact hv) (hzr φ) hrs
    refine ⟨.agg vc,?_,vc.toList,by simp,h2⟩
    unfold Instr.build
    simp only[Sem.run_bind,hz,Result.andThen_ok,run_underlying hu,(hT e ie hie).sz,h1]
    rfl
   ·cases h
  ·cases h
 ·cases h
def oI:TypeDesc→Bool
 |.interface _=>false
 |_=>true
noncomputable def ry (T:TT) (t:Nat) (x:EV):Option EV:=
 match T t with
 |some i=>bif oI i.d then some (.ifc t x) else none
 |none=>none
noncomputable def nA (T:TT) (s d:Nat) (x:EV):Option EV:=
 match T s,T d,x with
 |some is_,some id_,.i _ n=>match is_.d,id_.d with
  |.int _,.int k=>some (.i k (k.wrap n))
  |_,_=>none
 |some is_,some id_,.s b=>match is_.d,id_.d with
  |.string,.string=>some (.s b)
  |_,_=>none
 |_,_,_=>none
noncomputable def rz (T:TT) (t:Nat) (x:EV):Option EV:=
 match T t,x with
 |some i,x=>match i.d,x with
  |.string,.s b=>some (.i .i64 b.data.toList.length)
  |.slice _,.sl _ _ n _ _=>some (.i .i64 n)
  |.slice _,.ns=>some (.i .i64 0)
  |_,_=>none
 |_,_=>none
noncomputable def rA (T:TT) (t:Nat) (x:EV):Option EV:=
 match T t,x with
 |some i,x=>match i.d,x with
  |.slice _,.sl _ _ _ _ (.ex m)=>some (.i .i64 m)
  |.slice _,.ns=>some (.i .i64 0)
  |_,_=>none
 |_,_=>none
section
variable {P:Program} {φ:bV} {w:World} {T:TT} {ty:TypeId}
theorem xe (hT:b8 P T) {t:Nat} {x z:EV} {a:Value} (h:ry T t x=some z) (hx:aQ φ x a):∃v,(Instr.makeInterface t a).run P w=.ok v w∧aQ φ z v:=by
 unfold ry at h
 split at h
 ·rename_i i hi
  have hu:=(hT t i hi).und
  cases hd:oI i.d with
  |false=>rw[hd] at h;cases h
  |true=>
   rw[hd] at h;cases h
   refine ⟨.iface t a,?_,a,Z,hx⟩
   unfold Instr.makeInterface
   rw[Sem.run_bind,run_underlying hu]
   revert hd
   cases i.d<;>intro hd<;>first|rfl|cases hd
 ·cases h
theorem vD (hT:b8 P T) {s d:Nat} {x z:EV} {a:Value} (h:nA T s d x=some z) (hx:aQ φ x a):∃v,(convert s d a).run P w=.ok v w∧aQ φ z v:=by
 unfold nA at h
 split at h
 ·rename_i i1 i2 k n h1 h2
  have hx:a=.int k n:=hx
  subst hx
  split at h
  ·rename_i k1 k2 e1 e2
   cases h
   have u1:=e1▸(hT s i1 h1).und
   have u2:=e2▸(hT d i2 h2).und
   exact ⟨_,by simp[convert,run_underlying u1,run_underlying u2,Conv.intToInt],rfl⟩
  ·cases h
 ·rename_i i1 i2 b h1 h2
  have hx:a=.string b:=hx
  subst hx
  split at h
  ·rename_i e1 e2
   cases h
   have u1:=e1▸(hT s i1 h1).und
   have u2:=e2▸(hT d i2 h2).und
   exact ⟨_,by simp[convert,run_underlying u1,run_underlying u2],rfl⟩
  ·cases h
 ·cases h
theorem xf (hT:b8 P T) {t:Nat} {x z:EV} {a:Value} (h:rz T t x=some z) (hx:aQ φ x a):∃v,(Builtin.len_ #[t] ty #[a]).run P w=.ok v w∧aQ φ z v:=by
 unfold rz at h
 split at h
 ·rename_i i hi
  have hu:=(hT t i hi).und
  split at h
  ·rename_i b hd
   have hx:a=.string b:=hx
   cases h;subst hx
   rw[hd] at hu
   exact ⟨.int .i64 b.size,by simp[Builtin.len_,run_underlying hu,goInt],by show Value.int .i64 _=Value.int .i64 _;rw[Array.length_toList];rfl⟩
  ·rename_i e _ _ n _ _ hd
   obtain ⟨_,_,_,_,rfl,_⟩:=hx
   cases h
   rw[hd] at hu
   exact ⟨.int .i64 n,by simp[Builtin.len_,run_underlying hu,goInt],rfl⟩
  ·rename_i e hd
   have hx:a=.slice none 0 0:=hx
   cases h;subst hx
   rw[hd] at hu
   exact ⟨.int .i64 0,by simp[Builtin.len_,run_underlying hu,goInt],rfl⟩
  ·cases h
 ·cases h
theorem xg (hT:b8 P T) {t:Nat} {x z:EV} {a:Value} (h:rA T t x=some z) (hx:aQ φ x a):∃v,(Builtin.cap_ #[t] ty #[a]).run P w=.ok v w∧aQ φ z v:=by
 unfold rA at h
 split at h
 ·rename_i i hi
  have hu:=(hT t i hi).und
  split at h
  ·rename_i e _ _ n _ m hd
   obtain ⟨_,_,cap,_,rfl,_,_,hc⟩:=hx
   have hc:cap=m:=hc
   cases h;subst hc
   rw[hd] at hu
   exact ⟨.int .i64 cap,by simp[Builtin.cap_,run_underlying hu,goInt],rfl⟩
  ·rename_i e hd
   have hx:a=.slice none 0 0:=hx
   cases h;subst hx
   rw[hd] at hu
   exact ⟨.int .i64 0,by simp[Builtin.cap_,run_underlying hu,goInt],rfl⟩
  ·cases h
 ·cases h
end
end
section
open Go.Proofs
theorem xh {α:Type} [Inhabited α] (c:zO α):∀(l:List α) (t:Nat),t<l.length*c.k→(c.vs l)[t]?=some (c.val l[t / c.k]!)[t % c.k]!
 |[],t,h=>by simp at h
 |x::l,t,h=>by
  have e:c.vs (x::l)=c.val x++c.vs l:=by unfold zO.vs;rw[List.flatMap_cons]
  rw[e]
  by_cases ht:t<c.k
  ·rw[List.getElem?_append_left (by rw[c.len];exact ht),Nat.div_eq_of_lt ht,Nat.mod_eq_of_lt ht,List.getElem!_cons_zero,qo (by rw[c.len];exact ht),getElem!_pos (c.val x) t (by rw[c.len];exact ht)]
  ·obtain ⟨s,rfl⟩:∃s,t=s+c.k:=⟨t - c.k,by omega⟩
   rw[List.getElem?_append_right (by rw[c.len];omega),c.len,Nat.add_sub_cancel,Nat.add_div_right _ c.pos,Nat.add_mod_right,List.getElem!_cons_succ]
   exact xh c l s (by rw[List.length_cons,Nat.add_mul,Nat.one_mul] at h;omega)
theorem gj (zl:List Value) (m:Nat) (h0:0<zl.length) (h1:∀u∈zl,u.oneCell'=true):madeCells zl.toArray (m*zl.length)=(List.replicate m zl).flatten.toArray:=by
 let c:zO Unit:=⟨zl.length,fun _=>zl,h0,fun _=>rfl,fun _=>h1⟩
 have e:(List.replicate m zl).flatten=c.vs (List.replicate m ()):=by
  show _=(List.replicate m ()).flatMap fun _=>zl
  rw[List.flatMap,List.map_replicate]
 rw[e]
 apply Array.ext_getElem?
 intro t
 have e3:(c.vs (List.replicate m ())).toArray[t]?=(c.vs (List.replicate m ()))[t]?:=List.getElem?_toArray
 rw[e3]
 by_cases ht:t<m*zl.length
 ·rw[xh c _ t (by rw[List.length_replicate];exact ht)]
  unfold madeCells
  rw[Array.getElem?_map,Array.getElem?_range,if_pos ht]
  show some (zl.toArray[t % zl.toArray.size]!)=some (zl[t % zl.length]!)
  simp
 ·rw[Array.getElem?_eq_none (by rw[size_madeCells];omega),List.getElem?_eq_none (by rw[c.vs_len,List.length_replicate];show m*zl.length≤t;omega)]
section
variable {E:World} {P:Program} {ops:Array Oper} {K:aH→OL→Prop} {env:aH} {O:OL} {rest:List Oper} {d ty:Nat} {pos:String} {af:Array Edge} {x y:Operand} {t e:TypeId}
end
end
section
def lX {α β:Type} (f:α→Option β):List α→Option (List β)
 |[]=>some []
 |x::l=>match f x,lX f l with
  |some y,some m=>some (y::m)
  |_,_=>none
theorem gr {φ:bV} {α:Type} {f:α→Option EV} {g:α→Value} (h:∀x a,f x=some a→aQ φ a (g x)):∀(l:List α) (m:List EV),lX f l=some m→RelVs φ m (l.map g)
 |[],m,e=>by cases e;rfl
 |x::l,m,e=>by
  unfold lX at e
  split at e
  ·rename_i y m' h1 h2
   cases e
   exact ⟨_,_,rfl,h x y h1,gr h l m' h2⟩
  ·cases e
def vE:Nat→Value→Option EV
 |0,_=>none
 |n+1,v=>match v with
  |.bool b=>some (.b b)
  |.int k i=>some (.i k i)
  |.string s=>some (.s s)
  |.pointer none=>some .np
  |.slice none 0 0=>some .ns
  |.map none=>some .nm
  |.nilFunc=>some .nf
  |.nilIface=>some .ni
  |.agg cs=>(lX (vE n) cs.toList).map EV.ag
  |_=>none
theorem ky {φ:bV}:∀(n:Nat) (v:Value) (a:EV),vE n v=some a→aQ φ a v
 |0,_,_,h=>by cases h
 |n+1,v,a,h=>by
  unfold vE at h
  split at h
  case h_9 cs=>
   obtain ⟨m,hm,rfl⟩:=Option.map_eq_some_iff.1 h
   have:=gr (φ:=φ) (g:=id) (ky n) cs.toList m hm
   exact ⟨cs.toList,by simp,by simpa using this⟩
  all_goals first|(cases h;rfl)|cases h
noncomputable def bN (g:Nat→EV):Operand→Option EV
 |.tmp t=>some (g t)
 |.const v=>vE 5 v
 |.func f=>some (.fn f [] [])
 |.global _=>none
section
variable {φ:bV} {g:Nat→EV} {ρ:bF}
theorem aL (hg:dz φ g ρ) {x:Operand} {a:EV} (h:bN g x=some a):aQ φ a (ev ρ x):=by
 cases x<;>simp only[bN] at h
 ·cases h;exact hg _
 ·exact ky _ _ _ h
 ·cases h
 ·cases h;exact ⟨[],[],rfl,rfl,rfl⟩
theorem kz (hg:dz φ g ρ) {l:List Operand} {m:List EV} (h:lX (bN g) l=some m):RelVs φ m (l.map (ev ρ)):=gr (fun _ _=>aL hg) l m h
end
noncomputable def oJ (g:Nat→EV):Option Operand→Option (Option Nat)
 |none=>some none
 |some x=>match bN g x with
  |some (.i _ n)=>(gi n).map some
  |_=>none
theorem nB {φ:bV} {g:Nat→EV} {ρ:bF} (hg:dz φ g ρ) {x:Option Operand} {n:Option Nat} (h:oJ g x=some n):pS (x.map (ev ρ)) n:=by
 cases x with
 |none=>cases h;trivial
 |some x=>
  unfold oJ at h
  dsimp only at h
  split at h
  ·rename_i k i hx
   obtain ⟨j,hj,rfl⟩:=Option.map_eq_some_iff.1 h
   have:=aL hg hx
   exact ⟨k,by rw[show ev ρ x=.int k i from this,eJ hj]⟩
  ·cases h
noncomputable def iL (T:TT):Nat→TypeId→EV→EV→Option Bool
 |0,_,_,_=>none
 |n+1,t,x,y=>match T t with
  |some i=>match i.d,x,y with
   |.bool,.b a,.b c=>some (a == c)
   |.int _,.i k a,.i k' c=>if k=k' then some (a == c) else none
   |.string,.s a,.s c=>some (mh a c)
   |.array len e,.ag xs,.ag ys=>match T e with
    |some ie=>(lX (fun j=>match da T e xs (j*ie.size),da T e ys (j*ie.size) with
     |some a,some c=>iL T n e a c
     |_,_=>none) (List.range len)).map fun l=>l.all id
    |none=>none
   |.struct fs,.ag xs,.ag ys=>bif i.q then (lX (fun f:Field=>match da T f.type xs f.offset,da T f.type ys f.offset with
     |some a,some c=>iL T n f.type a c
     |_,_=>none) fs.toList).map fun l=>l.all id
    else none
   |_,_,_=>none
  |none=>none
theorem iM {P:Program} {α:Type} {body:α→Option Bool × Unit→Sem (ForInStep (Option Bool × Unit))} {w:World}:∀(l:List α) (bs:List Bool),bs.length=l.length →
  (∀(j:Nat) (i:α) b,l[j]?=some i→bs[j]?=some b→(body i (none,())).run P w=.ok (if b=true then .yield (none,()) else .done (some false,())) w) →
  (forIn l ((none,()):Option Bool × Unit) body).run P w=.ok (if bs.all id=true then (none,()) else (some false,())) w
 |[],bs,hl,_=>by
  have:bs=[]:=List.eq_nil_of_length_eq_zero hl
  subst this
  rfl
 |i::l,[],hl,_=>by cases hl
 |i::l,b::bs,hl,h=>by
  rw[List.forIn_cons,Sem.run_bind,h 0 i b rfl rfl]
  cases b with
  |true=>
   simp only[if_pos,Result.andThen_ok]
   rw[iM l bs (by simpa using hl) fun j i' b' h1 h2=>h (j+1) i' b' h1 h2]
   simp
  |false=>simp
theorem gv {P:Program} {φ:bV} {T:TT} (hT:b8 P T) {w:World}:∀(n:Nat) (t:TypeId) (x y:EV) (a c:Value) (b:Bool),iL T n t x y=some b→aQ φ x a→aQ φ y c→∀d,n≤d→(Op.equalIn d t a c).run P w=.ok b w
 |0,_,_,_,_,_,_,h,_,_,_,_=>by cases h
 |n+1,t,x,y,a,c,b,h,hx,hy,d,hd=>by
  obtain ⟨d,rfl⟩:∃d',d=d'+1:=⟨d - 1,by omega⟩
  unfold iL at h
  split at h
  ·rename_i i hi
   have hu:=(hT t i hi).und
   split at h
   ·rename_i a' c' hdd
    rw[hdd] at hu
    have hx:a=.bool a':=hx
    have hy:c=.bool c':=hy
    cases h;subst hx hy
    simp[Op.equalIn,run_underlying hu]
   ·rename_i k0 k a' k' c' hdd
    rw[hdd] at hu
    have hx:a=.int k a':=hx
    have hy:c=.int k' c':=hy
    subst hx hy
    split at h
    ·rename_i e
     subst e
     cases h
     simp[Op.equalIn,run_underlying hu]
    ·cases h
   ·rename_i a' c' hdd
    rw[hdd] at hu
    have hx:a=.string a':=hx
    have hy:c=.string c':=hy
    cases h;subst hx hy
    have e:(a' == c')=decide (a'=c'):=by
     cases hb:(a' == c') with
     |true=>rw[qx ((MapKept.bytes_beq a' c').1 hb)]
     |false=>rw[qy fun q=>by rw[(MapKept.bytes_beq a' c').2 q] at hb;cases hb]
    rw[fD,←e]
    simp[Op.equalIn,run_underlying hu]
   ·rename_i len e xs ys hdd
    rw[hdd] at hu
    obtain ⟨vs,rfl,hv⟩:=hx
    obtain ⟨us,rfl,hu2⟩:=hy
    split at h
    ·rename_i ie hie
     have hTe:=hT e ie hie
     obtain ⟨bs,hbs,rfl⟩:=Option.map_eq_some_iff.1 h
     have hget:∀(l:List Nat) (bs:List Bool),lX (fun j=>match da T e xs (j*ie.size),da T e ys (j*ie.size) with
       |some a,some c=>iL T n e a c
       |_,_=>none) l=some bs→bs.length=l.length∧∀(j i:Nat) b,l[j]?=some i→bs[j]?=some b→∃p q,da T e xs (i*ie.size)=some p∧da T e ys (i*ie.size)=some q∧iL T n e p q=some b:=by
      intro l
      induction l with
      |nil=>intro bs hb;cases hb;exact ⟨rfl,fun j i b h=>by simp at h⟩
      |cons i0 l ih=>
       intro bs hb
       unfold lX at hb
       split at hb
       ·rename_i y m h1 h2
        cases hb
        obtain ⟨g1,g2⟩:=ih m h2
        refine ⟨by simp[g1],fun j i b h3 h4=>?_⟩
        cases j with
        |zero=>
         simp only[List.getElem?_cons_zero,Option.some.injEq] at h3 h4
         subst h3 h4
         split at h1
         ·rename_i p q e1 e2;exact ⟨p,q,e1,e2,h1⟩
         ·cases h1
        |succ j=>simp only[List.getElem?_cons_succ] at h3 h4;exact g2 j i b h3 h4
       ·cases hb
     obtain ⟨g1,g2⟩:=hget _ _ hbs
     rw[Op.equalIn]
     simp only[Sem.run_bind,run_underlying hu,Result.andThen_ok,hTe.sz]
     rw[Std.Legacy.Range.forIn_eq_forIn_range']
     have hr:List.range' 0 (Std.Legacy.Range.size [:len]) 1=List.range len:=by
      simp[Std.Legacy.Range.size,List.range_eq_range']
     rw[show List.range' ([:len]:Std.Legacy.Range).start ([:len]:Std.Legacy.Range).size ([:len]:Std.Legacy.Range).step=List.range len from hr]
     rw[iM (List.range len) bs g1 fun j i b h1 h2=>by
      obtain ⟨p,q,e1,e2,e3⟩:=g2 j i b h1 h2
      obtain ⟨v1,k1,k2⟩:=dR (w:=w) hT e1 hv
      obtain ⟨v2,k3,k4⟩:=dR (w:=w) hT e2 hu2
      have k5:=gv (w:=w) hT n e p q v1 v2 b e3 k2 k4 d (by omega)
      simp only[Sem.run_bind,k1,k3,k5,Result.andThen_ok]
      cases b<;>rfl]
     cases hall:bs.all id<;>simp
    ·cases h
   ·rename_i fs xs ys hdd
    have hq:=(hT t i hi).qd
    rw[hdd] at hu
    obtain ⟨vs,rfl,hv⟩:=hx
    obtain ⟨us,rfl,hu2⟩:=hy
    cases hqq:i.q with
    |false=>rw[hqq] at h;cases h
    |true=>
     rw[hqq] at h
     simp only[cond_true] at h
     obtain ⟨hs1,hs2⟩:=hq hqq
     have hs2:=hs2 fs hdd
     obtain ⟨bs,hbs,rfl⟩:=Option.map_eq_some_iff.1 h
     have hget:∀(l:List Field) (bs:List Bool),lX (fun f:Field=>match da T f.type xs f.offset,da T f.type ys f.offset with
       |some a,some c=>iL T n f.type a c
       |_,_=>none) l=some bs→bs.length=l.length∧∀(j:Nat) (f:Field) b,l[j]?=some f→bs[j]?=some b→∃p q,da T f.type xs f.offset=some p∧da T f.type ys f.offset=some q∧iL T n f.type p q=some b:=by
      intro l
      induction l with
      |nil=>intro bs hb;cases hb;exact ⟨rfl,fun j i b h=>by simp at h⟩
      |cons i0 l ih=>
       intro bs hb
       unfold lX at hb
       split at hb
       ·rename_i y m h1 h2
        cases hb
        obtain ⟨g1,g2⟩:=ih m h2
        refine ⟨by simp[g1],fun j i b h3 h4=>?_⟩
        cases j with
        |zero=>
         simp only[List.getElem?_cons_zero,Option.some.injEq] at h3 h4
         subst h3 h4
         split at h1
         ·rename_i p q e1 e2;exact ⟨p,q,e1,e2,h1⟩
         ·cases h1
        |succ j=>simp only[List.getElem?_cons_succ] at h3 h4;exact g2 j i b h3 h4
       ·cases hb
     obtain ⟨g1,g2⟩:=hget _ _ hbs
     rw[Op.equalIn]
     have hpr:(program:Sem Program).run P w=.ok P w:=rfl
     simp only[Sem.run_bind,run_underlying hu,Result.andThen_ok,hpr,hs1]
     rw[if_neg (by decide)]
     simp only[Sem.run_bind,Sem.run_pure,Result.andThen_ok]
     rw[←Array.forIn_toList]
     rw[iM fs.toList bs g1 fun j f b h1 h2=>by
      obtain ⟨p,q,e1,e2,e3⟩:=g2 j f b h1 h2
      obtain ⟨v1,k1,k2⟩:=dR (w:=w) hT e1 hv
      obtain ⟨v2,k3,k4⟩:=dR (w:=w) hT e2 hu2
      have k5:=gv (w:=w) hT n f.type p q v1 v2 b e3 k2 k4 d (by omega)
      rw[if_pos (hs2 f (qv h1))]
      simp only[Sem.run_bind,k1,k3,k5,Result.andThen_ok]
      cases b<;>rfl]
     cases hall:bs.all id<;>simp
   ·cases h
  ·cases h
noncomputable def xi (T:TT) (i:TI) (t:Nat) (v:EV) (ok:Bool):Option EV:=match i.d,T t with
 |.interface want,some it=>bif it.mi want then some (bif ok then .tu [.ifc t v,.b true] else .ifc t v) else bif ok then some (.tu [i.v,.b false]) else none
 |_,_=>none
noncomputable def CJ (T:TT) (g:Nat→EV) (op:Op):Option EV:=
 match op with
 |.move x | .assign x=>bN g x
 |.pick c a b=>match bN g c with
  |some (.b t)=>bif t then bN g a else bN g b
  |_=>none
 |.binOp op t x y _=>match bN g x,bN g y with
  |some a,some b=>match ru T op t y a b with
   |some z=>some z
   |none=>match op,a,b,T t with
    |.eql,.ag l,.ag m,some i=>bif i.g then (iL T 9 t (.ag l) (.ag m)).map EV.b else none
    |.neq,.ag l,.ag m,some i=>bif i.g then (iL T 9 t (.ag l) (.ag m)).map fun z=>.b (!z) else none
    |_,_,_,_=>none
  |_,_=>none
 |.unOp op _ x=>match bN g x with
  |some a=>Az op a
  |none=>none
 |.extract x i=>match bN g x with
  |some (.tu l)=>l[i]?
  |_=>none
 |.nilCheck x=>match bN g x with
  |some (.p b off)=>some (.p b off)
  |_=>none
 |.fieldAddr t x f=>match bN g x with
  |some (.p b off)=>km T t f b off
  |_=>none
 |.field t x f=>match bN g x with
  |some (.ag cs)=>ko T t f cs
  |_=>none
 |.indexAddr t x y=>match bN g x,bN g y with
  |some a,some (.i _ n)=>ny T t a n
  |_,_=>none
 |.index t x y=>match bN g x,bN g y with
  |some a,some (.i _ n)=>rx T t a n
  |_,_=>none
 |.build t ps=>match lX (fun p:Nat × Operand=>bN g p.2) ps.toList with
  |some vs=>kq T t (ps.toList.map (·.1)) vs
  |none=>none
 |.slice t x lo hi mx=>match bN g x,oJ g lo,oJ g hi,oJ g mx with
  |some a,some lo',some hi',some mx'=>AB T t a lo' hi' mx'
  |_,_,_,_=>none
 |.convert s d x=>match bN g x with
  |some a=>nA T s d a
  |none=>none
 |.makeInterface t x=>match bN g x with
  |some a=>ry T t a
  |none=>none
 |.makeFunc (.func f) a c=>match lX (bN g) a.toList,lX (bN g) c.toList with
  |some l,some m=>some (.fn f l m)
  |_,_=>none
 |.typeAssert x _ A ok=>match bN g x,T A with
  |some (.ifc t v),some i=>bif oI i.d then (bif Nat.beq t A then some (bif ok then .tu [v,.b true] else v) else bif ok then some (.tu [i.v,.b false]) else none) else xi T i t v ok
  |some .ni,some i=>bif oI i.d&&ok then some (.tu [i.v,.b false]) else none
  |_,_=>none
 |.call ⟨.builtin .len,ar,ts⟩=>match ar.toList,ts.toList with
  |[x],[t]=>match bN g x with
   |some a=>rz T t a
   |none=>none
  |_,_=>none
 |.call ⟨.builtin .cap,ar,ts⟩=>match ar.toList,ts.toList with
  |[x],[t]=>match bN g x with
   |some a=>rA T t a
   |none=>none
  |_,_=>none
 |.call ⟨.builtin .min,ar,_⟩=>match ar.toList with
  |[x,y]=>match bN g x,bN g y with
   |some (.i k a),some (.i k' b)=>if k=k' then some (.i k (if b<a then b else a)) else none
   |_,_=>none
  |_=>none
 |.call ⟨.builtin .max,ar,_⟩=>match ar.toList with
  |[x,y]=>match bN g x,bN g y with
   |some (.i k a),some (.i k' b)=>if k=k' then some (.i k (if a<b then b else a)) else none
   |_,_=>none
  |_=>none
 |_=>none
noncomputable def AD (g:Nat→EV) (c a b:Operand):Option EV:=match bN g c with
 |some (.b t)=>bif t then bN g a else bN g b
 |_=>none
noncomputable def AE (T:TT) (op:BinOp) (t:TypeId) (a b:EV):Option EV:=match op,a,b,T t with
 |.eql,.ag l,.ag m,some i=>bif i.g then (iL T 9 t (.ag l) (.ag m)).map EV.b else none
 |.neq,.ag l,.ag m,some i=>bif i.g then (iL T 9 t (.ag l) (.ag m)).map fun z=>.b (!z) else none
 |_,_,_,_=>none
noncomputable def CK (T:TT) (g:Nat→EV) (op:BinOp) (t:TypeId) (x y:Operand):Option EV:=match bN g x,bN g y with
 |some a,some b=>match ru T op t y a b with
  |some z=>some z
  |none=>AE T op t a b
 |_,_=>none
noncomputable def DE (g:Nat→EV) (op:UnOp) (x:Operand):Option EV:=match bN g x with
 |some a=>Az op a
 |none=>none
noncomputable def CL (g:Nat→EV) (x:Operand) (i:Nat):Option EV:=match bN g x with
 |some (.tu l)=>l[i]?
 |_=>none
noncomputable def CM (g:Nat→EV) (x:Operand):Option EV:=match bN g x with
 |some (.p b off)=>some (.p b off)
 |_=>none
noncomputable def DF (T:TT) (g:Nat→EV) (t:Nat) (x:Operand) (f:Nat):Option EV:=match bN g x with
 |some (.p b off)=>km T t f b off
 |_=>none
noncomputable def DG (T:TT) (g:Nat→EV) (t:Nat) (x:Operand) (f:Nat):Option EV:=match bN g x with
 |some (.ag cs)=>ko T t f cs
 |_=>none
noncomputable def DH (T:TT) (g:Nat→EV) (t:Nat) (x y:Operand):Option EV:=match bN g x,bN g y with
 |some a,some (.i _ n)=>ny T t a n
 |_,_=>none
noncomputable def DI (T:TT) (g:Nat→EV) (t:Nat) (x y:Operand):Option EV:=match bN g x,bN g y with
 |some a,some (.i _ n)=>rx T t a n
 |_,_=>none
noncomputable def CN (T:TT) (g:Nat→EV) (t:Nat) (ps:Array (Nat × Operand)):Option EV:=match lX (fun p:Nat × Operand=>bN g p.2) ps.toList with
 |some vs=>kq T t (ps.toList.map (·.1)) vs
 |none=>none
noncomputable def DJ (T:TT) (g:Nat→EV) (t:Nat) (x:Operand) (lo hi mx:Option Operand):Option EV:=match bN g x,oJ g lo,oJ g hi,oJ g mx with
 |some a,some lo',some hi',some mx'=>AB T t a lo' hi' mx'
 |_,_,_,_=>none
noncomputable def DK (T:TT) (g:Nat→EV) (s d:Nat) (x:Operand):Option EV:=match bN g x with
 |some a=>nA T s d a
 |none=>none
noncomputable def DL (T:TT) (g:Nat→EV) (t:Nat) (x:Operand):Option EV:=match bN g x with
 |some a=>ry T t a
 |none=>none
noncomputable def DM (g:Nat→EV) (fn:Go.Fn) (a c:Array Operand):Option EV:=match fn with
 |.func f=>match lX (bN g) a.toList,lX (bN g) c.toList with
  |some l,some m=>some (.fn f l m)
  |_,_=>none
 |_=>none
noncomputable def DN (T:TT) (g:Nat→EV) (x:Operand) (A:TypeId) (ok:Bool):Option EV:=match bN g x,T A with
 |some (.ifc t v),some i=>bif oI i.d then (bif Nat.beq t A then some (bif ok then .tu [v,.b true] else v) else bif ok then some (.tu [i.v,.b false]) else none) else xi T i t v ok
 |some .ni,some i=>bif oI i.d&&ok then some (.tu [i.v,.b false]) else none
 |_,_=>none
noncomputable def CO (T:TT) (g:Nat→EV) (ar:Array Operand) (ts:Array TypeId):Option EV:=match ar.toList,ts.toList with
 |[x],[t]=>match bN g x with
  |some a=>rz T t a
  |none=>none
 |_,_=>none
noncomputable def CP (T:TT) (g:Nat→EV) (ar:Array Operand) (ts:Array TypeId):Option EV:=match ar.toList,ts.toList with
 |[x],[t]=>match bN g x with
  |some a=>rA T t a
  |none=>none
 |_,_=>none
noncomputable def CQ (g:Nat→EV) (ar:Array Operand):Option EV:=match ar.toList with
 |[x,y]=>match bN g x,bN g y with
  |some (.i k a),some (.i k' b)=>if k=k' then some (.i k (if b<a then b else a)) else none
  |_,_=>none
 |_=>none
noncomputable def CR (g:Nat→EV) (ar:Array Operand):Option EV:=match ar.toList with
 |[x,y]=>match bN g x,bN g y with
  |some (.i k a),some (.i k' b)=>if k=k' then some (.i k (if a<b then b else a)) else none
  |_,_=>none
 |_=>none
noncomputable def DO (T:TT) (g:Nat→EV) (b:Builtin) (ar:Array Operand) (ts:Array TypeId):Option EV:=match b with
 |.len=>CO T g ar ts
 |.cap=>CP T g ar ts
 |.min=>CQ g ar
 |.max=>CR g ar
 |_=>none
noncomputable def DP (T:TT) (g:Nat→EV) (c:Call):Option EV:=match c with
 |⟨.builtin b,ar,ts⟩=>DO T g b ar ts
 |_=>none
noncomputable def DQ (T:TT) (g:Nat→EV) (op:Op):Option EV:=
 match op with
 |.move x=>bN g x
 |.assign x=>bN g x
 |.pick c a b=>AD g c a b
 |.binOp op t x y _=>CK T g op t x y
 |.unOp op _ x=>DE g op x
 |.extract x i=>CL g x i
 |.nilCheck x=>CM g x
 |.fieldAddr t x f=>DF T g t x f
 |.field t x f=>DG T g t x f
 |.indexAddr t x y=>DH T g t x y
 |.index t x y=>DI T g t x y
 |.build t ps=>CN T g t ps
 |.slice t x lo hi mx=>DJ T g t x lo hi mx
 |.convert s d x=>DK T g s d x
 |.makeInterface t x=>DL T g t x
 |.makeFunc fn a c=>DM g fn a c
 |.typeAssert x _ A ok=>DN T g x A ok
 |.call c=>DP T g c
 |_=>none
theorem CS (T:TT) (g:Nat→EV) (op:Op):DQ T g op=CJ T g op:=by
 cases op<;>try rfl
 case makeFunc fn a c=>cases fn<;>rfl
 case call c=>
  obtain ⟨cl,ar,ts⟩:=c
  cases cl<;>try rfl
  rename_i b
  cases b<;>rfl
theorem eK {P:Program} {s:Sem Value} {v:Value} {w w':World} (h:s.run P w=.ok v w'):(do pure (Next.value (←s)):Sem Next).run P w=.ok (.value v) w':=by
 rw[Sem.run_bind,h];rfl
theorem vF {α:Type} {a:Array α} {x:α} (h:a.toList=[x]):a=#[x]:=Array.toList_inj.1 h
theorem vG {α:Type} {a:Array α} {x y:α} (h:a.toList=[x,y]):a=#[x,y]:=Array.toList_inj.1 h
section
variable {P:Program} {φ:bV} {g:Nat→EV} {ρ:bF} {w:World} {T:TT}
theorem AF (hT:b8 P T) (hg:dz φ g ρ) {o:Oper} {x:EV} (h:CJ T g o.op=some x):∃v,(execOp (ev ρ) o).run P w=.ok (.value v) w∧aQ φ x v:=by
 obtain ⟨dst,op,ty,pos,af,gu⟩:=o
 dsimp only at h
 unfold CJ at h
 split at h
 ·exact ⟨_,rfl,aL hg h⟩
 ·exact ⟨_,rfl,aL hg h⟩
 ·split at h
  ·rename_i c a b _ t hc
   have hc:ev ρ c=.bool t:=aL hg hc
   cases t
   ·exact ⟨_,by simp[execOp,hc,asBool],aL hg h⟩
   ·exact ⟨_,by simp[execOp,hc,asBool],aL hg h⟩
  ·cases h
 ·split at h
  ·rename_i op t x y u _ _ a b hx hy
   split at h
   ·rename_i z hz
    cases h
    obtain ⟨v,h1,h2⟩:=xc (w:=w) (p:=x) hT hz (aL hg hx) (aL hg hy)
    exact ⟨v,eK h1,h2⟩
   ·split at h
    ·rename_i l m i hi _
     cases hgd:i.g with
     |false=>rw[hgd] at h;cases h
     |true=>
      rw[hgd] at h
      obtain ⟨r,hr,rfl⟩:=Option.map_eq_some_iff.1 h
      obtain ⟨vs,e1,h1⟩:=aL hg hx
      obtain ⟨us,e2,h2⟩:=aL hg hy
      have he:=gv (w:=w) hT 9 t _ _ _ _ r hr ⟨vs,e1,h1⟩ ⟨us,e2,h2⟩ 10000 (by omega)
      have hgg:=(hT t i hi).gd hgd
      refine ⟨.bool r,?_,Z⟩
      rw[e1,e2] at he
      simp only[execOp,e1,e2]
      simp[run_eqGuard_agg w .eql t x y vs.toArray us.toArray hgg,run_eql_struct,he]
    ·rename_i l m i hi _
     cases hgd:i.g with
     |false=>rw[hgd] at h;cases h
     |true=>
      rw[hgd] at h
      obtain ⟨r,hr,rfl⟩:=Option.map_eq_some_iff.1 h
      obtain ⟨vs,e1,h1⟩:=aL hg hx
      obtain ⟨us,e2,h2⟩:=aL hg hy
      have he:=gv (w:=w) hT 9 t _ _ _ _ r hr ⟨vs,e1,h1⟩ ⟨us,e2,h2⟩ 10000 (by omega)
      have hgg:=(hT t i hi).gd hgd
      refine ⟨.bool (!r),?_,Z⟩
      rw[e1,e2] at he
      simp only[execOp,e1,e2]
      simp[run_eqGuard_agg w .neq t x y vs.toArray us.toArray hgg,run_neq_struct,he]
    ·cases h
  ·cases h
 ·split at h
  ·rename_i a hx
   obtain ⟨v,h1,h2⟩:=AA (P:=P) (w:=w) h (aL hg hx)
   exact ⟨v,eK h1,h2⟩
  ·cases h
 ·split at h
  ·rename_i x i _ l hx
   obtain ⟨vs,he,h1⟩:=aL hg hx
   obtain ⟨v,h2,h3⟩:=h1.get h
   refine ⟨v,eK ?_,h3⟩
   rw[he]
   simp[Instr.extract,h2]
  ·cases h
 ·split at h
  ·rename_i x _ b off hx
   cases h
   obtain ⟨q,hq,he⟩:=aL hg hx
   exact ⟨_,by simp[execOp,he],q,hq,rfl⟩
  ·cases h
 ·split at h
  ·rename_i hx
   obtain ⟨v,h1,h2⟩:=pQ (w:=w) hT h (aL hg hx)
   exact ⟨v,eK h1,h2⟩
  ·cases h
 ·split at h
  ·rename_i hx
   obtain ⟨v,h1,h2⟩:=pR (w:=w) hT h (aL hg hx)
   exact ⟨v,eK h1,h2⟩
  ·cases h
 ·split at h
  ·rename_i hx hy
   obtain ⟨v,h1,h2⟩:=vC (w:=w) hT h (aL hg hx) (aL hg hy)
   exact ⟨v,eK h1,h2⟩
  ·cases h
 ·split at h
  ·rename_i hx hy
   obtain ⟨v,h1,h2⟩:=xd (w:=w) hT h (aL hg hx) (aL hg hy)
   exact ⟨v,eK h1,h2⟩
  ·cases h
 ·split at h
  ·rename_i t ps _ vs hx
   have h1:=gr (φ:=φ) (g:=fun p:Nat × Operand=>ev ρ p.2) (fun p a hp=>aL hg hp) ps.toList vs hx
   obtain ⟨v,h2,h3⟩:=pT (w:=w) (parts:=ps.toList.map fun p=>(p.1,ev ρ p.2)) hT (by rw[List.map_map];exact h) (by rw[List.map_map];exact h1)
   refine ⟨v,eK ?_,h3⟩
   have e:((ps.toList.map fun p=>(p.1,ev ρ p.2)).toArray)=ps.map fun p=>(p.1,ev ρ p.2):=by apply Array.toList_inj.1;simp
   rw[e] at h2
   exact h2
  ·cases h
 ·split at h
  ·rename_i hx h1 h2 h3
   obtain ⟨v,h4,h5⟩:=AC (w:=w) hT h (aL hg hx) (nB hg h1) (nB hg h2) (nB hg h3)
   exact ⟨v,eK h4,h5⟩
  ·cases h
 ·split at h
  ·rename_i hx
   obtain ⟨v,h1,h2⟩:=vD (w:=w) hT h (aL hg hx)
   exact ⟨v,eK h1,h2⟩
  ·cases h
 ·split at h
  ·rename_i hx
   obtain ⟨v,h1,h2⟩:=xe (w:=w) hT h (aL hg hx)
   exact ⟨v,eK h1,h2⟩
  ·cases h
 ·split at h
  ·rename_i f a c _ _ l m h1 h2
   cases h
   refine ⟨.func (.func f) (a.map (ev ρ)) (c.map (ev ρ)),by simp[execOp,Instr.makeFunc],_,_,?_,kz hg h1,kz hg h2⟩
   congr 1<;>(apply Array.toList_inj.1;simp)
  ·cases h
 ·rename_i x' X A ok
  split at h
  ·rename_i t v i hx hi
   obtain ⟨u,he,hr⟩:=aL hg hx
   have hu:=(hT A i hi).und
   obtain ⟨zv,hz,hzr⟩:=(hT A i hi).zeroV
   cases hd:oI i.d with
   |false=>
    rw[hd] at h
    simp only[cond_false] at h
    unfold xi at h
    split at h
    ·rename_i want it hw hit
     rw[hw] at hu
     obtain ⟨f,hf,hmi⟩:=(hT t it hit).md
     have hmi:=hmi want
     have hpr:∀w,(program:Sem Program).run P w=.ok P w:=fun _=>rfl
     have hti:∀w,(typeInfo t).run P w=.ok f w:=fun w=>by
      simp only[typeInfo,Sem.run_bind,hpr,Result.andThen_ok,hf]
      rfl
     cases hb:it.mi want with
     |true=>
      rw[hb] at h hmi
      have hm:Instr.missingMethod want f.methods=none:=Option.isNone_iff_eq_none.1 hmi
      cases ok with
      |true=>
       cases h
       refine ⟨.tuple #[.iface t u,.bool true],?_,[.iface t u,.bool true],Z,_,_,Z,⟨u,Z,hr⟩,_,_,Z,Z,Z⟩
       simp only[execOp,Instr.typeAssert,Sem.run_bind,run_underlying hu,he,Result.andThen_ok,hti,hm]
       rfl
      |false=>
       cases h
       refine ⟨.iface t u,?_,⟨u,Z,hr⟩⟩
       simp only[execOp,Instr.typeAssert,Sem.run_bind,run_underlying hu,he,Result.andThen_ok,hti,hm]
       rfl
     |false=>
      rw[hb] at h hmi
      cases ok with
      |false=>cases h
      |true=>
       cases h
       obtain ⟨m,hm⟩:∃m,Instr.missingMethod want f.methods=some m:=by
        cases hq:Instr.missingMethod want f.methods with
        |none=>rw[hq] at hmi;cases hmi
        |some m=>exact ⟨m,rfl⟩
       refine ⟨.tuple #[zv,.bool false],?_,[zv,.bool false],Z,_,_,Z,hzr φ,_,_,Z,Z,Z⟩
       simp only[execOp,Instr.typeAssert,Sem.run_bind,run_underlying hu,he,Result.andThen_ok,hti,hm,if_true,hz]
       rfl
    ·cases h
   |true=>
    rw[hd] at h
    simp only[cond_true] at h
    cases htA:Nat.beq t A with
    |true=>
     rw[htA] at h
     have htA:=Nat.eq_of_beq_eq_true htA
     subst htA
     cases ok with
     |true=>
      cases h
      refine ⟨.tuple #[u,.bool true],?_,[u,.bool true],Z,_,_,Z,hr,_,_,Z,Z,Z⟩
      simp only[execOp,Instr.typeAssert,Sem.run_bind,run_underlying hu,he]
      revert hd
      cases i.d<;>intro hd<;>first|(simp;done)|cases hd
     |false=>
      cases h
      refine ⟨u,?_,hr⟩
      simp only[execOp,Instr.typeAssert,Sem.run_bind,run_underlying hu,he]
      revert hd
      cases i.d<;>intro hd<;>first|(simp;done)|cases hd
    |false=>
     rw[htA] at h
     have hne:¬t=A:=fun e=>by rw[e,show Nat.beq A A=true from Nat.beq_refl A] at htA;cases htA
     cases ok with
     |false=>cases h
     |true=>
      cases h
      refine ⟨.tuple #[zv,.bool false],?_,[zv,.bool false],Z,_,_,Z,hzr φ,_,_,Z,Z,Z⟩
      simp only[execOp,Instr.typeAssert,Sem.run_bind,run_underlying hu,he]
      revert hd
      cases i.d<;>intro hd<;>first|(simp[hne,hz];done)|cases hd
  ·rename_i i hx hi
   have he:ev ρ x'=.nilIface:=aL hg hx
   have hu:=(hT A i hi).und
   obtain ⟨zv,hz,hzr⟩:=(hT A i hi).zeroV
   cases hd:oI i.d with
   |false=>rw[hd] at h;cases h
   |true=>
    rw[hd] at h
    cases ok with
    |false=>cases h
    |true=>
     cases h
     refine ⟨.tuple #[zv,.bool false],?_,[zv,.bool false],Z,_,_,Z,hzr φ,_,_,Z,Z,Z⟩
     simp only[execOp,Instr.typeAssert,Sem.run_bind,run_underlying hu,he]
     revert hd
     cases i.d<;>intro hd<;>first|(simp[hz];done)|cases hd
  ·cases h
 ·split at h
  ·rename_i ar ts _ _ x t h1 h2
   have h1:=vF h1
   have h2:=vF h2
   subst h1 h2
   split at h
   ·rename_i a hx
    obtain ⟨v,h3,h4⟩:=xf (w:=w) (ty:=ty) hT h (aL hg hx)
    exact ⟨v,by simp[execOp,resolve,invoke,builtin,h3],h4⟩
   ·cases h
  ·cases h
 ·split at h
  ·rename_i ar ts _ _ x t h1 h2
   have h1:=vF h1
   have h2:=vF h2
   subst h1 h2
   split at h
   ·rename_i a hx
    obtain ⟨v,h3,h4⟩:=xg (w:=w) (ty:=ty) hT h (aL hg hx)
    exact ⟨v,by simp[execOp,resolve,invoke,builtin,h3],h4⟩
   ·cases h
  ·cases h
 ·split at h
  ·rename_i ar ts _ x y h1
   have h1:=vG h1
   subst h1
   split at h
   ·rename_i k a k' b hx hy
    have hx:ev ρ x=.int k a:=aL hg hx
    have hy:ev ρ y=.int k' b:=aL hg hy
    split at h
    ·rename_i e
     subst e
     cases h
     refine ⟨.int k (if b<a then b else a),?_,Z⟩
     simp[execOp,resolve,invoke,builtin,hx,hy,Builtin.min_,Builtin.min2,Result.andThen]
    ·cases h
   ·cases h
  ·cases h
 ·split at h
  ·rename_i ar ts _ x y h1
   have h1:=vG h1
   subst h1
   split at h
   ·rename_i k a k' b hx hy
    have hx:ev ρ x=.int k a:=aL hg hx
    have hy:ev ρ y=.int k' b:=aL hg hy
    split at h
    ·rename_i e
     subst e
     cases h
     refine ⟨.int k (if a<b then b else a),?_,Z⟩
     simp[execOp,resolve,invoke,builtin,hx,hy,Builtin.max_,Builtin.max2,Result.andThen]
    ·cases h
   ·cases h
  ·cases h
 ·cases h
theorem xj (hT:b8 P T) (hg:dz φ g ρ) {o:Oper} {x:EV} (h:DQ T g o.op=some x):∃v,(execOp (ev ρ) o).run P w=.ok (.value v) w∧aQ φ x v:=AF hT hg (CS T g o.op▸h)
end
set_option linter.defProp false
def yy:=@bV.put_same
def qe:=@cy.close
def qf:=@bV.le_put
end
end Go.Proofs.YtbconpmnckokoaaGreatDoor
