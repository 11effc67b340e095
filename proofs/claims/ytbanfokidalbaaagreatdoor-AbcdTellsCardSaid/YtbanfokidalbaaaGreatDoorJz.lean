/- An example, played: a closed call that answers yes, part by part. No conditions but the tables. -/
import Derived.Test.YtbanfokidalbaaaGreatDoorJy
import Derived.Test.YtbanfokidalbaaaGreatDoorJc
import Derived.Test.YtbanfokidalbaaaGreatDoorJg
set_option linter.unusedVariables false
set_option linter.unusedSimpArgs false
set_option linter.unusedSectionVars false
namespace Go.Proofs.YtbanfokidalbaaaGreatDoor
section
open Go.Proofs.Tryz
open Go.Proofs
structure ES where
 G:Tr EV
 H:Hp
 nx:Nat
inductive Ex where
 |nrm
 |ret
 |exit (i:Nat)
def Ex.to:Ex→Exit
 |.nrm=>.normal
 |.ret=>.ret
 |.exit i=>.exit i
noncomputable def vn (f:ES→Option (Ex × ES)):Nat→ES→Option (Ex × ES)
 |0,_=>none
 |n+1,s=>match f s with
  |some (.nrm,s')=>vn f n s'
  |r=>r
noncomputable def fR (T:TT) (call:dA) (fuel:Nat):Code→ES→Option (Ex × ES)
 |.skip,s=>some (.nrm,s)
 |.ret,s=>some (.ret,s)
 |.exit i,s=>some (.exit i,s)
 |.seq a b,s=>match fR T call fuel a s with
  |some (.nrm,s')=>fR T call fuel b s'
  |r=>r
 |.cond c a b,s=>match cV (gt s.G) c with
  |some (.b t)=>bif t then fR T call fuel a s else fR T call fuel b s
  |_=>none
 |.block id c,s=>match fR T call fuel c s with
  |some (.exit i,s')=>bif Nat.beq i id then some (.nrm,s') else some (.exit i,s')
  |r=>r
 |.loop c,s=>vn (fR T call fuel c) fuel s
 |.region _ ops d,s=>match (bif d then A8 T call ops.toList s.G s.H s.nx else xr T call ops.toList ops.toList s.G s.H s.nx) with
  |some (G,H,nx)=>some (.nrm,⟨G,H,nx⟩)
  |none=>none
 |_,_=>none
def fS (n:Nat):Code→Bool
 |.skip | .ret | .exit _=>true
 |.seq a b=>fS n a&&fS n b
 |.cond _ a b=>fS n a&&fS n b
 |.block _ c=>fS n c
 |.loop c=>fS n c
 |.region _ ops _=>gJ n ops.toList
 |_=>false
section
variable {P:Program} {T:TT} {call:dA} {F:List (Nat × Obj)} {E:World} {n:Nat}
theorem ED (hm:P.follows .mixedOrders=true) (hT:dV P T) (hC:er P E call) (fuel:Nat):∀(c:Code) (s s':ES) (ex:Ex),fS n c=true→fR T call fuel c s=some (ex,s') →
  ∀(φ:dG) (I:aT) (ρ:cO) (w:World) (Q:Exit→cO→World→Prop),fP φ (gt s.G) ρ→d4 I φ s.H s.nx F E w→(∀ρ' w',ka φ I F E s.nx s'.G s'.H s'.nx ρ' w'→Q ex.to ρ' w')→WP P n c Q ρ w:=by
 intro c
 induction c with
 |skip=>intro s s' ex _ h φ I ρ w Q hg hR hQ;cases h;exact WP.skip (hQ _ _ ⟨I,φ,.refl _,.refl _,fun _ _=>rfl,Nat.le_refl _,hg,hR⟩)
 |ret=>intro s s' ex _ h φ I ρ w Q hg hR hQ;cases h;exact WP.ret (hQ _ _ ⟨I,φ,.refl _,.refl _,fun _ _=>rfl,Nat.le_refl _,hg,hR⟩)
 |exit i=>intro s s' ex _ h φ I ρ w Q hg hR hQ;cases h;exact WP.exit (hQ _ _ ⟨I,φ,.refl _,.refl _,fun _ _=>rfl,Nat.le_refl _,hg,hR⟩)
 |seq a b iha ihb=>
  intro s s' ex ho h φ I ρ w Q hg hR hQ
  simp only[fS,w9] at ho
  simp only[fR] at h
  refine WP.seq ?_
  split at h
  ·rename_i s1 h1
   refine iha s s1 .nrm ho.1 h1 φ I ρ w _ hg hR fun ρ' w' ⟨J,ψ,a,b,c,d,e,f⟩=>?_
   exact ihb s1 s' ex ho.2 h ψ J ρ' w' Q e f fun ρ2 w2 hp=>hQ _ _ (ka.up a b c d hp)
  ·rename_i hne
   refine iha s s' ex ho.1 h φ I ρ w _ hg hR fun ρ' w' hp=>?_
   cases ex with
   |nrm=>exact absurd h (hne s')
   |ret=>exact hQ _ _ hp
   |exit i=>exact hQ _ _ hp
 |cond c a b iha ihb=>
  intro s s' ex ho h φ I ρ w Q hg hR hQ
  simp only[fS,w9] at ho
  simp only[fR] at h
  split at h
  ·rename_i t ht
   have hc:ev ρ c=.bool t:=aW hg ht
   refine WP.cond hc ?_
   cases t with
   |true=>rw[if_pos rfl];exact iha s s' ex ho.1 h φ I ρ w Q hg hR hQ
   |false=>rw[if_neg (by decide)];exact ihb s s' ex ho.2 h φ I ρ w Q hg hR hQ
  ·cases h
 |block id c ih=>
  intro s s' ex ho h φ I ρ w Q hg hR hQ
  simp only[fS] at ho
  simp only[fR] at h
  refine WP.block ?_
  split at h
  ·rename_i i s1 h1
   refine ih s s1 (.exit i) ho h1 φ I ρ w _ hg hR fun ρ' w' hp=>?_
   show if i=id then Q .normal ρ' w' else Q (.exit i) ρ' w'
   cases hb:Nat.beq i id with
   |true=>
    rw[hb] at h;cases h
    rw[if_pos (Nat.eq_of_beq_eq_true hb)];exact hQ _ _ hp
   |false=>
    rw[hb] at h;cases h
    rw[if_neg (fun e=>by rw[e,show Nat.beq id id=true from Nat.beq_refl id] at hb;cases hb)];exact hQ _ _ hp
  ·rename_i hne
   refine ih s s' ex ho h φ I ρ w _ hg hR fun ρ' w' hp=>?_
   cases ex with
   |nrm=>exact hQ _ _ hp
   |ret=>exact hQ _ _ hp
   |exit i=>exact absurd h (hne i s')
 |loop c ih=>
  intro s s' ex ho h φ I ρ w Q hg hR hQ
  simp only[fS] at ho
  simp only[fR] at h
  refine WP.loop (γ:=Nat × ES) (fun g ρ' w'=>vn (fR T call fuel c) g.1 g.2=some (ex,s')∧ka φ I F E s.nx g.2.G g.2.H g.2.nx ρ' w') (fun g=>g.1) (fuel,s) ⟨h,I,φ,.refl _,.refl _,fun _ _=>Z,Nat.le_refl _,hg,hR⟩ ?_
  rintro ⟨k,s1⟩ ρ1 w1 ⟨h1,J,ψ,a,b,c1,d,e,f⟩
  cases k with
  |zero=>cases h1
  |succ k=>
   simp only[vn] at h1
   split at h1
   ·rename_i s2 h2
    refine ih s1 s2 .nrm ho h2 ψ J ρ1 w1 _ e f fun ρ2 w2 hp=>?_
    exact ⟨(k,s2),⟨h1,ka.up a b c1 d hp⟩,Nat.lt_succ_self k⟩
   ·rename_i hne
    refine ih s1 s' ex ho h1 ψ J ρ1 w1 _ e f fun ρ2 w2 hp=>?_
    cases ex with
    |nrm=>exact absurd h1 (hne s')
    |ret=>exact hQ _ _ (ka.up a b c1 d hp)
    |exit i=>exact hQ _ _ (ka.up a b c1 d hp)
 |region id ops dr=>
  intro s s' ex ho h φ I ρ w Q hg hR hQ
  simp only[fS] at ho
  simp only[fR] at h
  have eo:ops=ops.toList.toArray:=by simp
  split at h
  ·rename_i G H nx hr
   cases h
   rw[eo]
   cases dr with
   |false=>
    simp only[cond_false] at hr
    exact WP.region ho (q3 (fun ρ' w' hp=>hQ ρ' w' hp) _ _ _ (se hT hC _ _ _ _ _ _ _ hr φ I ρ w hg hR))
   |true=>
    simp only[cond_true] at hr
    exact WP.regionDraw (fun _=>True) (fun _=>True) (fun _=>false) hm ho fun w' hw=>by
     subst hw
     exact EC hT hC hr hg hR.drew fun ρ' w' hp=>hQ ρ' w' hp
  ·cases h
 |_=>intro s s' ex ho;cases ho
noncomputable def nI:List EV→Nat→Tr EV→Tr EV
 |[],_,G=>G
 |x::l,i,G=>nI l (i+1) (G.set i (some x))
noncomputable def sn (T:TT) (G:Tr EV) (H:Hp):List ResultVar→Option (List EV)
 |[]=>some []
 |.tmp t::r=>match sn T G H r with
  |some l=>some (gt G t::l)
  |none=>none
 |.cell a t::r=>match gt G a,sn T G H r with
  |.p b off,some l=>match rZ T H t b off with
   |some x=>some (x::l)
   |none=>none
  |_,_=>none
def MT:List EV→EV
 |[x]=>x
 |l=>.tu l
inductive NR where
 |v (x:EV)
 |ss (l:List ByteArray)
abbrev EE:=Nat→List EV→Option NR
def A9 (s:String):Bool:=!(s == "runtime.NumGoroutine")
noncomputable def Hi (P:Program) (T:TT) (C:dA) (fuel:Nat):Nat→dA
 |0=>fun _ _ _ _=>none
 |d+1=>fun f ar H nx=>match C f ar H nx with
  |some r=>some r
  |none=>match P.funcs[f]? with
   |some fn=>match fn.body with
    |some c=>bif Nat.ble ar.length fn.ntmps&&fS fn.ntmps c&&A9 fn.name then
      match fR T (Hi P T C fuel d) fuel c ⟨nI ar 0 .lf,H,nx⟩ with
      |some (.exit _,_)=>none
      |some (_,s)=>match sn T s.G s.H fn.results.toList with
       |some l=>some (MT l,s.H,s.nx)
       |none=>none
      |none=>none
     else none
    |none=>none
   |none=>none
noncomputable def Lc (N:EE):dA:=fun f ar H nx=>match N f ar with
 |some (.v x)=>some (x,H,nx)
 |some (.ss l)=>bif l.isEmpty then none else some (.sl nx 0 l.length 1 .un,H.set nx (some (.kn (l.map EV.s))),nx+1)
 |none=>none
noncomputable def MY (C D:dA):dA:=fun f ar H nx=>match C f ar H nx with
 |some r=>some r
 |none=>D f ar H nx
theorem Ba {P:Program} {E:World} {C D:dA} (hC:er P E C) (hD:er P E D):er P E (MY C D):=fun f ar H nx x H' nx' h=>by
 unfold MY at h
 split at h
 ·rename_i r hr
  cases h
  exact hC _ _ _ _ _ _ _ hr
 ·exact hD _ _ _ _ _ _ _ h
def Cq (P:Program) (E:World) (N:EE):Prop:=
 (∀f ar x,N f ar=some (.v x)→∃as' r,aJ P E f as' r∧(∀φ vs,RelVs φ ar vs→∀I:G,RepL I as' vs)∧∀(I:G) v,bI I r v→∀φ,bh φ x v) ∧
 ∀f ar l,N f ar=some (.ss l)→∃as',aJ P E f as' (.fro 1 (l.map fun s=>[AV.str s]))∧∀φ vs,RelVs φ ar vs→∀I:G,RepL I as' vs
theorem oO:∀(l:List EV) (i:Nat) (G:Tr EV) (t:Nat),gt (nI l i G) t=if i≤t∧t<i+l.length then (l[t - i]?).getD .u else gt G t
 |[],i,G,t=>by rw[if_neg (by simp<;>omega)];rfl
 |x::l,i,G,t=>by
  unfold nI
  rw[oO l (i+1) (G.set i (some x)) t]
  by_cases h:i+1≤t∧t<i+1+l.length
  ·rw[if_pos h,if_pos (by simp only[List.length_cons];omega),show t - i=(t - (i+1))+1 by omega,List.getElem?_cons_succ]
  ·rw[if_neg h]
   unfold gt
   rw[Tr.get_set]
   by_cases e:t=i
   ·rw[if_pos e,if_pos (by simp only[List.length_cons];omega),e,Nat.sub_self];rfl
   ·rw[if_neg e,if_neg (by simp only[List.length_cons];omega)]
theorem Hj {φ:dG} {ar:List EV} {vs:List Value} (h:RelVs φ ar vs):fP φ (gt (nI ar 0 .lf)) (zD vs.toArray):=by
 intro t
 rw[oO]
 by_cases ht:t<ar.length
 ·rw[if_pos (by omega),Nat.sub_zero,qq ht]
  obtain ⟨v,hv,hr⟩:=h.get (qq ht)
  have:zD vs.toArray t=v:=by unfold zD;simp[hv]
  rw[this];exact hr
 ·rw[if_neg (by omega)]
  unfold gt
  rw[Tr.get_lf];trivial
theorem so {φ:dG} {I:aT} {H:Hp} {nx:Nat} {w:World} {G:Tr EV} {ρ:cO} (hT:dV P T) (hg:fP φ (gt G) ρ) (hR:d4 I φ H nx F E w):∀(rs:List ResultVar) (l:List EV),sn T G H rs=some l →
  ∃vs,RelVs φ l vs∧(rs.mapM (m:=Sem) fun x=>match x with
   |.tmp t=>Pure.pure (ρ t)
   |.cell a t=>do loadVar t (←asAddr (ρ a))).run P w=.ok vs w
 |[],l,h=>by cases h;exact ⟨[],rfl,rfl⟩
 |.tmp t::r,l,h=>by
  unfold sn at h
  split at h
  ·rename_i l' hl
   cases h
   obtain ⟨vs,h1,h2⟩:=so hT hg hR r l' hl
   refine ⟨ρ t::vs,⟨_,_,Z,hg t,h1⟩,?_⟩
   rw[List.mapM_cons]
   simp only[Sem.run_bind,Sem.run_pure,Result.andThen_ok,h2]
  ·cases h
 |.cell a t::r,l,h=>by
  unfold sn at h
  split at h
  ·rename_i b off l' hp hl
   split at h
   ·rename_i x hx
    cases h
    obtain ⟨vs,h1,h2⟩:=so hT hg hR r l' hl
    have ha:=hg a
    rw[hp] at ha
    obtain ⟨v,h3,h4⟩:=ue hT hR hx ha
    obtain ⟨q,hq,he⟩:=ha
    refine ⟨v::vs,⟨_,_,Z,h4,h1⟩,?_⟩
    have h5:(loadVar t ⟨q.r,q.sh+off,none⟩).run P w=.ok v w:=by
     rw[he] at h3
     simpa [Instr.loadAt,Instr.sureAddr] using h3
    have h6:(asAddr (ρ a)).run P w=.ok ⟨q.r,q.sh+off,none⟩ w:=by rw[he];rfl
    rw[List.mapM_cons]
    simp only[Sem.run_bind,h6,Sem.run_pure,Result.andThen_ok,h5,h2]
   ·cases h
  ·cases h
theorem Jm {N:EE} (hN:Cq P E N) {f:Nat} {ar:List EV} {x:EV} (h:N f ar=some (.v x)) {φ:dG} {I:aT} {H:Hp} {nx:Nat} {w:World} {vs:List Value} (hR:d4 I φ H nx F E w) (hr:RelVs φ ar vs):Fn P f vs.toArray w (eX φ I F E nx nx x H nx):=by
 obtain ⟨as',r,hA,h1,h2⟩:=hN.1 f ar x h
 obtain ⟨M,L,hn,hm,hrep,hS⟩:=hR.ex
 refine (hA ⟨I,fun _=>none⟩ (L++F) w vs (h1 φ vs hr _) ⟨⟨0,fun _ _=>Z⟩,[],Z,hS⟩).mono fun v w' ⟨J,y,O',hJ,hy,⟨_,L',hL',hS'⟩,he⟩=>?_
 subst he
 exact ⟨J.k,φ,hJ.1,.refl _,fun _ _ _=>rfl,Nat.le_refl _,h2 J v hy φ,hR.top,M,L,hn,hm,hrep.mono hJ.1 (.refl _),hS'.dropAll⟩
theorem Hk {N:EE} (hN:Cq P E N) {f:Nat} {ar:List EV} {l:List ByteArray} (h:N f ar=some (.ss l)) (hl:l.isEmpty=false) {φ:dG} {I:aT} {H:Hp} {nx:Nat} {w:World} {vs:List Value} (hR:d4 I φ H nx F E w) (hr:RelVs φ ar vs) :
  Fn P f vs.toArray w (eX φ I F E nx nx (.sl nx 0 l.length 1 .un) (H.set nx (some (.kn (l.map EV.s)))) (nx+1)):=by
 obtain ⟨as',hA,h1⟩:=hN.2 f ar l h
 obtain ⟨L,hrest,hS⟩:=(hR.mono (Nat.le_succ nx)).freshN (hR.top nx (Nat.le_refl _))
 refine (hA ⟨I,fun _=>none⟩ (L++F) w vs (h1 φ vs hr _) ⟨⟨0,fun _ _=>Z⟩,[],Z,hS⟩).mono fun v w' ⟨J,y,O',hJ,hy,⟨_,L',hL',hS'⟩,he⟩=>?_
 subst he
 obtain ⟨a,n,cap,rfl,hn,hcap,_,hrr⟩:=hy
 rw[qx] at hn
 subst hn
 obtain ⟨s0,l0,rfl⟩:∃s0 l0,l=s0::l0:=by
  cases l with
  |nil=>cases hl
  |cons s0 l0=>exact ⟨s0,l0,rfl⟩
 obtain ⟨b,off,_,rfl,_⟩:=hrr.get (j:=0) (r:=[AV.str s0]) rfl
 have hk:φ nx=none:=hR.top nx (Nat.le_refl _)
 have hat:∀(j:Nat) s,(s0::l0)[j]?=some s→Bg J.k b (off+j) (.string s):=fun j s hj=>by
  obtain ⟨b2,off2,us,e,_,⟨u,us2,rfl,h3,h4⟩,h5⟩:=hrr.get (j:=j) (r:=[AV.str s]) (by rw[qy,hj];rfl)
  cases e
  have h3:u=.string s:=h3
  subst h3
  have:=h5 0 _ rfl
  simpa using this
 refine ⟨J.k,φ.put nx ⟨b,off,0⟩,hJ.1,ql hk _,fun j hj _=>mM φ _ (by omega),Nat.le_succ nx,⟨_,off,cap,q2 _ _ _,rfl,hcap,fun _=>rfl,trivial⟩,
  qj (A:=[]) (hrest.mono hJ.1 (ql hk _)) ⟨⟨b,off,0⟩,(s0::l0).map Value.string,q2 _ _ _,?_,fun u hu=>?_,fun j u hj=>?_,rfl⟩ hS'.dropAll (nF (nx:=nx+1) (fun j hj=>hR.top j (by omega)) (Nat.lt_succ_self nx) _)⟩
 ·clear hat hrr hl h hS' hS hrest hr
  generalize s0::l0=m
  induction m with
  |nil=>rfl
  |cons x m ih=>exact ⟨_,_,rfl,rfl,ih⟩
 ·obtain ⟨s,_,rfl⟩:=List.mem_map.1 hu;rfl
 ·rw[qy] at hj
  obtain ⟨s,hs,rfl⟩:=Option.map_eq_some_iff.1 hj
  exact hat j s hs
theorem Cr {N:EE} (hN:Cq P E N):er P E (Lc N):=fun f ar H nx x H' nx' h φ I F w vs hR hr=>by
 unfold Lc at h
 split at h
 ·rename_i y hy
  cases h
  exact Jm hN hy hR hr
 ·rename_i l hy
  cases hl:l.isEmpty with
  |true=>rw[hl] at h;cases h
  |false=>
   rw[hl] at h;cases h
   exact Hk hN hy hl hR hr
 ·cases h
theorem vp (hm:P.follows .mixedOrders=true) (hT:dV P T) {C:dA} (hC:er P E C) (fuel:Nat):∀d,er P E (Hi P T C fuel d)
 |0=>fun f ar H nx x H' nx' h=>by cases h
 |d+1=>fun f ar H nx x H' nx' h φ I F w vs hR hr=>by
  unfold Hi at h
  split at h
  ·rename_i r hy
   cases h
   exact hC _ _ _ _ _ _ _ hy φ I F w vs hR hr
  ·split at h
   ·rename_i fn h1
    split at h
    ·rename_i cd h2
     cases hb:(Nat.ble ar.length fn.ntmps&&fS fn.ntmps cd&&A9 fn.name) with
     |false=>rw[hb] at h;cases h
     |true=>
      rw[hb] at h
      simp only[cond_true] at h
      simp only[w9] at hb
      have h3:fn.name≠"runtime.NumGoroutine" := fun e=>by
       have:=hb.2
       unfold A9 at this
       rw[e] at this
       simp at this
      refine Fn.intro h1 h2 h3 (by rw[List.size_toArray,hr.length];exact hb.1.1) ?_
      have fin:∀(s:ES),(match sn T s.G s.H fn.results.toList with
        |some l=>some (MT l,s.H,s.nx)
        |none=>none)=some (x,H',nx')→∀ρ' w',ka φ I F E nx s.G s.H s.nx ρ' w'→∃v,oP fn.results ρ' P w'=.ok v w'∧eX φ I F E nx nx x H' nx' v w':=fun s hs ρ' w' ⟨J,ψ,a,b,c,d',e',f'⟩=>by
       split at hs
       ·rename_i l hl
        cases hs
        obtain ⟨us,g1,g2⟩:=so hT e' f' fn.results.toList l hl
        have g3:(fn.results.mapM (m:=Sem) fun x=>match x with
          |.tmp t=>Pure.pure (ρ' t)
          |.cell a t=>do loadVar t (←asAddr (ρ' a))).run P w'=.ok us.toArray w':=by
         rw[Array.mapM_eq_mapM_toList,Sem.run_map]
         rw[g2];rfl
        refine ⟨if h:us.toArray.size=1 then us.toArray[0] else Value.tuple us.toArray,?_,J,ψ,a,b,fun j hj _=>c j hj,d',?_,f'⟩
        ·unfold oP
         rw[Sem.run_bind]
         exact (congrArg (fun r=>Result.andThen r _) g3).trans rfl
        ·cases us with
         |nil=>
          have:l=[]:=by have:=g1.length;simpa using this.symm
          subst this
          exact ⟨[],rfl,rfl⟩
         |cons u us=>
          cases us with
          |nil=>
           obtain ⟨y,rfl⟩:∃y,l=[y]:=by
            have:=g1.length
            match l,this with
            |[y],_=>exact ⟨y,rfl⟩
           exact g1.r1
          |cons u2 us=>
           have hl2:=g1.length
           match l,hl2,g1 with
           |x1::x2::l',_,g1=>exact ⟨u::u2::us,by simp,g1⟩
       ·cases hs
      split at h
      ·cases h
      ·rename_i ex s hne hc
       refine ED hm hT (vp hm hT hC fuel d) fuel cd _ s ex hb.1.2 hc φ I _ w _ (Hj hr) hR fun ρ' w' hp=>?_
       have:=fin s h ρ' w' hp
       cases ex with
       |nrm=>exact this
       |ret=>exact this
       |exit i=>exact (hne i rfl).elim
      ·cases h
    ·cases h
   ·cases h
def Jn:TypeDesc→Bool
 |.struct fs=>fs.toList.all fun f=>!(f.name == "_")
 |_=>true
def JY:TypeDesc→Bool
 |.pointer _=>false
 |_=>true
def Ld (d:TypeDesc) (ms:Array Method) (nm:String):Option Nat:=
 match ms.find? (·.name == nm) with
 |some m=>match m.func with
  |some (f,false)=>bif m.path.isEmpty&&JY d then some f else none
  |_=>none
 |none=>none
def Le (ms:Array Method) (want:Array (String × TypeId)):Bool:=want.toList.all fun n=>ms.any fun m=>m.name == n.1&&m.sig == n.2
theorem Jo (ms:Array Method) (want:Array (String × TypeId)):(Instr.missingMethod want ms).isNone=Le ms want:=by
 unfold Instr.missingMethod Le
 dsimp only
 cases hm:(want.toList.filter fun n=>!ms.any fun m=>m.name == n.1&&m.sig == n.2) with
 |nil=>
  have h:(want.toList.all fun n=>ms.any fun m=>m.name == n.1&&m.sig == n.2)=true:=by
   rw[List.all_eq_true]
   intro x hx
   have:=List.filter_eq_nil_iff.1 hm x hx
   simpa using this
  rw[h]
  rfl
 |cons x l=>
  have h:(want.toList.all fun n=>ms.any fun m=>m.name == n.1&&m.sig == n.2)=false:=by
   have hx:x∈want.toList.filter fun n=>!ms.any fun m=>m.name == n.1&&m.sig == n.2:=by rw[hm];exact .head _
   rw[List.mem_filter] at hx
   rw[List.all_eq_false]
   exact ⟨x,hx.1,by simpa using hx.2⟩
  rw[h]
  have hl:∀(l:List String),l≠[]→∃s,Instr.least l=some s:=fun l hl=>by
   cases l with
   |nil=>exact (hl rfl).elim
   |cons a l=>exact ⟨_,rfl⟩
  simp only[List.partition_eq_filter_filter]
  cases hc:x.1.contains '.' with
  |true=>
   obtain ⟨s,hs⟩:=hl ((List.filter (fun s:String=>s.contains '.') ((x::l).map (·.1))).map fun id=>(id.splitOn ".").getLastD id) (by
    intro q
    have q:=List.map_eq_nil_iff.1 q
    have:=List.filter_eq_nil_iff.1 q x.1 (by simp)
    exact this hc)
   rw[hs]
   cases Instr.least (List.filter (not∘fun s:String=>s.contains '.') ((x::l).map (·.1)))<;>rfl
  |false=>
   obtain ⟨s,hs⟩:=hl (List.filter (not∘fun s:String=>s.contains '.') ((x::l).map (·.1))) (by
    intro q
    have:=List.filter_eq_nil_iff.1 q x.1 (by simp)
    exact this (by simp only[Function.comp,hc];rfl))
   rw[hs]
   rfl
def Jp (P:Program) (t:Nat):Option TI:=
 match P.underlying t,P.info? t with
 |some d,some f=>match f.zero with
  |some zv=>match sw (Eq 5) zv.cells.toList,Eq 6 zv with
   |some z,some v=>bif z.all EV.cell&&Nat.beq z.length f.size then some ⟨d,f.size,f.bytes,z,v,!(P.eqGuardType P.depth t),!(P.stoodInHeld t)&&Jn d,Ld d f.methods,Le f.methods⟩ else none
   |_,_=>none
  |none=>none
 |_,_=>none
theorem Cs:dV P (Jp P):=fun t i h=>by
 unfold Jp at h
 split at h
 ·rename_i d f hd hf
  split at h
  ·rename_i zv hz
   split at h
   ·rename_i z v h1 h2
    cases hb:(z.all EV.cell&&Nat.beq z.length f.size) with
    |false=>rw[hb] at h;cases h
    |true=>
     rw[hb] at h;cases h
     simp only[w9] at hb
     refine ⟨hd,⟨f,zv,hf,rfl,rfl,hz,fun φ=>by simpa using lX (φ:=φ) (g:=id) (pK 5) zv.cells.toList z h1,fun φ=>pK 6 zv v h2⟩,hb.1,Nat.eq_of_beq_eq_true hb.2,(fun h=>by simpa using h),fun h=>by
      simp only[w9] at h
      refine ⟨by simpa using h.1,fun fs e f hf=>?_⟩
      have h2:=h.2
      dsimp only at e
      subst e
      have h3:=List.all_eq_true.1 h2 f hf
      simpa using h3,fun nm g hg k x w=>?_,⟨f,hf,fun want=>Jo _ _⟩⟩
     have hg:Ld d f.methods nm=some g:=hg
     unfold Ld at hg
     split at hg
     ·rename_i m hm
      split at hg
      ·rename_i g' hfn
       cases hbb:(m.path.isEmpty&&JY d) with
       |false=>rw[hbb] at hg;cases hg
       |true=>
        rw[hbb] at hg;cases hg
        simp only[w9] at hbb
        have hp:m.path.toList=[]:=by have:=hbb.1;simpa using this
        have hu:∀w,(underlying t).run P w=.ok d w:=fun w=>run_underlying hd w
        have hpr:∀w,(program:Sem Program).run P w=.ok P w:=fun _=>rfl
        have hti:∀w,(typeInfo t).run P w=.ok f w:=fun w=>by
         simp only[typeInfo,Sem.run_bind,hpr,Result.andThen_ok,hf]
         rfl
        have h2:=hbb.2
        simp only[method,Sem.run_bind,hti,Result.andThen_ok,hm,hp,follow,Sem.run_pure,hfn,receiverAt,hu]
        cases d<;>first|(cases h2;done)|rfl
      ·cases hg
     ·cases hg
   ·cases h
  ·cases h
 ·cases h
theorem xv (hm:P.follows .mixedOrders=true) {C:dA} (hC:er P E C) {fuel d f:Nat} (h:(match Hi P (Jp P) C fuel d f [] .lf 0 with
  |some (.b true,_,_)=>true
  |_=>false)=true):aJ P E f [] (.bool true):=fun I F w vs h1 h2=>by
 split at h
 ·rename_i H' nx' hx
  have h1:vs=[]:=h1
  subst h1
  obtain ⟨ht,L,hL,hS⟩:=h2
  have hL:L=[]:=hL
  subst hL
  have hR:d4 I.k (fun _=>none) .lf 0 F E w:=⟨fun _ _=>rfl,[],[],List.nodup_nil,fun j o=>by simp[Tr.get_lf],rfl,hS⟩
  refine (vp hm Cs hC fuel d f [] .lf 0 _ _ _ hx _ I.k F w [] hR Z).mono fun v w' ⟨J,ψ,a,b,c,d',e',f'⟩=>?_
  exact ⟨⟨J,I.h⟩,.bool true,[],⟨a,fun _ _ h=>h⟩,e',⟨ht,[],rfl,f'.sl⟩,rfl⟩
 ·cases h
end
end
section
open Go.Proofs.Tryz
open Go.Proofs
mutual
def EV.ren (ρ:Nat→Nat):EV→EV
 |.u=>.u
 |.b x=>.b x
 |.i kd n=>.i kd n
 |.s x=>.s x
 |.np=>.np
 |.p kb off=>.p (ρ kb) off
 |.ns=>.ns
 |.sl kb off len sz c=>.sl (ρ kb) off len sz c
 |.ag l=>.ag (EV.renL ρ l)
 |.tu l=>.tu (EV.renL ρ l)
 |.fn fi a1 c1=>.fn fi (EV.renL ρ a1) (EV.renL ρ c1)
 |.nf=>.nf
 |.ifc ty v=>.ifc ty (EV.ren ρ v)
 |.ni=>.ni
 |.m kb=>.m (ρ kb)
 |.nm=>.nm
def EV.renL (ρ:Nat→Nat):List EV→List EV
 |[]=>[]
 |x::l=>EV.ren ρ x::EV.renL ρ l
end
mutual
def EV.okN (pr:Nat→Bool):EV→Bool
 |.p kb _=>pr kb
 |.sl kb _ _ _ _=>pr kb
 |.ag l=>EV.okNL pr l
 |.tu l=>EV.okNL pr l
 |.fn _ a1 c1=>EV.okNL pr a1&&EV.okNL pr c1
 |.ifc _ v=>EV.okN pr v
 |.m kb=>pr kb
 |.u=>true
 |.b _=>true
 |.i _ _=>true
 |.s _=>true
 |.np=>true
 |.ns=>true
 |.nf=>true
 |.ni=>true
 |.nm=>true
def EV.okNL (pr:Nat→Bool):List EV→Bool
 |[]=>true
 |x::l=>EV.okN pr x&&EV.okNL pr l
end
section
variable {φ ψ:dG} {ρ:Nat→Nat} {p:Nat→Bool}
mutual
theorem bh.ren (h:∀b q,p b=true→ψ b=some q→φ (ρ b)=some q):∀(x:EV) (v:Value),x.okN p=true→bh ψ x v→bh φ (x.ren ρ) v
 |.u,_,_,_=>trivial
 |.b _,_,_,e=>e
 |.i _ _,_,_,e=>e
 |.s _,_,_,e=>e
 |.np,_,_,e=>e
 |.p _ _,_,k,⟨q,a,e⟩=>⟨q,h _ _ k a,e⟩
 |.ns,_,_,e=>e
 |.sl _ _ _ _ _,_,k,⟨q,o,cap,a,e⟩=>⟨q,o,cap,h _ _ k a,e⟩
 |.ag l,_,k,⟨vs,e,k1⟩=>⟨vs,e,RelVs.ren h l vs k k1⟩
 |.tu l,_,k,⟨vs,e,k1⟩=>⟨vs,e,RelVs.ren h l vs k k1⟩
 |.fn _ a c,_,k,⟨vs,us,e,k1,k2⟩=>⟨vs,us,e,RelVs.ren h a vs ((w9 _ _).mp k).1 k1,RelVs.ren h c us ((w9 _ _).mp k).2 k2⟩
 |.nf,_,_,e=>e
 |.ifc _ x,_,k,⟨u,e,k1⟩=>⟨u,e,bh.ren h x u k k1⟩
 |.ni,_,_,e=>e
 |.m _,_,k,⟨q,a,e⟩=>⟨q,h _ _ k a,e⟩
 |.nm,_,_,e=>e
theorem RelVs.ren (h:∀b q,p b=true→ψ b=some q→φ (ρ b)=some q):∀(x:List EV) (v:List Value),EV.okNL p x=true→RelVs ψ x v→RelVs φ (EV.renL ρ x) v
 |[],_,_,e=>e
 |x::xs,_,k,⟨v,us,e,h1,h2⟩=>⟨v,us,e,bh.ren h x v ((w9 _ _).mp k).1 h1,RelVs.ren h xs us ((w9 _ _).mp k).2 h2⟩
end
end
section
variable {I J:aT} {φ ψ:dG} {H:Hp} {nx:Nat} {F:List (Nat × Obj)} {E w:World} {k:Nat}
theorem d4.frz1 (h:d4 I φ H nx F E w) {cs:List EV} (hk:(H.get k).bind VO.cs?=some cs):∃J,I.le J∧iJ J φ k (.kn cs) []∧d4 J φ (H.set k (some (.kn cs))) nx F E w:=by
 obtain ⟨o,ho,hc⟩:=Option.bind_eq_some_iff.1 hk
 obtain ⟨A,L,hb,hr,hS⟩:=h.pick ho
 cases o with
 |cells ex cs'=>
  cases hc
  obtain ⟨q,T,vs,junk,h1,h2,h3,h4,h5,h6,rfl⟩:=hb
  obtain ⟨J,j1,j2,j3⟩:=SL.freezeAllN hS
  have hj:=j3 (q.r,.cells (vs++junk).toArray T (0,0)) (.head _)
  have hB:iJ J φ k (.kn cs) []:=⟨q,vs,h1,h3,fun u hu=>h4 u (List.mem_append_left _ hu),fun j u hu=>⟨_,T,(0,0),hj,by
   have hl:=(List.getElem?_eq_some_iff.1 hu).1
   rw[h2,Nat.zero_add,List.getElem?_toArray,List.getElem?_append_left hl];exact hu⟩,rfl⟩
  exact ⟨J,j1,hB,qj (A:=[]) (hr.mono j1 (.refl _)) hB j2 h.top⟩
 |kn cs'=>
  cases hc
  have hb':=hb
  obtain ⟨q,vs,h1,h3,h4,h5,rfl⟩:=hb
  exact ⟨I,.refl _,⟨q,vs,h1,h3,h4,h5,rfl⟩,qj (A:=[]) hr ⟨q,vs,h1,h3,h4,h5,rfl⟩ hS h.top⟩
 |it s p=>cases hc
 |mp es=>cases hc
noncomputable def sq:List (Nat × List EV)→Hp→Hp
 |[],H=>H
 |q::l,H=>sq l (H.set q.1 (some (.kn q.2)))
theorem d4.frzL:∀(l:List (Nat × List EV)) {I:aT} {H:Hp},d4 I φ H nx F E w→(∀q∈l,(H.get q.1).bind VO.cs?=some q.2)→∃J,I.le J∧(∀q∈l,iJ J φ q.1 (.kn q.2) [])∧d4 J φ (sq l H) nx F E w
 |[],I,H,h,_=>⟨I,.refl _,(fun _ hq=>nomatch hq),h⟩
 |q::l,I,H,h,hk=>by
  obtain ⟨J,j1,j2,j3⟩:=h.frz1 (hk q (.head _))
  obtain ⟨K,k1,k2,k3⟩:=d4.frzL l j3 fun r hr=>by
   rw[Tr.get_set]
   by_cases e:r.1=q.1
   ·rw[if_pos e]
    have h1:=hk q (.head _)
    have h2:=hk r (.tail _ hr)
    rw[e,h1] at h2
    exact h2
   ·rw[if_neg e];exact hk r (.tail _ hr)
  refine ⟨K,j1.trans k1,fun r hr=>?_,k3⟩
  rcases List.mem_cons.1 hr with rfl|hr
  ·exact iJ.mono k1 (.refl _) j2
  ·exact k2 r hr
theorem d4.addK (h:d4 I φ H nx F E w) {cs:List EV} (hk:H.get k=none) (hb:iJ I φ k (.kn cs) []):d4 I φ (H.set k (some (.kn cs))) nx F E w:=by
 obtain ⟨ht,M,L,hn,hm,hr,hS⟩:=h
 refine ⟨ht,(k,.kn cs)::M,L,?_,fun j o=>?_,⟨[],L,Z,hb,hr⟩,hS⟩
 ·rw[List.map_cons,List.nodup_cons]
  refine ⟨fun hm2=>?_,hn⟩
  obtain ⟨x,hx,e⟩:=List.mem_map.1 hm2
  have e:x.1=k:=e
  have:=(hm x.1 x.2).1 hx
  rw[e,hk] at this;cases this
 ·rw[Tr.get_set,List.mem_cons,hm j o]
  by_cases e:j=k
  ·rw[if_pos e];subst e;rw[hk];simp[eq_comm]
  ·rw[if_neg e];simp[e]
end
structure bO where
 f:Nat
 ar:List EV
 hin:List (Nat × List EV)
 x:EV
 hout:List (Nat × List EV)
 base:Nat
noncomputable def Nv (l:List (Nat × List EV)):Hp:=sq l .lf
def bt (P:Program) (E:World) (m:bO):Prop:=∀φ I F w vs,(∀q∈m.hin,iJ I φ q.1 (.kn q.2) [])→RelVs φ m.ar vs→SL I F E w→(∀j,m.base≤j→φ j=none) →
 Go.Proofs.YtbanfokidalbaaaGreatDoor.Fn P m.f vs.toArray w (fun v w'=>∃J ψ,I.le J∧(∀j,j<m.base→ψ j=φ j)∧bh ψ m.x v∧(∀q∈m.hout,iJ J ψ q.1 (.kn q.2) [])∧SL J F E w')
noncomputable def Ct (x y:List EV):Bool:=iO.eqL 2000 x y
noncomputable def Hl (H:Hp) (q:Nat × List EV):Bool:=match (H.get q.1).bind VO.cs? with
 |some cs=>Ct cs q.2
 |none=>false
theorem Cu {H:Hp} {q:Nat × List EV} (h:Hl H q=true):(H.get q.1).bind VO.cs?=some q.2:=by
 unfold Hl at h
 split at h
 ·rename_i cs hc
  rw[hc,(sk 2000).2 cs q.2 h]
 ·cases h
theorem Cv:∀(l:List (Nat × List EV)) (H:Hp) (j:Nat) (o:VO),(l.map (·.1)).Nodup→(∀q∈l,H.get q.1=none)→((sq l H).get j=some o↔(∃cs,(j,cs)∈l∧o=.kn cs)∨H.get j=some o)
 |[],H,j,o,_,_=>by simp[sq]
 |q::l,H,j,o,hn,hh=>by
  rw[List.map_cons,List.nodup_cons] at hn
  have hq:=hh q (.head _)
  have ih:=Cv l (H.set q.1 (some (.kn q.2))) j o hn.2 fun r hr=>by
   have hne:¬r.1=q.1:=fun e=>hn.1 (List.mem_map.2 ⟨r,hr,e⟩)
   rw[Tr.get_set,if_neg hne]
   exact hh r (.tail _ hr)
  show (sq l (H.set q.1 (some (.kn q.2)))).get j=some o↔_
  rw[ih,Tr.get_set]
  by_cases e:j=q.1
  ·rw[if_pos e]
   constructor
   ·rintro (⟨cs,h1,h2⟩|h)
    ·exact .inl ⟨cs,.tail _ h1,h2⟩
    ·cases h;exact .inl ⟨q.2,by rw[e];exact .head _,rfl⟩
   ·rintro (⟨cs,h1,h2⟩|h)
    ·rcases List.mem_cons.1 h1 with h3|h3
     ·exact .inr (by rw[h2,←h3])
     ·exact .inl ⟨cs,h3,h2⟩
    ·rw[e,hq] at h;cases h
  ·rw[if_neg e]
   constructor
   ·rintro (⟨cs,h1,h2⟩|h)
    ·exact .inl ⟨cs,.tail _ h1,h2⟩
    ·exact .inr h
   ·rintro (⟨cs,h1,h2⟩|h)
    ·rcases List.mem_cons.1 h1 with h3|h3
     ·exact absurd (by rw[←h3]) e
     ·exact .inl ⟨cs,h3,h2⟩
    ·exact .inr h
def EF:List Nat→Bool
 |[]=>true
 |x::l=>!pj x l&&EF l
theorem vq:∀{l:List Nat},EF l=true→l.Nodup
 |[],_=>List.nodup_nil
 |x::l,h=>by
  unfold EF at h
  simp only[w9,Bool.not_eq_true',Bool.eq_false_iff] at h
  rw[List.nodup_cons]
  exact ⟨fun hm=>h.1 (iN.2 hm),vq h.2⟩
noncomputable def MU (call:dA) (m:bO):Bool:=
 EF (m.hin.map (·.1))&&match call m.f m.ar (Nv m.hin) m.base with
  |some (x,H',_)=>Ct [x] [m.x]&&m.hout.all (Hl H')
  |none=>false
section
variable {P:Program} {E:World}
theorem bA {call:dA} (hC:er P E call) {m:bO} (h:MU call m=true):bt P E m:=fun φ I F w vs hin hr hS ht=>by
 unfold MU at h
 rw[w9] at h
 obtain ⟨h1,h⟩:=h
 split at h
 ·rename_i x H' nx' hc
  rw[w9,List.all_eq_true] at h
  have hx:x=m.x:=by have:=(sk 2000).2 _ _ h.1;simpa using this
  subst hx
  have hnd:=vq h1
  have hR:d4 I φ (Nv m.hin) m.base F E w:=by
   refine ⟨ht,m.hin.map fun q=>(q.1,.kn q.2),[],?_,fun j o=>?_,?_,hS⟩
   ·rw[List.map_map];exact hnd
   ·rw[show Nv m.hin=sq m.hin .lf from rfl,Cv m.hin .lf j o hnd fun _ _=>Tr.get_lf _,Tr.get_lf,List.mem_map]
    constructor
    ·rintro ⟨q,hq,e⟩
     cases e
     exact .inl ⟨q.2,hq,rfl⟩
    ·rintro (⟨cs,h1,rfl⟩|h)
     ·exact ⟨(j,cs),h1,rfl⟩
     ·cases h
   ·generalize m.hin=l at hin
    clear h1 hnd hc h hr
    induction l with
    |nil=>rfl
    |cons q l ih=>exact ⟨[],[],rfl,hin q (.head _),ih fun r hr=>hin r (.tail _ hr)⟩
  refine (hC _ _ _ _ _ _ _ hc φ I F w vs hR hr).mono fun v w' ⟨J,ψ,a,b,c,d,e,f⟩=>?_
  obtain ⟨K,k1,k2,k3⟩:=d4.frzL m.hout f fun q hq=>Cu (h.2 q hq)
  exact ⟨K,ψ,a.trans k1,fun j hj=>c j hj (Nat.ne_of_lt hj),e,k2,k3.sl⟩
 ·cases h
end
def Bb (k:Nat):List (Nat × List EV)→Nat→Nat
 |[],i=>i
 |q::l,i=>bif Nat.beq q.1 k then i else Bb k l (i+1)
def EG (m:bO) (nx:Nat) (k:Nat):Nat:=bif Nat.blt k m.base then k else nx+Bb k m.hout 0
def JZ (m:bO) (k:Nat):Bool:=Nat.blt k m.base||pj k (m.hout.map (·.1))
noncomputable def Lf (ρ:Nat→Nat):List (Nat × List EV)→Nat→Hp→Hp
 |[],_,H=>H
 |q::l,k,H=>Lf ρ l (k+1) (H.set k (some (.kn (EV.renL ρ q.2))))
noncomputable def Lg (m:bO):dA:=fun f ar H nx=>
 bif Nat.beq f m.f&&(Nat.ble nx m.base&&Ct ar m.ar)&&m.hin.all (Hl H) then
  bif m.x.okN (JZ m)&&m.hout.all (fun q=>EV.okNL (JZ m) q.2&&Nat.ble m.base q.1)&&EF (m.hout.map (·.1)) then
   some (m.x.ren (EG m nx),Lf (EG m nx) m.hout nx (sq m.hin H),nx+m.hout.length)
  else none
 else none
theorem vr:∀(l:List (Nat × List EV)) (i j:Nat) (q:Nat × List EV),(l.map (·.1)).Nodup→l[j]?=some q→Bb q.1 l i=i+j
 |[],_,_,_,_,h=>by simp at h
 |r::l,i,0,q,_,h=>by
  simp at h;subst h
  unfold Bb
  rw[show Nat.beq r.1 r.1=true from Nat.beq_refl _];rfl
 |r::l,i,j+1,q,hn,h=>by
  rw[List.map_cons,List.nodup_cons] at hn
  have h:l[j]?=some q:=by simpa using h
  have hne:r.1≠q.1:=fun e=>hn.1 (e▸List.mem_map_of_mem (w3 h))
  have hb:Nat.beq r.1 q.1=false:=by
   cases e:Nat.beq r.1 q.1 with
   |false=>rfl
   |true=>exact absurd (Nat.eq_of_beq_eq_true e) hne
  unfold Bb
  rw[hb]
  show Bb q.1 l (i+1)=_
  rw[vr l (i+1) j q hn.2 h];omega
section
variable {P:Program} {E:World}
theorem Cw {I:aT} {φ:dG} {n:Nat} {F:List (Nat × Obj)} {w:World} {ρ:Nat→Nat}:∀(l:List (Nat × List EV)) (k:Nat) (H:Hp),d4 I φ H n F E w→(∀j,k≤j→H.get j=none)→(∀(j:Nat) q,l[j]?=some q→iJ I φ (k+j) (.kn (EV.renL ρ q.2)) [])→d4 I φ (Lf ρ l k H) n F E w
 |[],_,_,h,_,_=>h
 |q::l,k,H,h,hn,hb=>by
  refine Cw l (k+1) _ (h.addK (hn k (Nat.le_refl _)) (hb 0 q Z)) (fun j hj=>?_) fun j r hr=>?_
  ·rw[Tr.get_set,if_neg (by omega)];exact hn j (by omega)
  ·have:=hb (j+1) r (by simpa using hr)
   rwa [show k+(j+1)=k+1+j by omega] at this
theorem Jq {m:bO} (hM:bt P E m):er P E (Lg m):=fun f ar H nx x H' nx' h φ I F w vs hR hr=>by
 unfold Lg at h
 cases hb:(Nat.beq f m.f&&(Nat.ble nx m.base&&Ct ar m.ar)&&m.hin.all (Hl H)) with
 |false=>rw[hb] at h;cases h
 |true=>
  rw[hb] at h
  simp only[cond_true] at h
  cases hb2:(m.x.okN (JZ m)&&m.hout.all (fun q=>EV.okNL (JZ m) q.2&&Nat.ble m.base q.1)&&EF (m.hout.map (·.1))) with
  |false=>rw[hb2] at h;cases h
  |true=>
   rw[hb2] at h
   simp only[cond_true,Option.some.injEq,Prod.mk.injEq] at h
   obtain ⟨rfl,rfl,rfl⟩:=h
   simp only[w9,List.all_eq_true] at hb hb2
   obtain ⟨⟨c1,c2,c3⟩,c4⟩:=hb
   obtain ⟨⟨d1,d2⟩,d3⟩:=hb2
   have c1:=Nat.eq_of_beq_eq_true c1
   have c2:=Nat.le_of_ble_eq_true c2
   have c3:=(sk 2000).2 _ _ c3
   subst c1 c3
   have d3:=vq d3
   obtain ⟨J,j1,j2,j3⟩:=d4.frzL m.hin hR fun q hq=>Cu (c4 q hq)
   obtain ⟨ht,M,L,hn,hm,hrep,hS⟩:=j3
   refine (hM φ J (L++F) w vs j2 hr hS fun j hj=>ht j (Nat.le_trans c2 hj)).mono fun v w' ⟨K,ψ,k1,k2,k3,k4,k5⟩=>?_
   obtain ⟨χ,hχ⟩:∃χ:dG,χ=fun j=>if j<nx then φ j else if nx≤j∧j<nx+m.hout.length then (m.hout[j - nx]?).bind fun q=>ψ q.1 else none:=⟨_,rfl⟩
   have hle:φ.le χ:=fun b q e=>by
    rw[hχ]
    by_cases hb:b<nx
    ·simp only[if_pos hb];exact e
    ·rw[ht b (by omega)] at e;cases e
   have hren:∀b q,JZ m b=true→ψ b=some q→χ (EG m nx b)=some q:=fun b q hk hq=>by
    unfold EG
    by_cases hb:b<m.base
    ·rw[show Nat.blt b m.base=true from Nat.ble_eq_true_of_le hb]
     rw[k2 b hb] at hq
     exact hle b q hq
    ·rw[show Nat.blt b m.base=false from by
      cases e:Nat.blt b m.base with
      |false=>rfl
      |true=>exact absurd (Nat.le_of_ble_eq_true e) (by omega)]
     unfold JZ at hk
     rw[Bool.or_eq_true] at hk
     have hk:=hk.resolve_left fun e=>hb (Nat.le_of_ble_eq_true e)
     obtain ⟨r,hr2,e⟩:=List.mem_map.1 (iN.1 hk)
     obtain ⟨i,hi⟩:=List.getElem?_of_mem hr2
     have hil:=(List.getElem?_eq_some_iff.1 hi).1
     have hp:=vr m.hout 0 i r d3 hi
     have e:r.1=b:=e
     rw[e] at hp
     show χ (nx+Bb b m.hout 0)=some q
     rw[hp,hχ]
     simp only
     rw[if_neg (by omega),if_pos (by omega),show nx+(0+i) - nx=i by omega,hi]
     show ψ r.1=some q
     rw[e];exact hq
   have htop:∀j,nx+m.hout.length≤j→χ j=none:=fun j hj=>by
    rw[hχ];simp only
    rw[if_neg (by omega),if_neg (by omega)]
   have hR2:d4 K χ (sq m.hin H) (nx+m.hout.length) F E w':=⟨htop,M,L,hn,hm,hrep.mono k1 hle,k5⟩
   have hnone:∀j,nx≤j→(sq m.hin H).get j=none:=fun j hj=>by
    cases ho:(sq m.hin H).get j with
    |none=>rfl
    |some o=>
     obtain ⟨q,hq⟩:=hrep.phi _ ((hm j o).2 ho)
     rw[ht j hj] at hq;cases hq
   refine ⟨K,χ,j1.trans k1,hle,fun j hj _=>by rw[hχ];simp only;rw[if_pos hj],by omega,bh.ren hren m.x v d1 k3,?_⟩
   refine Cw m.hout nx _ hR2 hnone fun j q hq=>?_
   have hqm:=w3 hq
   obtain ⟨p,us,p1,p2,p3,p4,_⟩:=k4 q hqm
   have hd:=d2 q hqm
   have hpos:=vr m.hout 0 j q d3 hq
   have hok:JZ m q.1=true:=by
    unfold JZ
    rw[Bool.or_eq_true]
    exact .inr (iN.2 (List.mem_map_of_mem hqm))
   have hu:EG m nx q.1=nx+j:=by
    unfold EG
    rw[show Nat.blt q.1 m.base=false from by
     cases e:Nat.blt q.1 m.base with
     |false=>rfl
     |true=>exact absurd (Nat.le_of_ble_eq_true e) (by have:=Nat.le_of_ble_eq_true hd.2;omega),hpos,Nat.zero_add];rfl
   refine ⟨p,us,by rw[←hu];exact hren _ _ hok p1,RelVs.ren hren _ _ hd.1 p2,p3,p4,rfl⟩
noncomputable def Lh:List bO→dA
 |[]=>fun _ _ _ _=>none
 |m::l=>MY (Lg m) (Lh l)
theorem vt:∀{l:List bO},(∀m∈l,bt P E m)→er P E (Lh l)
 |[],_=>fun f ar H nx x H' nx' h=>by cases h
 |m::l,h=>Ba (Jq (h m (.head _))) (vt fun r hr=>h r (.tail _ hr))
end
end
section
open Go.Proofs.Tryz
open Go.Proofs Go.Lib Go.Shelf Go.RowKit
variable {E:World}
set_option maxRecDepth 100000
theorem vu (n:Int) (hn:-9223372036854775808≤n∧n≤9223372036854775807) (hT:b8 E):aJ prog E 175 [.int .i64 n] (.str ⟨(Lib.itoa n).toArray⟩):=fun I F w vs h1 h2=>by
 obtain ⟨v,us,rfl,h3,h5⟩:=h1
 have h3:v=.int .i64 n:=h3
 have h5:us=[]:=h5
 subst h3 h5
 obtain ⟨ht,L,hL,hS⟩:=h2
 have hL:L=[]:=hL
 subst hL
 refine Fn.ofCalls func175 Z (by decide) ?_
 exact (Tryz.strconv_Itoa n hn.1 hn.2 w (KF hT hS)).mono fun e w' ⟨he,k,os,hw⟩=>⟨_,he,I,.str ⟨(Lib.itoa n).toArray⟩,[],.refl _,rfl,⟨ht,[],rfl,by
  subst hw
  exact hS.more rfl rfl rfl (fun k hk=>Array.getElem?_append_left hk)⟩,rfl⟩
def vv:EE:=fun f ar=>match f,ar with
 |206,[.i .i32 c]=>bif decide (-2147483648≤c)&&decide (c≤2147483647) then some (.v (.b (isLetterU c))) else none
 |99,[.i .i64 op]=>some (.v (.ag [.s (b9 op).1,.s (b9 op).2.1,.s (b9 op).2.2]))
 |175,[.i .i64 n]=>bif decide (-9223372036854775808≤n)&&decide (n≤9223372036854775807) then some (.v (.s ⟨(Lib.itoa n).toArray⟩)) else none
 |_,_=>none
theorem uk (hL:aE E) (hP:b8 E):Cq prog E vv:=by
 constructor
 ·intro f ar x h
  unfold vv at h
  split at h
  ·rename_i c
   cases hb:(decide (-2147483648≤c)&&decide (c≤2147483647)) with
   |false=>rw[hb] at h;cases h
   |true=>
    rw[hb] at h;cases h
    simp only[w9,wc] at hb
    refine ⟨_,_,lq c hb.1 hb.2 hL,fun φ vs hr I=>?_,fun I v hv φ=>hv⟩
    obtain ⟨v,us,rfl,h1,h2⟩:=hr
    exact ⟨v,us,rfl,h1,h2⟩
  ·rename_i op
   cases h
   refine ⟨_,_,pn op,fun φ vs hr I=>?_,fun I v hv φ=>?_⟩
   ·obtain ⟨v,us,rfl,h1,h2⟩:=hr
    exact ⟨v,us,rfl,h1,h2⟩
   ·obtain ⟨vs,e,v1,u1,rfl,h1,v2,u2,rfl,h2,v3,u3,rfl,h3,h4⟩:=hv
    have h4:u3=[]:=h4
    subst h4
    exact ⟨_,e,v1,_,rfl,h1,v2,_,rfl,h2,v3,_,rfl,h3,rfl⟩
  ·rename_i n
   cases hb:(decide (-9223372036854775808≤n)&&decide (n≤9223372036854775807)) with
   |false=>rw[hb] at h;cases h
   |true=>
    rw[hb] at h;cases h
    simp only[w9,wc] at hb
    refine ⟨_,_,vu n ⟨hb.1,hb.2⟩ hP,fun φ vs hr I=>?_,fun I v hv φ=>hv⟩
    obtain ⟨v,us,rfl,h1,h2⟩:=hr
    exact ⟨v,us,rfl,h1,h2⟩
  ·cases h
 ·intro f ar l h
  unfold vv at h
  split at h
  ·rename_i c
   cases hb:(decide (-2147483648≤c)&&decide (c≤2147483647))<;>(rw[hb] at h;cases h)
  ·cases h
  ·rename_i n
   cases hb:(decide (-9223372036854775808≤n)&&decide (n≤9223372036854775807))<;>(rw[hb] at h;cases h)
  ·cases h
theorem Hn:prog.follows .mixedOrders=true:=by kernel_rfl
noncomputable def Li (l:List bO):dA:=Hi prog (Jp prog) (MY (Lc vv) (Lh l)) 600 60
theorem bo (hL:aE E) (hP:b8 E) {l:List bO} (h:∀m∈l,bt prog E m):er prog E (Li l):=vp Hn Cs (Ba (Cr (uk hL hP)) (vt h)) 600 60
theorem aX {m:bO} {l:List bO} (h1:bt prog E m) (h2:∀r∈l,bt prog E r):∀r∈m::l,bt prog E r:=fun r hr=>(List.mem_cons.1 hr).elim (fun e=>e▸h1) (h2 r)
def Cx:List bO:=[]
theorem Cy (hL:aE E) (hP:b8 E):∀m∈Cx,bt prog E m:=fun _ h=>nomatch h
def Cz:bO:=⟨120,[.ag [.sl 5 0 4 2 (.ex 4),.sl 6 0 1 1 (.ex 1),.sl 17 0 1 7 (.ex 1)]],[(5,[.s ⟨#[120,115]⟩,.i .i64 2,.s ⟨#[109]⟩,.i .i64 0,.s ⟨#[107]⟩,.i .i64 0,.s ⟨#[105]⟩,.i .i64 0]),(6,[.i .i64 0]),(17,[.s ⟨#[97]⟩,.ns,.sl 14 0 4 4 (.ex 4),.i .i64 2,.i .i64 3,.i .i64 0,.i .i64 0]),(14,[.i .i64 12,.i .i64 1,.sl 7 0 1 1 (.ex 1),.i .i64 0,.i .i64 0,.i .i64 2,.ns,.i .i64 1,.i .i64 3,.i .i64 3,.sl 10 0 2 1 (.ex 2),.i .i64 0,.i .i64 18,.i .i64 (-1),.sl 12 0 2 1 (.ex 2),.i .i64 0]),(7,[.i .i64 0]),(10,[.i .i64 1,.i .i64 2]),(12,[.i .i64 0,.i .i64 3])],.b true,[],5994000000⟩
theorem Jr (hL:aE E) (hP:b8 E):bt prog E Cz:=bA (bo hL hP (Cy hL hP)) (by decide +kernel)
def CA:List bO:=Cz::Cx
theorem CB (hL:aE E) (hP:b8 E):∀m∈CA,bt prog E m:=aX (Jr hL hP) (Cy hL hP)
def CC:bO:=⟨77,[.ag [.sl 5 0 4 2 (.ex 4),.sl 6 0 1 1 (.ex 1),.sl 17 0 1 7 (.ex 1)]],[(5,[.s ⟨#[120,115]⟩,.i .i64 2,.s ⟨#[109]⟩,.i .i64 0,.s ⟨#[107]⟩,.i .i64 0,.s ⟨#[105]⟩,.i .i64 0]),(6,[.i .i64 0]),(17,[.s ⟨#[97]⟩,.ns,.sl 14 0 4 4 (.ex 4),.i .i64 2,.i .i64 3,.i .i64 0,.i .i64 0]),(14,[.i .i64 12,.i .i64 1,.sl 7 0 1 1 (.ex 1),.i .i64 0,.i .i64 0,.i .i64 2,.ns,.i .i64 1,.i .i64 3,.i .i64 3,.sl 10 0 2 1 (.ex 2),.i .i64 0,.i .i64 18,.i .i64 (-1),.sl 12 0 2 1 (.ex 2),.i .i64 0]),(7,[.i .i64 0]),(10,[.i .i64 1,.i .i64 2]),(12,[.i .i64 0,.i .i64 3])],.i .i64 0,[],4995000000⟩
theorem Js (hL:aE E) (hP:b8 E):bt prog E CC:=bA (bo hL hP (CB hL hP)) (by decide +kernel)
def CD:List bO:=CC::CA
theorem CE (hL:aE E) (hP:b8 E):∀m∈CD,bt prog E m:=aX (Js hL hP) (CB hL hP)
def CF:bO:=⟨103,[.ag [.sl 5 0 4 2 (.ex 4),.sl 6 0 1 1 (.ex 1),.sl 17 0 1 7 (.ex 1)]],[(5,[.s ⟨#[120,115]⟩,.i .i64 2,.s ⟨#[109]⟩,.i .i64 0,.s ⟨#[107]⟩,.i .i64 0,.s ⟨#[105]⟩,.i .i64 0]),(6,[.i .i64 0]),(17,[.s ⟨#[97]⟩,.ns,.sl 14 0 4 4 (.ex 4),.i .i64 2,.i .i64 3,.i .i64 0,.i .i64 0]),(14,[.i .i64 12,.i .i64 1,.sl 7 0 1 1 (.ex 1),.i .i64 0,.i .i64 0,.i .i64 2,.ns,.i .i64 1,.i .i64 3,.i .i64 3,.sl 10 0 2 1 (.ex 2),.i .i64 0,.i .i64 18,.i .i64 (-1),.sl 12 0 2 1 (.ex 2),.i .i64 0]),(7,[.i .i64 0]),(10,[.i .i64 1,.i .i64 2]),(12,[.i .i64 0,.i .i64 3])],.b true,[],3996000000⟩
theorem Jt (hL:aE E) (hP:b8 E):bt prog E CF:=bA (bo hL hP (CE hL hP)) (by decide +kernel)
def CG:List bO:=CF::CD
theorem CH (hL:aE E) (hP:b8 E):∀m∈CG,bt prog E m:=aX (Jt hL hP) (CE hL hP)
def CI:bO:=⟨115,[.ag [.sl 5 0 4 2 (.ex 4),.sl 6 0 1 1 (.ex 1),.sl 17 0 1 7 (.ex 1)]],[(5,[.s ⟨#[120,115]⟩,.i .i64 2,.s ⟨#[109]⟩,.i .i64 0,.s ⟨#[107]⟩,.i .i64 0,.s ⟨#[105]⟩,.i .i64 0]),(6,[.i .i64 0]),(17,[.s ⟨#[97]⟩,.ns,.sl 14 0 4 4 (.ex 4),.i .i64 2,.i .i64 3,.i .i64 0,.i .i64 0]),(14,[.i .i64 12,.i .i64 1,.sl 7 0 1 1 (.ex 1),.i .i64 0,.i .i64 0,.i .i64 2,.ns,.i .i64 1,.i .i64 3,.i .i64 3,.sl 10 0 2 1 (.ex 2),.i .i64 0,.i .i64 18,.i .i64 (-1),.sl 12 0 2 1 (.ex 2),.i .i64 0]),(7,[.i .i64 0]),(10,[.i .i64 1,.i .i64 2]),(12,[.i .i64 0,.i .i64 3])],.sl 3993000005 0 1 1 (.ex 1),[(3993000005,[.ns])],3993000000⟩
theorem Ju (hL:aE E) (hP:b8 E):bt prog E CI:=bA (bo hL hP (CH hL hP)) (by decide +kernel)
def CJ:List bO:=CI::CG
theorem CK (hL:aE E) (hP:b8 E):∀m∈CJ,bt prog E m:=aX (Ju hL hP) (CH hL hP)
def CL:bO:=⟨114,[.ag [.sl 5 0 4 2 (.ex 4),.sl 6 0 1 1 (.ex 1),.sl 17 0 1 7 (.ex 1)]],[(5,[.s ⟨#[120,115]⟩,.i .i64 2,.s ⟨#[109]⟩,.i .i64 0,.s ⟨#[107]⟩,.i .i64 0,.s ⟨#[105]⟩,.i .i64 0]),(6,[.i .i64 0]),(17,[.s ⟨#[97]⟩,.ns,.sl 14 0 4 4 (.ex 4),.i .i64 2,.i .i64 3,.i .i64 0,.i .i64 0]),(14,[.i .i64 12,.i .i64 1,.sl 7 0 1 1 (.ex 1),.i .i64 0,.i .i64 0,.i .i64 2,.ns,.i .i64 1,.i .i64 3,.i .i64 3,.sl 10 0 2 1 (.ex 2),.i .i64 0,.i .i64 18,.i .i64 (-1),.sl 12 0 2 1 (.ex 2),.i .i64 0]),(7,[.i .i64 0]),(10,[.i .i64 1,.i .i64 2]),(12,[.i .i64 0,.i .i64 3])],.sl 3992000064 0 1 1 .en,[(3992000064,[.i .i64 0])],3992000000⟩
theorem Jv (hL:aE E) (hP:b8 E):bt prog E CL:=bA (bo hL hP (CK hL hP)) (by decide +kernel)
def CM:List bO:=CL::CJ
theorem CN (hL:aE E) (hP:b8 E):∀m∈CM,bt prog E m:=aX (Jv hL hP) (CK hL hP)
def CO:bO:=⟨36,[.ag [.sl 5 0 4 2 (.ex 4),.sl 6 0 1 1 (.ex 1),.sl 17 0 1 7 (.ex 1)]],[(5,[.s ⟨#[120,115]⟩,.i .i64 2,.s ⟨#[109]⟩,.i .i64 0,.s ⟨#[107]⟩,.i .i64 0,.s ⟨#[105]⟩,.i .i64 0]),(6,[.i .i64 0]),(17,[.s ⟨#[97]⟩,.ns,.sl 14 0 4 4 (.ex 4),.i .i64 2,.i .i64 3,.i .i64 0,.i .i64 0]),(14,[.i .i64 12,.i .i64 1,.sl 7 0 1 1 (.ex 1),.i .i64 0,.i .i64 0,.i .i64 2,.ns,.i .i64 1,.i .i64 3,.i .i64 3,.sl 10 0 2 1 (.ex 2),.i .i64 0,.i .i64 18,.i .i64 (-1),.sl 12 0 2 1 (.ex 2),.i .i64 0]),(7,[.i .i64 0]),(10,[.i .i64 1,.i .i64 2]),(12,[.i .i64 0,.i .i64 3])],.tu [.p 3991000046 0,.i .i64 0],[(3991000046,[.sl 3991000138 0 1 1 (.ex 1),.sl 3991000378 0 1 1 (.ex 1),.sl 3991000042 0 1 1 (.ex 1),.sl 3991000044 0 1 1 (.ex 1)]),(3991000138,[.i .i64 (-1)]),(3991000378,[.i .i64 0]),(3991000042,[.ns]),(3991000044,[.ns])],3991000000⟩
theorem Jw (hL:aE E) (hP:b8 E):bt prog E CO:=bA (bo hL hP (CN hL hP)) (by decide +kernel)
def CP:List bO:=CO::CM
theorem CQ (hL:aE E) (hP:b8 E):∀m∈CP,bt prog E m:=aX (Jw hL hP) (CN hL hP)
def CR:bO:=⟨37,[.ag [.sl 5 0 4 2 (.ex 4),.sl 6 0 1 1 (.ex 1),.sl 17 0 1 7 (.ex 1)]],[(5,[.s ⟨#[120,115]⟩,.i .i64 2,.s ⟨#[109]⟩,.i .i64 0,.s ⟨#[107]⟩,.i .i64 0,.s ⟨#[105]⟩,.i .i64 0]),(6,[.i .i64 0]),(17,[.s ⟨#[97]⟩,.ns,.sl 14 0 4 4 (.ex 4),.i .i64 2,.i .i64 3,.i .i64 0,.i .i64 0]),(14,[.i .i64 12,.i .i64 1,.sl 7 0 1 1 (.ex 1),.i .i64 0,.i .i64 0,.i .i64 2,.ns,.i .i64 1,.i .i64 3,.i .i64 3,.sl 10 0 2 1 (.ex 2),.i .i64 0,.i .i64 18,.i .i64 (-1),.sl 12 0 2 1 (.ex 2),.i .i64 0]),(7,[.i .i64 0]),(10,[.i .i64 1,.i .i64 2]),(12,[.i .i64 0,.i .i64 3])],.sl 3990000204 0 4 2 .en,[(3990000204,[.i .i64 (-1),.i .i64 0,.i .i64 0,.i .i64 0,.i .i64 0,.i .i64 1,.i .i64 0,.i .i64 2])],3990000000⟩
theorem Jx (hL:aE E) (hP:b8 E):bt prog E CR:=bA (bo hL hP (CQ hL hP)) (by decide +kernel)
def CS:List bO:=CR::CP
theorem CT (hL:aE E) (hP:b8 E):∀m∈CS,bt prog E m:=aX (Jx hL hP) (CQ hL hP)
def CU:bO:=⟨34,[.ag [.sl 5 0 4 2 (.ex 4),.sl 6 0 1 1 (.ex 1),.sl 17 0 1 7 (.ex 1)]],[(5,[.s ⟨#[120,115]⟩,.i .i64 2,.s ⟨#[109]⟩,.i .i64 0,.s ⟨#[107]⟩,.i .i64 0,.s ⟨#[105]⟩,.i .i64 0]),(6,[.i .i64 0]),(17,[.s ⟨#[97]⟩,.ns,.sl 14 0 4 4 (.ex 4),.i .i64 2,.i .i64 3,.i .i64 0,.i .i64 0]),(14,[.i .i64 12,.i .i64 1,.sl 7 0 1 1 (.ex 1),.i .i64 0,.i .i64 0,.i .i64 2,.ns,.i .i64 1,.i .i64 3,.i .i64 3,.sl 10 0 2 1 (.ex 2),.i .i64 0,.i .i64 18,.i .i64 (-1),.sl 12 0 2 1 (.ex 2),.i .i64 0]),(7,[.i .i64 0]),(10,[.i .i64 1,.i .i64 2]),(12,[.i .i64 0,.i .i64 3])],.i .i64 0,[],2997000000⟩
theorem Jy (hL:aE E) (hP:b8 E):bt prog E CU:=bA (bo hL hP (CT hL hP)) (by decide +kernel)
def CV:List bO:=CU::CS
theorem CW (hL:aE E) (hP:b8 E):∀m∈CV,bt prog E m:=aX (Jy hL hP) (CT hL hP)
def CX:bO:=⟨13,[.ag [.sl 5 0 4 2 (.ex 4),.sl 6 0 1 1 (.ex 1),.sl 17 0 1 7 (.ex 1)],.sl 26 0 4 2 (.ex 4)],[(5,[.s ⟨#[120,115]⟩,.i .i64 2,.s ⟨#[109]⟩,.i .i64 0,.s ⟨#[107]⟩,.i .i64 0,.s ⟨#[105]⟩,.i .i64 0]),(6,[.i .i64 0]),(17,[.s ⟨#[97]⟩,.ns,.sl 14 0 4 4 (.ex 4),.i .i64 2,.i .i64 3,.i .i64 0,.i .i64 0]),(14,[.i .i64 12,.i .i64 1,.sl 7 0 1 1 (.ex 1),.i .i64 0,.i .i64 0,.i .i64 2,.ns,.i .i64 1,.i .i64 3,.i .i64 3,.sl 10 0 2 1 (.ex 2),.i .i64 0,.i .i64 18,.i .i64 (-1),.sl 12 0 2 1 (.ex 2),.i .i64 0]),(7,[.i .i64 0]),(10,[.i .i64 1,.i .i64 2]),(12,[.i .i64 0,.i .i64 3]),(26,[.i .i64 0,.i .i64 64,.i .i64 0,.i .i64 64,.i .i64 1,.i .i64 1,.i .i64 (-1),.i .i64 63])],.b true,[],1998000000⟩
theorem Jz (hL:aE E) (hP:b8 E):bt prog E CX:=bA (bo hL hP (CW hL hP)) (by decide +kernel)
def CY:List bO:=CX::CV
theorem CZ (hL:aE E) (hP:b8 E):∀m∈CY,bt prog E m:=aX (Jz hL hP) (CW hL hP)
def C0:bO:=⟨15,[.ag [.sl 5 0 4 2 (.ex 4),.sl 6 0 1 1 (.ex 1),.sl 17 0 1 7 (.ex 1)],.sl 26 0 4 2 (.ex 4)],[(5,[.s ⟨#[120,115]⟩,.i .i64 2,.s ⟨#[109]⟩,.i .i64 0,.s ⟨#[107]⟩,.i .i64 0,.s ⟨#[105]⟩,.i .i64 0]),(6,[.i .i64 0]),(17,[.s ⟨#[97]⟩,.ns,.sl 14 0 4 4 (.ex 4),.i .i64 2,.i .i64 3,.i .i64 0,.i .i64 0]),(14,[.i .i64 12,.i .i64 1,.sl 7 0 1 1 (.ex 1),.i .i64 0,.i .i64 0,.i .i64 2,.ns,.i .i64 1,.i .i64 3,.i .i64 3,.sl 10 0 2 1 (.ex 2),.i .i64 0,.i .i64 18,.i .i64 (-1),.sl 12 0 2 1 (.ex 2),.i .i64 0]),(7,[.i .i64 0]),(10,[.i .i64 1,.i .i64 2]),(12,[.i .i64 0,.i .i64 3]),(26,[.i .i64 0,.i .i64 64,.i .i64 0,.i .i64 64,.i .i64 1,.i .i64 1,.i .i64 (-1),.i .i64 63])],.sl 1989001557 0 7 3 .en,[(1989001557,[.i .i64 4,.i .i64 0,.i .i64 64,.i .i64 0,.i .i64 1,.i .i64 0,.i .i64 4,.i .i64 1,.i .i64 64,.i .i64 4,.i .i64 2,.i .i64 1,.i .i64 4,.i .i64 2,.i .i64 1,.i .i64 1,.i .i64 3,.i .i64 (-1),.i .i64 4,.i .i64 3,.i .i64 63])],1989000000⟩
theorem JA (hL:aE E) (hP:b8 E):bt prog E C0:=bA (bo hL hP (CZ hL hP)) (by decide +kernel)
def xw:List bO:=C0::CY
theorem xx (hL:aE E) (hP:b8 E):∀m∈xw,bt prog E m:=aX (JA hL hP) (CZ hL hP)
def xy:bO:=⟨6,[.ag [.sl 5 0 4 2 (.ex 4),.sl 6 0 1 1 (.ex 1),.sl 17 0 1 7 (.ex 1)],.sl 26 0 4 2 (.ex 4),.i .i64 0],[(5,[.s ⟨#[120,115]⟩,.i .i64 2,.s ⟨#[109]⟩,.i .i64 0,.s ⟨#[107]⟩,.i .i64 0,.s ⟨#[105]⟩,.i .i64 0]),(6,[.i .i64 0]),(17,[.s ⟨#[97]⟩,.ns,.sl 14 0 4 4 (.ex 4),.i .i64 2,.i .i64 3,.i .i64 0,.i .i64 0]),(14,[.i .i64 12,.i .i64 1,.sl 7 0 1 1 (.ex 1),.i .i64 0,.i .i64 0,.i .i64 2,.ns,.i .i64 1,.i .i64 3,.i .i64 3,.sl 10 0 2 1 (.ex 2),.i .i64 0,.i .i64 18,.i .i64 (-1),.sl 12 0 2 1 (.ex 2),.i .i64 0]),(7,[.i .i64 0]),(10,[.i .i64 1,.i .i64 2]),(12,[.i .i64 0,.i .i64 3]),(26,[.i .i64 0,.i .i64 64,.i .i64 0,.i .i64 64,.i .i64 1,.i .i64 1,.i .i64 (-1),.i .i64 63])],.sl 990005663 0 5 2 .en,[(990005663,[.b true,.i .i64 0,.b true,.i .i64 0,.b true,.i .i64 1,.b true,.i .i64 (-1),.b true,.i .i64 0])],990000000⟩
theorem Ho (hL:aE E) (hP:b8 E):bt prog E xy:=bA (bo hL hP (xx hL hP)) (by decide +kernel)
def xz:List bO:=xy::xw
theorem xA (hL:aE E) (hP:b8 E):∀m∈xz,bt prog E m:=aX (Ho hL hP) (xx hL hP)
def xB:bO:=⟨130,[.ag [.sl 5 0 4 2 (.ex 4),.sl 6 0 1 1 (.ex 1),.sl 17 0 1 7 (.ex 1)]],[(5,[.s ⟨#[120,115]⟩,.i .i64 2,.s ⟨#[109]⟩,.i .i64 0,.s ⟨#[107]⟩,.i .i64 0,.s ⟨#[105]⟩,.i .i64 0]),(6,[.i .i64 0]),(17,[.s ⟨#[97]⟩,.ns,.sl 14 0 4 4 (.ex 4),.i .i64 2,.i .i64 3,.i .i64 0,.i .i64 0]),(14,[.i .i64 12,.i .i64 1,.sl 7 0 1 1 (.ex 1),.i .i64 0,.i .i64 0,.i .i64 2,.ns,.i .i64 1,.i .i64 3,.i .i64 3,.sl 10 0 2 1 (.ex 2),.i .i64 0,.i .i64 18,.i .i64 (-1),.sl 12 0 2 1 (.ex 2),.i .i64 0]),(7,[.i .i64 0]),(10,[.i .i64 1,.i .i64 2]),(12,[.i .i64 0,.i .i64 3])],.i .i64 0,[],1987000000⟩
theorem Hq (hL:aE E) (hP:b8 E):bt prog E xB:=bA (bo hL hP (xA hL hP)) (by decide +kernel)
def xC:List bO:=xB::xz
theorem xD (hL:aE E) (hP:b8 E):∀m∈xC,bt prog E m:=aX (Hq hL hP) (xA hL hP)
def xE:bO:=⟨132,[.sl 987000318 0 4 1 .en,.i .i64 508],[(987000318,[.s ⟨#[120,115]⟩,.s ⟨#[109]⟩,.s ⟨#[107]⟩,.s ⟨#[105]⟩])],.sl 1986010206 0 508 1 .en,[(1986010206,[.s ⟨#[120,48]⟩,.s ⟨#[120,49]⟩,.s ⟨#[120,50]⟩,.s ⟨#[120,51]⟩,.s ⟨#[120,52]⟩,.s ⟨#[120,53]⟩,.s ⟨#[120,54]⟩,.s ⟨#[120,55]⟩,.s ⟨#[120,56]⟩,.s ⟨#[120,57]⟩,.s ⟨#[120,49,48]⟩,.s ⟨#[120,49,49]⟩,.s ⟨#[120,49,50]⟩,.s ⟨#[120,49,51]⟩,.s ⟨#[120,49,52]⟩,.s ⟨#[120,49,53]⟩,.s ⟨#[120,49,54]⟩,.s ⟨#[120,49,55]⟩,.s ⟨#[120,49,56]⟩,.s ⟨#[120,49,57]⟩,.s ⟨#[120,50,48]⟩,.s ⟨#[120,50,49]⟩,.s ⟨#[120,50,50]⟩,.s ⟨#[120,50,51]⟩,.s ⟨#[120,50,52]⟩,.s ⟨#[120,50,53]⟩,.s ⟨#[120,50,54]⟩,.s ⟨#[120,50,55]⟩,.s ⟨#[120,50,56]⟩,.s ⟨#[120,50,57]⟩,.s ⟨#[120,51,48]⟩,.s ⟨#[120,51,49]⟩,.s ⟨#[120,51,50]⟩,.s ⟨#[120,51,51]⟩,.s ⟨#[120,51,52]⟩,.s ⟨#[120,51,53]⟩,.s ⟨#[120,51,54]⟩,.s ⟨#[120,51,55]⟩,.s ⟨#[120,51,56]⟩,.s ⟨#[120,51,57]⟩,.s ⟨#[120,52,48]⟩,.s ⟨#[120,52,49]⟩,.s ⟨#[120,52,50]⟩,.s ⟨#[120,52,51]⟩,.s ⟨#[120,52,52]⟩,.s ⟨#[120,52,53]⟩,.s ⟨#[120,52,54]⟩,.s ⟨#[120,52,55]⟩,.s ⟨#[120,52,56]⟩,.s ⟨#[120,52,57]⟩,.s ⟨#[120,53,48]⟩,.s ⟨#[120,53,49]⟩,.s ⟨#[120,53,50]⟩,.s ⟨#[120,53,51]⟩,.s ⟨#[120,53,52]⟩,.s ⟨#[120,53,53]⟩,.s ⟨#[120,53,54]⟩,.s ⟨#[120,53,55]⟩,.s ⟨#[120,53,56]⟩,.s ⟨#[120,53,57]⟩,.s ⟨#[120,54,48]⟩,.s ⟨#[120,54,49]⟩,.s ⟨#[120,54,50]⟩,.s ⟨#[120,54,51]⟩,.s ⟨#[120,54,52]⟩,.s ⟨#[120,54,53]⟩,.s ⟨#[120,54,54]⟩,.s ⟨#[120,54,55]⟩,.s ⟨#[120,54,56]⟩,.s ⟨#[120,54,57]⟩,.s ⟨#[120,55,48]⟩,.s ⟨#[120,55,49]⟩,.s ⟨#[120,55,50]⟩,.s ⟨#[120,55,51]⟩,.s ⟨#[120,55,52]⟩,.s ⟨#[120,55,53]⟩,.s ⟨#[120,55,54]⟩,.s ⟨#[120,55,55]⟩,.s ⟨#[120,55,56]⟩,.s ⟨#[120,55,57]⟩,.s ⟨#[120,56,48]⟩,.s ⟨#[120,56,49]⟩,.s ⟨#[120,56,50]⟩,.s ⟨#[120,56,51]⟩,.s ⟨#[120,56,52]⟩,.s ⟨#[120,56,53]⟩,.s ⟨#[120,56,54]⟩,.s ⟨#[120,56,55]⟩,.s ⟨#[120,56,56]⟩,.s ⟨#[120,56,57]⟩,.s ⟨#[120,57,48]⟩,.s ⟨#[120,57,49]⟩,.s ⟨#[120,57,50]⟩,.s ⟨#[120,57,51]⟩,.s ⟨#[120,57,52]⟩,.s ⟨#[120,57,53]⟩,.s ⟨#[120,57,54]⟩,.s ⟨#[120,57,55]⟩,.s ⟨#[120,57,56]⟩,.s ⟨#[120,57,57]⟩,.s ⟨#[120,49,48,48]⟩,.s ⟨#[120,49,48,49]⟩,.s ⟨#[120,49,48,50]⟩,.s ⟨#[120,49,48,51]⟩,.s ⟨#[120,49,48,52]⟩,.s ⟨#[120,49,48,53]⟩,.s ⟨#[120,49,48,54]⟩,.s ⟨#[120,49,48,55]⟩,.s ⟨#[120,49,48,56]⟩,.s ⟨#[120,49,48,57]⟩,.s ⟨#[120,49,49,48]⟩,.s ⟨#[120,49,49,49]⟩,.s ⟨#[120,49,49,50]⟩,.s ⟨#[120,49,49,51]⟩,.s ⟨#[120,49,49,52]⟩,.s ⟨#[120,49,49,53]⟩,.s ⟨#[120,49,49,54]⟩,.s ⟨#[120,49,49,55]⟩,.s ⟨#[120,49,49,56]⟩,.s ⟨#[120,49,49,57]⟩,.s ⟨#[120,49,50,48]⟩,.s ⟨#[120,49,50,49]⟩,.s ⟨#[120,49,50,50]⟩,.s ⟨#[120,49,50,51]⟩,.s ⟨#[120,49,50,52]⟩,.s ⟨#[120,49,50,53]⟩,.s ⟨#[120,49,50,54]⟩,.s ⟨#[120,49,50,55]⟩,.s ⟨#[120,49,50,56]⟩,.s ⟨#[120,49,50,57]⟩,.s ⟨#[120,49,51,48]⟩,.s ⟨#[120,49,51,49]⟩,.s ⟨#[120,49,51,50]⟩,.s ⟨#[120,49,51,51]⟩,.s ⟨#[120,49,51,52]⟩,.s ⟨#[120,49,51,53]⟩,.s ⟨#[120,49,51,54]⟩,.s ⟨#[120,49,51,55]⟩,.s ⟨#[120,49,51,56]⟩,.s ⟨#[120,49,51,57]⟩,.s ⟨#[120,49,52,48]⟩,.s ⟨#[120,49,52,49]⟩,.s ⟨#[120,49,52,50]⟩,.s ⟨#[120,49,52,51]⟩,.s ⟨#[120,49,52,52]⟩,.s ⟨#[120,49,52,53]⟩,.s ⟨#[120,49,52,54]⟩,.s ⟨#[120,49,52,55]⟩,.s ⟨#[120,49,52,56]⟩,.s ⟨#[120,49,52,57]⟩,.s ⟨#[120,49,53,48]⟩,.s ⟨#[120,49,53,49]⟩,.s ⟨#[120,49,53,50]⟩,.s ⟨#[120,49,53,51]⟩,.s ⟨#[120,49,53,52]⟩,.s ⟨#[120,49,53,53]⟩,.s ⟨#[120,49,53,54]⟩,.s ⟨#[120,49,53,55]⟩,.s ⟨#[120,49,53,56]⟩,.s ⟨#[120,49,53,57]⟩,.s ⟨#[120,49,54,48]⟩,.s ⟨#[120,49,54,49]⟩,.s ⟨#[120,49,54,50]⟩,.s ⟨#[120,49,54,51]⟩,.s ⟨#[120,49,54,52]⟩,.s ⟨#[120,49,54,53]⟩,.s ⟨#[120,49,54,54]⟩,.s ⟨#[120,49,54,55]⟩,.s ⟨#[120,49,54,56]⟩,.s ⟨#[120,49,54,57]⟩,.s ⟨#[120,49,55,48]⟩,.s ⟨#[120,49,55,49]⟩,.s ⟨#[120,49,55,50]⟩,.s ⟨#[120,49,55,51]⟩,.s ⟨#[120,49,55,52]⟩,.s ⟨#[120,49,55,53]⟩,.s ⟨#[120,49,55,54]⟩,.s ⟨#[120,49,55,55]⟩,.s ⟨#[120,49,55,56]⟩,.s ⟨#[120,49,55,57]⟩,.s ⟨#[120,49,56,48]⟩,.s ⟨#[120,49,56,49]⟩,.s ⟨#[120,49,56,50]⟩,.s ⟨#[120,49,56,51]⟩,.s ⟨#[120,49,56,52]⟩,.s ⟨#[120,49,56,53]⟩,.s ⟨#[120,49,56,54]⟩,.s ⟨#[120,49,56,55]⟩,.s ⟨#[120,49,56,56]⟩,.s ⟨#[120,49,56,57]⟩,.s ⟨#[120,49,57,48]⟩,.s ⟨#[120,49,57,49]⟩,.s ⟨#[120,49,57,50]⟩,.s ⟨#[120,49,57,51]⟩,.s ⟨#[120,49,57,52]⟩,.s ⟨#[120,49,57,53]⟩,.s ⟨#[120,49,57,54]⟩,.s ⟨#[120,49,57,55]⟩,.s ⟨#[120,49,57,56]⟩,.s ⟨#[120,49,57,57]⟩,.s ⟨#[120,50,48,48]⟩,.s ⟨#[120,50,48,49]⟩,.s ⟨#[120,50,48,50]⟩,.s ⟨#[120,50,48,51]⟩,.s ⟨#[120,50,48,52]⟩,.s ⟨#[120,50,48,53]⟩,.s ⟨#[120,50,48,54]⟩,.s ⟨#[120,50,48,55]⟩,.s ⟨#[120,50,48,56]⟩,.s ⟨#[120,50,48,57]⟩,.s ⟨#[120,50,49,48]⟩,.s ⟨#[120,50,49,49]⟩,.s ⟨#[120,50,49,50]⟩,.s ⟨#[120,50,49,51]⟩,.s ⟨#[120,50,49,52]⟩,.s ⟨#[120,50,49,53]⟩,.s ⟨#[120,50,49,54]⟩,.s ⟨#[120,50,49,55]⟩,.s ⟨#[120,50,49,56]⟩,.s ⟨#[120,50,49,57]⟩,.s ⟨#[120,50,50,48]⟩,.s ⟨#[120,50,50,49]⟩,.s ⟨#[120,50,50,50]⟩,.s ⟨#[120,50,50,51]⟩,.s ⟨#[120,50,50,52]⟩,.s ⟨#[120,50,50,53]⟩,.s ⟨#[120,50,50,54]⟩,.s ⟨#[120,50,50,55]⟩,.s ⟨#[120,50,50,56]⟩,.s ⟨#[120,50,50,57]⟩,.s ⟨#[120,50,51,48]⟩,.s ⟨#[120,50,51,49]⟩,.s ⟨#[120,50,51,50]⟩,.s ⟨#[120,50,51,51]⟩,.s ⟨#[120,50,51,52]⟩,.s ⟨#[120,50,51,53]⟩,.s ⟨#[120,50,51,54]⟩,.s ⟨#[120,50,51,55]⟩,.s ⟨#[120,50,51,56]⟩,.s ⟨#[120,50,51,57]⟩,.s ⟨#[120,50,52,48]⟩,.s ⟨#[120,50,52,49]⟩,.s ⟨#[120,50,52,50]⟩,.s ⟨#[120,50,52,51]⟩,.s ⟨#[120,50,52,52]⟩,.s ⟨#[120,50,52,53]⟩,.s ⟨#[120,50,52,54]⟩,.s ⟨#[120,50,52,55]⟩,.s ⟨#[120,50,52,56]⟩,.s ⟨#[120,50,52,57]⟩,.s ⟨#[120,50,53,48]⟩,.s ⟨#[120,50,53,49]⟩,.s ⟨#[120,50,53,50]⟩,.s ⟨#[120,50,53,51]⟩,.s ⟨#[120,50,53,52]⟩,.s ⟨#[120,50,53,53]⟩,.s ⟨#[120,50,53,54]⟩,.s ⟨#[120,50,53,55]⟩,.s ⟨#[120,50,53,56]⟩,.s ⟨#[120,50,53,57]⟩,.s ⟨#[120,50,54,48]⟩,.s ⟨#[120,50,54,49]⟩,.s ⟨#[120,50,54,50]⟩,.s ⟨#[120,50,54,51]⟩,.s ⟨#[120,50,54,52]⟩,.s ⟨#[120,50,54,53]⟩,.s ⟨#[120,50,54,54]⟩,.s ⟨#[120,50,54,55]⟩,.s ⟨#[120,50,54,56]⟩,.s ⟨#[120,50,54,57]⟩,.s ⟨#[120,50,55,48]⟩,.s ⟨#[120,50,55,49]⟩,.s ⟨#[120,50,55,50]⟩,.s ⟨#[120,50,55,51]⟩,.s ⟨#[120,50,55,52]⟩,.s ⟨#[120,50,55,53]⟩,.s ⟨#[120,50,55,54]⟩,.s ⟨#[120,50,55,55]⟩,.s ⟨#[120,50,55,56]⟩,.s ⟨#[120,50,55,57]⟩,.s ⟨#[120,50,56,48]⟩,.s ⟨#[120,50,56,49]⟩,.s ⟨#[120,50,56,50]⟩,.s ⟨#[120,50,56,51]⟩,.s ⟨#[120,50,56,52]⟩,.s ⟨#[120,50,56,53]⟩,.s ⟨#[120,50,56,54]⟩,.s ⟨#[120,50,56,55]⟩,.s ⟨#[120,50,56,56]⟩,.s ⟨#[120,50,56,57]⟩,.s ⟨#[120,50,57,48]⟩,.s ⟨#[120,50,57,49]⟩,.s ⟨#[120,50,57,50]⟩,.s ⟨#[120,50,57,51]⟩,.s ⟨#[120,50,57,52]⟩,.s ⟨#[120,50,57,53]⟩,.s ⟨#[120,50,57,54]⟩,.s ⟨#[120,50,57,55]⟩,.s ⟨#[120,50,57,56]⟩,.s ⟨#[120,50,57,57]⟩,.s ⟨#[120,51,48,48]⟩,.s ⟨#[120,51,48,49]⟩,.s ⟨#[120,51,48,50]⟩,.s ⟨#[120,51,48,51]⟩,.s ⟨#[120,51,48,52]⟩,.s ⟨#[120,51,48,53]⟩,.s ⟨#[120,51,48,54]⟩,.s ⟨#[120,51,48,55]⟩,.s ⟨#[120,51,48,56]⟩,.s ⟨#[120,51,48,57]⟩,.s ⟨#[120,51,49,48]⟩,.s ⟨#[120,51,49,49]⟩,.s ⟨#[120,51,49,50]⟩,.s ⟨#[120,51,49,51]⟩,.s ⟨#[120,51,49,52]⟩,.s ⟨#[120,51,49,53]⟩,.s ⟨#[120,51,49,54]⟩,.s ⟨#[120,51,49,55]⟩,.s ⟨#[120,51,49,56]⟩,.s ⟨#[120,51,49,57]⟩,.s ⟨#[120,51,50,48]⟩,.s ⟨#[120,51,50,49]⟩,.s ⟨#[120,51,50,50]⟩,.s ⟨#[120,51,50,51]⟩,.s ⟨#[120,51,50,52]⟩,.s ⟨#[120,51,50,53]⟩,.s ⟨#[120,51,50,54]⟩,.s ⟨#[120,51,50,55]⟩,.s ⟨#[120,51,50,56]⟩,.s ⟨#[120,51,50,57]⟩,.s ⟨#[120,51,51,48]⟩,.s ⟨#[120,51,51,49]⟩,.s ⟨#[120,51,51,50]⟩,.s ⟨#[120,51,51,51]⟩,.s ⟨#[120,51,51,52]⟩,.s ⟨#[120,51,51,53]⟩,.s ⟨#[120,51,51,54]⟩,.s ⟨#[120,51,51,55]⟩,.s ⟨#[120,51,51,56]⟩,.s ⟨#[120,51,51,57]⟩,.s ⟨#[120,51,52,48]⟩,.s ⟨#[120,51,52,49]⟩,.s ⟨#[120,51,52,50]⟩,.s ⟨#[120,51,52,51]⟩,.s ⟨#[120,51,52,52]⟩,.s ⟨#[120,51,52,53]⟩,.s ⟨#[120,51,52,54]⟩,.s ⟨#[120,51,52,55]⟩,.s ⟨#[120,51,52,56]⟩,.s ⟨#[120,51,52,57]⟩,.s ⟨#[120,51,53,48]⟩,.s ⟨#[120,51,53,49]⟩,.s ⟨#[120,51,53,50]⟩,.s ⟨#[120,51,53,51]⟩,.s ⟨#[120,51,53,52]⟩,.s ⟨#[120,51,53,53]⟩,.s ⟨#[120,51,53,54]⟩,.s ⟨#[120,51,53,55]⟩,.s ⟨#[120,51,53,56]⟩,.s ⟨#[120,51,53,57]⟩,.s ⟨#[120,51,54,48]⟩,.s ⟨#[120,51,54,49]⟩,.s ⟨#[120,51,54,50]⟩,.s ⟨#[120,51,54,51]⟩,.s ⟨#[120,51,54,52]⟩,.s ⟨#[120,51,54,53]⟩,.s ⟨#[120,51,54,54]⟩,.s ⟨#[120,51,54,55]⟩,.s ⟨#[120,51,54,56]⟩,.s ⟨#[120,51,54,57]⟩,.s ⟨#[120,51,55,48]⟩,.s ⟨#[120,51,55,49]⟩,.s ⟨#[120,51,55,50]⟩,.s ⟨#[120,51,55,51]⟩,.s ⟨#[120,51,55,52]⟩,.s ⟨#[120,51,55,53]⟩,.s ⟨#[120,51,55,54]⟩,.s ⟨#[120,51,55,55]⟩,.s ⟨#[120,51,55,56]⟩,.s ⟨#[120,51,55,57]⟩,.s ⟨#[120,51,56,48]⟩,.s ⟨#[120,51,56,49]⟩,.s ⟨#[120,51,56,50]⟩,.s ⟨#[120,51,56,51]⟩,.s ⟨#[120,51,56,52]⟩,.s ⟨#[120,51,56,53]⟩,.s ⟨#[120,51,56,54]⟩,.s ⟨#[120,51,56,55]⟩,.s ⟨#[120,51,56,56]⟩,.s ⟨#[120,51,56,57]⟩,.s ⟨#[120,51,57,48]⟩,.s ⟨#[120,51,57,49]⟩,.s ⟨#[120,51,57,50]⟩,.s ⟨#[120,51,57,51]⟩,.s ⟨#[120,51,57,52]⟩,.s ⟨#[120,51,57,53]⟩,.s ⟨#[120,51,57,54]⟩,.s ⟨#[120,51,57,55]⟩,.s ⟨#[120,51,57,56]⟩,.s ⟨#[120,51,57,57]⟩,.s ⟨#[120,52,48,48]⟩,.s ⟨#[120,52,48,49]⟩,.s ⟨#[120,52,48,50]⟩,.s ⟨#[120,52,48,51]⟩,.s ⟨#[120,52,48,52]⟩,.s ⟨#[120,52,48,53]⟩,.s ⟨#[120,52,48,54]⟩,.s ⟨#[120,52,48,55]⟩,.s ⟨#[120,52,48,56]⟩,.s ⟨#[120,52,48,57]⟩,.s ⟨#[120,52,49,48]⟩,.s ⟨#[120,52,49,49]⟩,.s ⟨#[120,52,49,50]⟩,.s ⟨#[120,52,49,51]⟩,.s ⟨#[120,52,49,52]⟩,.s ⟨#[120,52,49,53]⟩,.s ⟨#[120,52,49,54]⟩,.s ⟨#[120,52,49,55]⟩,.s ⟨#[120,52,49,56]⟩,.s ⟨#[120,52,49,57]⟩,.s ⟨#[120,52,50,48]⟩,.s ⟨#[120,52,50,49]⟩,.s ⟨#[120,52,50,50]⟩,.s ⟨#[120,52,50,51]⟩,.s ⟨#[120,52,50,52]⟩,.s ⟨#[120,52,50,53]⟩,.s ⟨#[120,52,50,54]⟩,.s ⟨#[120,52,50,55]⟩,.s ⟨#[120,52,50,56]⟩,.s ⟨#[120,52,50,57]⟩,.s ⟨#[120,52,51,48]⟩,.s ⟨#[120,52,51,49]⟩,.s ⟨#[120,52,51,50]⟩,.s ⟨#[120,52,51,51]⟩,.s ⟨#[120,52,51,52]⟩,.s ⟨#[120,52,51,53]⟩,.s ⟨#[120,52,51,54]⟩,.s ⟨#[120,52,51,55]⟩,.s ⟨#[120,52,51,56]⟩,.s ⟨#[120,52,51,57]⟩,.s ⟨#[120,52,52,48]⟩,.s ⟨#[120,52,52,49]⟩,.s ⟨#[120,52,52,50]⟩,.s ⟨#[120,52,52,51]⟩,.s ⟨#[120,52,52,52]⟩,.s ⟨#[120,52,52,53]⟩,.s ⟨#[120,52,52,54]⟩,.s ⟨#[120,52,52,55]⟩,.s ⟨#[120,52,52,56]⟩,.s ⟨#[120,52,52,57]⟩,.s ⟨#[120,52,53,48]⟩,.s ⟨#[120,52,53,49]⟩,.s ⟨#[120,52,53,50]⟩,.s ⟨#[120,52,53,51]⟩,.s ⟨#[120,52,53,52]⟩,.s ⟨#[120,52,53,53]⟩,.s ⟨#[120,52,53,54]⟩,.s ⟨#[120,52,53,55]⟩,.s ⟨#[120,52,53,56]⟩,.s ⟨#[120,52,53,57]⟩,.s ⟨#[120,52,54,48]⟩,.s ⟨#[120,52,54,49]⟩,.s ⟨#[120,52,54,50]⟩,.s ⟨#[120,52,54,51]⟩,.s ⟨#[120,52,54,52]⟩,.s ⟨#[120,52,54,53]⟩,.s ⟨#[120,52,54,54]⟩,.s ⟨#[120,52,54,55]⟩,.s ⟨#[120,52,54,56]⟩,.s ⟨#[120,52,54,57]⟩,.s ⟨#[120,52,55,48]⟩,.s ⟨#[120,52,55,49]⟩,.s ⟨#[120,52,55,50]⟩,.s ⟨#[120,52,55,51]⟩,.s ⟨#[120,52,55,52]⟩,.s ⟨#[120,52,55,53]⟩,.s ⟨#[120,52,55,54]⟩,.s ⟨#[120,52,55,55]⟩,.s ⟨#[120,52,55,56]⟩,.s ⟨#[120,52,55,57]⟩,.s ⟨#[120,52,56,48]⟩,.s ⟨#[120,52,56,49]⟩,.s ⟨#[120,52,56,50]⟩,.s ⟨#[120,52,56,51]⟩,.s ⟨#[120,52,56,52]⟩,.s ⟨#[120,52,56,53]⟩,.s ⟨#[120,52,56,54]⟩,.s ⟨#[120,52,56,55]⟩,.s ⟨#[120,52,56,56]⟩,.s ⟨#[120,52,56,57]⟩,.s ⟨#[120,52,57,48]⟩,.s ⟨#[120,52,57,49]⟩,.s ⟨#[120,52,57,50]⟩,.s ⟨#[120,52,57,51]⟩,.s ⟨#[120,52,57,52]⟩,.s ⟨#[120,52,57,53]⟩,.s ⟨#[120,52,57,54]⟩,.s ⟨#[120,52,57,55]⟩,.s ⟨#[120,52,57,56]⟩,.s ⟨#[120,52,57,57]⟩,.s ⟨#[120,53,48,48]⟩,.s ⟨#[120,53,48,49]⟩,.s ⟨#[120,53,48,50]⟩,.s ⟨#[120,53,48,51]⟩,.s ⟨#[120,53,48,52]⟩,.s ⟨#[120,53,48,53]⟩,.s ⟨#[120,53,48,54]⟩,.s ⟨#[120,53,48,55]⟩])],1986000000⟩
theorem Hr (hL:aE E) (hP:b8 E):bt prog E xE:=bA (bo hL hP (xD hL hP)) (by decide +kernel)
def xF:List bO:=xE::xC
theorem xG (hL:aE E) (hP:b8 E):∀m∈xF,bt prog E m:=aX (Hr hL hP) (xD hL hP)
def xH:bO:=⟨30,[.ag [.sl 5 0 4 2 (.ex 4),.sl 6 0 1 1 (.ex 1),.sl 17 0 1 7 (.ex 1)]],[(5,[.s ⟨#[120,115]⟩,.i .i64 2,.s ⟨#[109]⟩,.i .i64 0,.s ⟨#[107]⟩,.i .i64 0,.s ⟨#[105]⟩,.i .i64 0]),(6,[.i .i64 0]),(17,[.s ⟨#[97]⟩,.ns,.sl 14 0 4 4 (.ex 4),.i .i64 2,.i .i64 3,.i .i64 0,.i .i64 0]),(14,[.i .i64 12,.i .i64 1,.sl 7 0 1 1 (.ex 1),.i .i64 0,.i .i64 0,.i .i64 2,.ns,.i .i64 1,.i .i64 3,.i .i64 3,.sl 10 0 2 1 (.ex 2),.i .i64 0,.i .i64 18,.i .i64 (-1),.sl 12 0 2 1 (.ex 2),.i .i64 0]),(7,[.i .i64 0]),(10,[.i .i64 1,.i .i64 2]),(12,[.i .i64 0,.i .i64 3])],.tu [.ag [.sl 987000901 0 5 2 .en,.sl 987000080 0 1 1 .en,.sl 987000213 0 1 7 .en],.i .i64 0],[(987000901,[.s ⟨#[120,115]⟩,.i .i64 2,.s ⟨#[109]⟩,.i .i64 0,.s ⟨#[107]⟩,.i .i64 0,.s ⟨#[105]⟩,.i .i64 0,.s ⟨#[120,48]⟩,.i .i64 0]),(987000080,[.i .i64 0]),(987000213,[.s ⟨#[97]⟩,.ns,.sl 987000933 0 5 4 .en,.i .i64 2,.i .i64 4,.i .i64 0,.i .i64 0]),(987000933,[.i .i64 12,.i .i64 1,.sl 987000506 0 1 1 .en,.i .i64 0,.i .i64 0,.i .i64 2,.ns,.i .i64 1,.i .i64 3,.i .i64 3,.sl 987000654 0 2 1 .en,.i .i64 0,.i .i64 18,.i .i64 (-1),.sl 987000761 0 2 1 .en,.i .i64 0,.i .i64 26,.i .i64 4,.sl 987000802 0 2 1 (.ex 2),.i .i64 0]),(987000506,[.i .i64 0]),(987000654,[.i .i64 1,.i .i64 2]),(987000761,[.i .i64 0,.i .i64 3]),(987000802,[.i .i64 3,.i .i64 0])],987000000⟩
theorem Hs (hL:aE E) (hP:b8 E):bt prog E xH:=bA (bo hL hP (xG hL hP)) (by decide +kernel)
def xI:List bO:=xH::xF
theorem xJ (hL:aE E) (hP:b8 E):∀m∈xI,bt prog E m:=aX (Hs hL hP) (xG hL hP)
def xK:bO:=⟨120,[.ag [.sl 37 0 5 2 .en,.sl 38 0 1 1 .en,.sl 39 0 1 7 .en]],[(37,[.s ⟨#[120,115]⟩,.i .i64 2,.s ⟨#[109]⟩,.i .i64 0,.s ⟨#[107]⟩,.i .i64 0,.s ⟨#[105]⟩,.i .i64 0,.s ⟨#[120,48]⟩,.i .i64 0]),(38,[.i .i64 0]),(39,[.s ⟨#[97]⟩,.ns,.sl 40 0 5 4 .en,.i .i64 2,.i .i64 4,.i .i64 0,.i .i64 0]),(40,[.i .i64 12,.i .i64 1,.sl 41 0 1 1 .en,.i .i64 0,.i .i64 0,.i .i64 2,.ns,.i .i64 1,.i .i64 3,.i .i64 3,.sl 42 0 2 1 .en,.i .i64 0,.i .i64 18,.i .i64 (-1),.sl 43 0 2 1 .en,.i .i64 0,.i .i64 26,.i .i64 4,.sl 44 0 2 1 (.ex 2),.i .i64 0]),(41,[.i .i64 0]),(42,[.i .i64 1,.i .i64 2]),(43,[.i .i64 0,.i .i64 3]),(44,[.i .i64 3,.i .i64 0])],.b true,[],4981000000⟩
theorem Ht (hL:aE E) (hP:b8 E):bt prog E xK:=bA (bo hL hP (xJ hL hP)) (by decide +kernel)
def xL:List bO:=xK::xI
theorem xM (hL:aE E) (hP:b8 E):∀m∈xL,bt prog E m:=aX (Ht hL hP) (xJ hL hP)
def xN:bO:=⟨77,[.ag [.sl 37 0 5 2 .en,.sl 38 0 1 1 .en,.sl 39 0 1 7 .en]],[(37,[.s ⟨#[120,115]⟩,.i .i64 2,.s ⟨#[109]⟩,.i .i64 0,.s ⟨#[107]⟩,.i .i64 0,.s ⟨#[105]⟩,.i .i64 0,.s ⟨#[120,48]⟩,.i .i64 0]),(38,[.i .i64 0]),(39,[.s ⟨#[97]⟩,.ns,.sl 40 0 5 4 .en,.i .i64 2,.i .i64 4,.i .i64 0,.i .i64 0]),(40,[.i .i64 12,.i .i64 1,.sl 41 0 1 1 .en,.i .i64 0,.i .i64 0,.i .i64 2,.ns,.i .i64 1,.i .i64 3,.i .i64 3,.sl 42 0 2 1 .en,.i .i64 0,.i .i64 18,.i .i64 (-1),.sl 43 0 2 1 .en,.i .i64 0,.i .i64 26,.i .i64 4,.sl 44 0 2 1 (.ex 2),.i .i64 0]),(41,[.i .i64 0]),(42,[.i .i64 1,.i .i64 2]),(43,[.i .i64 0,.i .i64 3]),(44,[.i .i64 3,.i .i64 0])],.i .i64 0,[],3982000000⟩
theorem Hu (hL:aE E) (hP:b8 E):bt prog E xN:=bA (bo hL hP (xM hL hP)) (by decide +kernel)
def xO:List bO:=xN::xL
theorem xP (hL:aE E) (hP:b8 E):∀m∈xO,bt prog E m:=aX (Hu hL hP) (xM hL hP)
def xQ:bO:=⟨103,[.ag [.sl 37 0 5 2 .en,.sl 38 0 1 1 .en,.sl 39 0 1 7 .en]],[(37,[.s ⟨#[120,115]⟩,.i .i64 2,.s ⟨#[109]⟩,.i .i64 0,.s ⟨#[107]⟩,.i .i64 0,.s ⟨#[105]⟩,.i .i64 0,.s ⟨#[120,48]⟩,.i .i64 0]),(38,[.i .i64 0]),(39,[.s ⟨#[97]⟩,.ns,.sl 40 0 5 4 .en,.i .i64 2,.i .i64 4,.i .i64 0,.i .i64 0]),(40,[.i .i64 12,.i .i64 1,.sl 41 0 1 1 .en,.i .i64 0,.i .i64 0,.i .i64 2,.ns,.i .i64 1,.i .i64 3,.i .i64 3,.sl 42 0 2 1 .en,.i .i64 0,.i .i64 18,.i .i64 (-1),.sl 43 0 2 1 .en,.i .i64 0,.i .i64 26,.i .i64 4,.sl 44 0 2 1 (.ex 2),.i .i64 0]),(41,[.i .i64 0]),(42,[.i .i64 1,.i .i64 2]),(43,[.i .i64 0,.i .i64 3]),(44,[.i .i64 3,.i .i64 0])],.b true,[],2983000000⟩
theorem Hv (hL:aE E) (hP:b8 E):bt prog E xQ:=bA (bo hL hP (xP hL hP)) (by decide +kernel)
def xR:List bO:=xQ::xO
theorem xS (hL:aE E) (hP:b8 E):∀m∈xR,bt prog E m:=aX (Hv hL hP) (xP hL hP)
def xT:bO:=⟨115,[.ag [.sl 37 0 5 2 .en,.sl 38 0 1 1 .en,.sl 39 0 1 7 .en]],[(37,[.s ⟨#[120,115]⟩,.i .i64 2,.s ⟨#[109]⟩,.i .i64 0,.s ⟨#[107]⟩,.i .i64 0,.s ⟨#[105]⟩,.i .i64 0,.s ⟨#[120,48]⟩,.i .i64 0]),(38,[.i .i64 0]),(39,[.s ⟨#[97]⟩,.ns,.sl 40 0 5 4 .en,.i .i64 2,.i .i64 4,.i .i64 0,.i .i64 0]),(40,[.i .i64 12,.i .i64 1,.sl 41 0 1 1 .en,.i .i64 0,.i .i64 0,.i .i64 2,.ns,.i .i64 1,.i .i64 3,.i .i64 3,.sl 42 0 2 1 .en,.i .i64 0,.i .i64 18,.i .i64 (-1),.sl 43 0 2 1 .en,.i .i64 0,.i .i64 26,.i .i64 4,.sl 44 0 2 1 (.ex 2),.i .i64 0]),(41,[.i .i64 0]),(42,[.i .i64 1,.i .i64 2]),(43,[.i .i64 0,.i .i64 3]),(44,[.i .i64 3,.i .i64 0])],.sl 2980000005 0 1 1 (.ex 1),[(2980000005,[.ns])],2980000000⟩
theorem Hw (hL:aE E) (hP:b8 E):bt prog E xT:=bA (bo hL hP (xS hL hP)) (by decide +kernel)
def xU:List bO:=xT::xR
theorem xV (hL:aE E) (hP:b8 E):∀m∈xU,bt prog E m:=aX (Hw hL hP) (xS hL hP)
def xW:bO:=⟨114,[.ag [.sl 37 0 5 2 .en,.sl 38 0 1 1 .en,.sl 39 0 1 7 .en]],[(37,[.s ⟨#[120,115]⟩,.i .i64 2,.s ⟨#[109]⟩,.i .i64 0,.s ⟨#[107]⟩,.i .i64 0,.s ⟨#[105]⟩,.i .i64 0,.s ⟨#[120,48]⟩,.i .i64 0]),(38,[.i .i64 0]),(39,[.s ⟨#[97]⟩,.ns,.sl 40 0 5 4 .en,.i .i64 2,.i .i64 4,.i .i64 0,.i .i64 0]),(40,[.i .i64 12,.i .i64 1,.sl 41 0 1 1 .en,.i .i64 0,.i .i64 0,.i .i64 2,.ns,.i .i64 1,.i .i64 3,.i .i64 3,.sl 42 0 2 1 .en,.i .i64 0,.i .i64 18,.i .i64 (-1),.sl 43 0 2 1 .en,.i .i64 0,.i .i64 26,.i .i64 4,.sl 44 0 2 1 (.ex 2),.i .i64 0]),(41,[.i .i64 0]),(42,[.i .i64 1,.i .i64 2]),(43,[.i .i64 0,.i .i64 3]),(44,[.i .i64 3,.i .i64 0])],.sl 2979000064 0 1 1 .en,[(2979000064,[.i .i64 0])],2979000000⟩
theorem Hx (hL:aE E) (hP:b8 E):bt prog E xW:=bA (bo hL hP (xV hL hP)) (by decide +kernel)
def xX:List bO:=xW::xU
theorem xY (hL:aE E) (hP:b8 E):∀m∈xX,bt prog E m:=aX (Hx hL hP) (xV hL hP)
def xZ:bO:=⟨36,[.ag [.sl 37 0 5 2 .en,.sl 38 0 1 1 .en,.sl 39 0 1 7 .en]],[(37,[.s ⟨#[120,115]⟩,.i .i64 2,.s ⟨#[109]⟩,.i .i64 0,.s ⟨#[107]⟩,.i .i64 0,.s ⟨#[105]⟩,.i .i64 0,.s ⟨#[120,48]⟩,.i .i64 0]),(38,[.i .i64 0]),(39,[.s ⟨#[97]⟩,.ns,.sl 40 0 5 4 .en,.i .i64 2,.i .i64 4,.i .i64 0,.i .i64 0]),(40,[.i .i64 12,.i .i64 1,.sl 41 0 1 1 .en,.i .i64 0,.i .i64 0,.i .i64 2,.ns,.i .i64 1,.i .i64 3,.i .i64 3,.sl 42 0 2 1 .en,.i .i64 0,.i .i64 18,.i .i64 (-1),.sl 43 0 2 1 .en,.i .i64 0,.i .i64 26,.i .i64 4,.sl 44 0 2 1 (.ex 2),.i .i64 0]),(41,[.i .i64 0]),(42,[.i .i64 1,.i .i64 2]),(43,[.i .i64 0,.i .i64 3]),(44,[.i .i64 3,.i .i64 0])],.tu [.p 2978000046 0,.i .i64 0],[(2978000046,[.sl 2978000138 0 1 1 (.ex 1),.sl 2978000378 0 1 1 (.ex 1),.sl 2978000042 0 1 1 (.ex 1),.sl 2978000044 0 1 1 (.ex 1)]),(2978000138,[.i .i64 (-1)]),(2978000378,[.i .i64 0]),(2978000042,[.ns]),(2978000044,[.ns])],2978000000⟩
theorem Hy (hL:aE E) (hP:b8 E):bt prog E xZ:=bA (bo hL hP (xY hL hP)) (by decide +kernel)
def x8:List bO:=xZ::xX
theorem x9 (hL:aE E) (hP:b8 E):∀m∈x8,bt prog E m:=aX (Hy hL hP) (xY hL hP)
def yA:bO:=⟨37,[.ag [.sl 37 0 5 2 .en,.sl 38 0 1 1 .en,.sl 39 0 1 7 .en]],[(37,[.s ⟨#[120,115]⟩,.i .i64 2,.s ⟨#[109]⟩,.i .i64 0,.s ⟨#[107]⟩,.i .i64 0,.s ⟨#[105]⟩,.i .i64 0,.s ⟨#[120,48]⟩,.i .i64 0]),(38,[.i .i64 0]),(39,[.s ⟨#[97]⟩,.ns,.sl 40 0 5 4 .en,.i .i64 2,.i .i64 4,.i .i64 0,.i .i64 0]),(40,[.i .i64 12,.i .i64 1,.sl 41 0 1 1 .en,.i .i64 0,.i .i64 0,.i .i64 2,.ns,.i .i64 1,.i .i64 3,.i .i64 3,.sl 42 0 2 1 .en,.i .i64 0,.i .i64 18,.i .i64 (-1),.sl 43 0 2 1 .en,.i .i64 0,.i .i64 26,.i .i64 4,.sl 44 0 2 1 (.ex 2),.i .i64 0]),(41,[.i .i64 0]),(42,[.i .i64 1,.i .i64 2]),(43,[.i .i64 0,.i .i64 3]),(44,[.i .i64 3,.i .i64 0])],.sl 2977000249 0 5 2 .en,[(2977000249,[.i .i64 (-1),.i .i64 0,.i .i64 0,.i .i64 0,.i .i64 0,.i .i64 1,.i .i64 0,.i .i64 2,.i .i64 0,.i .i64 4])],2977000000⟩
theorem Hz (hL:aE E) (hP:b8 E):bt prog E yA:=bA (bo hL hP (x9 hL hP)) (by decide +kernel)
def yB:List bO:=yA::x8
theorem yC (hL:aE E) (hP:b8 E):∀m∈yB,bt prog E m:=aX (Hz hL hP) (x9 hL hP)
def yD:bO:=⟨34,[.ag [.sl 37 0 5 2 .en,.sl 38 0 1 1 .en,.sl 39 0 1 7 .en]],[(37,[.s ⟨#[120,115]⟩,.i .i64 2,.s ⟨#[109]⟩,.i .i64 0,.s ⟨#[107]⟩,.i .i64 0,.s ⟨#[105]⟩,.i .i64 0,.s ⟨#[120,48]⟩,.i .i64 0]),(38,[.i .i64 0]),(39,[.s ⟨#[97]⟩,.ns,.sl 40 0 5 4 .en,.i .i64 2,.i .i64 4,.i .i64 0,.i .i64 0]),(40,[.i .i64 12,.i .i64 1,.sl 41 0 1 1 .en,.i .i64 0,.i .i64 0,.i .i64 2,.ns,.i .i64 1,.i .i64 3,.i .i64 3,.sl 42 0 2 1 .en,.i .i64 0,.i .i64 18,.i .i64 (-1),.sl 43 0 2 1 .en,.i .i64 0,.i .i64 26,.i .i64 4,.sl 44 0 2 1 (.ex 2),.i .i64 0]),(41,[.i .i64 0]),(42,[.i .i64 1,.i .i64 2]),(43,[.i .i64 0,.i .i64 3]),(44,[.i .i64 3,.i .i64 0])],.i .i64 0,[],1984000000⟩
theorem HA (hL:aE E) (hP:b8 E):bt prog E yD:=bA (bo hL hP (yC hL hP)) (by decide +kernel)
def yE:List bO:=yD::yB
theorem yF (hL:aE E) (hP:b8 E):∀m∈yE,bt prog E m:=aX (HA hL hP) (yC hL hP)
def yG:bO:=⟨31,[.ag [.sl 37 0 5 2 .en,.sl 38 0 1 1 .en,.sl 39 0 1 7 .en]],[(37,[.s ⟨#[120,115]⟩,.i .i64 2,.s ⟨#[109]⟩,.i .i64 0,.s ⟨#[107]⟩,.i .i64 0,.s ⟨#[105]⟩,.i .i64 0,.s ⟨#[120,48]⟩,.i .i64 0]),(38,[.i .i64 0]),(39,[.s ⟨#[97]⟩,.ns,.sl 40 0 5 4 .en,.i .i64 2,.i .i64 4,.i .i64 0,.i .i64 0]),(40,[.i .i64 12,.i .i64 1,.sl 41 0 1 1 .en,.i .i64 0,.i .i64 0,.i .i64 2,.ns,.i .i64 1,.i .i64 3,.i .i64 3,.sl 42 0 2 1 .en,.i .i64 0,.i .i64 18,.i .i64 (-1),.sl 43 0 2 1 .en,.i .i64 0,.i .i64 26,.i .i64 4,.sl 44 0 2 1 (.ex 2),.i .i64 0]),(41,[.i .i64 0]),(42,[.i .i64 1,.i .i64 2]),(43,[.i .i64 0,.i .i64 3]),(44,[.i .i64 3,.i .i64 0])],.tu [.sl 977000476 0 5 2 .en,.i .i64 0],[(977000476,[.i .i64 0,.i .i64 64,.i .i64 0,.i .i64 64,.i .i64 1,.i .i64 1,.i .i64 (-1),.i .i64 63,.i .i64 0,.i .i64 63])],977000000⟩
theorem HB (hL:aE E) (hP:b8 E):bt prog E yG:=bA (bo hL hP (yF hL hP)) (by decide +kernel)
def yH:List bO:=yG::yE
theorem yI (hL:aE E) (hP:b8 E):∀m∈yH,bt prog E m:=aX (HB hL hP) (yF hL hP)
def yJ:bO:=⟨13,[.ag [.sl 37 0 5 2 .en,.sl 38 0 1 1 .en,.sl 39 0 1 7 .en],.sl 55 0 5 2 .en],[(37,[.s ⟨#[120,115]⟩,.i .i64 2,.s ⟨#[109]⟩,.i .i64 0,.s ⟨#[107]⟩,.i .i64 0,.s ⟨#[105]⟩,.i .i64 0,.s ⟨#[120,48]⟩,.i .i64 0]),(38,[.i .i64 0]),(39,[.s ⟨#[97]⟩,.ns,.sl 40 0 5 4 .en,.i .i64 2,.i .i64 4,.i .i64 0,.i .i64 0]),(40,[.i .i64 12,.i .i64 1,.sl 41 0 1 1 .en,.i .i64 0,.i .i64 0,.i .i64 2,.ns,.i .i64 1,.i .i64 3,.i .i64 3,.sl 42 0 2 1 .en,.i .i64 0,.i .i64 18,.i .i64 (-1),.sl 43 0 2 1 .en,.i .i64 0,.i .i64 26,.i .i64 4,.sl 44 0 2 1 (.ex 2),.i .i64 0]),(41,[.i .i64 0]),(42,[.i .i64 1,.i .i64 2]),(43,[.i .i64 0,.i .i64 3]),(44,[.i .i64 3,.i .i64 0]),(55,[.i .i64 0,.i .i64 64,.i .i64 0,.i .i64 64,.i .i64 1,.i .i64 1,.i .i64 (-1),.i .i64 63,.i .i64 0,.i .i64 63])],.b true,[],1975000000⟩
theorem HC (hL:aE E) (hP:b8 E):bt prog E yJ:=bA (bo hL hP (yI hL hP)) (by decide +kernel)
def yK:List bO:=yJ::yH
theorem yL (hL:aE E) (hP:b8 E):∀m∈yK,bt prog E m:=aX (HC hL hP) (yI hL hP)
def yM:bO:=⟨21,[.ag [.sl 37 0 5 2 .en,.sl 38 0 1 1 .en,.sl 39 0 1 7 .en],.sl 55 0 5 2 .en],[(37,[.s ⟨#[120,115]⟩,.i .i64 2,.s ⟨#[109]⟩,.i .i64 0,.s ⟨#[107]⟩,.i .i64 0,.s ⟨#[105]⟩,.i .i64 0,.s ⟨#[120,48]⟩,.i .i64 0]),(38,[.i .i64 0]),(39,[.s ⟨#[97]⟩,.ns,.sl 40 0 5 4 .en,.i .i64 2,.i .i64 4,.i .i64 0,.i .i64 0]),(40,[.i .i64 12,.i .i64 1,.sl 41 0 1 1 .en,.i .i64 0,.i .i64 0,.i .i64 2,.ns,.i .i64 1,.i .i64 3,.i .i64 3,.sl 42 0 2 1 .en,.i .i64 0,.i .i64 18,.i .i64 (-1),.sl 43 0 2 1 .en,.i .i64 0,.i .i64 26,.i .i64 4,.sl 44 0 2 1 (.ex 2),.i .i64 0]),(41,[.i .i64 0]),(42,[.i .i64 1,.i .i64 2]),(43,[.i .i64 0,.i .i64 3]),(44,[.i .i64 3,.i .i64 0]),(55,[.i .i64 0,.i .i64 64,.i .i64 0,.i .i64 64,.i .i64 1,.i .i64 1,.i .i64 (-1),.i .i64 63,.i .i64 0,.i .i64 63])],.sl 1974001807 0 10 3 .en,[(1974001807,[.i .i64 5,.i .i64 0,.i .i64 0,.i .i64 0,.i .i64 1,.i .i64 0,.i .i64 5,.i .i64 1,.i .i64 0,.i .i64 5,.i .i64 2,.i .i64 1,.i .i64 5,.i .i64 2,.i .i64 1,.i .i64 1,.i .i64 3,.i .i64 (-1),.i .i64 5,.i .i64 3,.i .i64 (-1),.i .i64 3,.i .i64 4,.i .i64 0,.i .i64 5,.i .i64 4,.i .i64 0,.i .i64 5,.i .i64 4,.i .i64 0])],1974000000⟩
theorem HD (hL:aE E) (hP:b8 E):bt prog E yM:=bA (bo hL hP (yL hL hP)) (by decide +kernel)
def yN:List bO:=yM::yK
theorem yO (hL:aE E) (hP:b8 E):∀m∈yN,bt prog E m:=aX (HD hL hP) (yL hL hP)
def yP:bO:=⟨7,[.ag [.sl 37 0 5 2 .en,.sl 38 0 1 1 .en,.sl 39 0 1 7 .en],.sl 55 0 5 2 .en],[(37,[.s ⟨#[120,115]⟩,.i .i64 2,.s ⟨#[109]⟩,.i .i64 0,.s ⟨#[107]⟩,.i .i64 0,.s ⟨#[105]⟩,.i .i64 0,.s ⟨#[120,48]⟩,.i .i64 0]),(38,[.i .i64 0]),(39,[.s ⟨#[97]⟩,.ns,.sl 40 0 5 4 .en,.i .i64 2,.i .i64 4,.i .i64 0,.i .i64 0]),(40,[.i .i64 12,.i .i64 1,.sl 41 0 1 1 .en,.i .i64 0,.i .i64 0,.i .i64 2,.ns,.i .i64 1,.i .i64 3,.i .i64 3,.sl 42 0 2 1 .en,.i .i64 0,.i .i64 18,.i .i64 (-1),.sl 43 0 2 1 .en,.i .i64 0,.i .i64 26,.i .i64 4,.sl 44 0 2 1 (.ex 2),.i .i64 0]),(41,[.i .i64 0]),(42,[.i .i64 1,.i .i64 2]),(43,[.i .i64 0,.i .i64 3]),(44,[.i .i64 3,.i .i64 0]),(55,[.i .i64 0,.i .i64 64,.i .i64 0,.i .i64 64,.i .i64 1,.i .i64 1,.i .i64 (-1),.i .i64 63,.i .i64 0,.i .i64 63])],.sl 976005830 0 6 2 .en,[(976005830,[.b true,.i .i64 0,.b true,.i .i64 0,.b true,.i .i64 1,.b true,.i .i64 (-1),.b true,.i .i64 0,.b true,.i .i64 0])],976000000⟩
theorem HE (hL:aE E) (hP:b8 E):bt prog E yP:=bA (bo hL hP (yO hL hP)) (by decide +kernel)
def yQ:List bO:=yP::yN
theorem yR (hL:aE E) (hP:b8 E):∀m∈yQ,bt prog E m:=aX (HE hL hP) (yO hL hP)
def yS:bO:=⟨15,[.ag [.sl 37 0 5 2 .en,.sl 38 0 1 1 .en,.sl 39 0 1 7 .en],.sl 55 0 5 2 .en],[(37,[.s ⟨#[120,115]⟩,.i .i64 2,.s ⟨#[109]⟩,.i .i64 0,.s ⟨#[107]⟩,.i .i64 0,.s ⟨#[105]⟩,.i .i64 0,.s ⟨#[120,48]⟩,.i .i64 0]),(38,[.i .i64 0]),(39,[.s ⟨#[97]⟩,.ns,.sl 40 0 5 4 .en,.i .i64 2,.i .i64 4,.i .i64 0,.i .i64 0]),(40,[.i .i64 12,.i .i64 1,.sl 41 0 1 1 .en,.i .i64 0,.i .i64 0,.i .i64 2,.ns,.i .i64 1,.i .i64 3,.i .i64 3,.sl 42 0 2 1 .en,.i .i64 0,.i .i64 18,.i .i64 (-1),.sl 43 0 2 1 .en,.i .i64 0,.i .i64 26,.i .i64 4,.sl 44 0 2 1 (.ex 2),.i .i64 0]),(41,[.i .i64 0]),(42,[.i .i64 1,.i .i64 2]),(43,[.i .i64 0,.i .i64 3]),(44,[.i .i64 3,.i .i64 0]),(55,[.i .i64 0,.i .i64 64,.i .i64 0,.i .i64 64,.i .i64 1,.i .i64 1,.i .i64 (-1),.i .i64 63,.i .i64 0,.i .i64 63])],.sl 1972001819 0 10 3 .en,[(1972001819,[.i .i64 5,.i .i64 0,.i .i64 64,.i .i64 0,.i .i64 1,.i .i64 0,.i .i64 5,.i .i64 1,.i .i64 64,.i .i64 5,.i .i64 2,.i .i64 1,.i .i64 5,.i .i64 2,.i .i64 1,.i .i64 1,.i .i64 3,.i .i64 (-1),.i .i64 5,.i .i64 3,.i .i64 63,.i .i64 3,.i .i64 4,.i .i64 0,.i .i64 0,.i .i64 4,.i .i64 (-1),.i .i64 5,.i .i64 4,.i .i64 63])],1972000000⟩
theorem HF (hL:aE E) (hP:b8 E):bt prog E yS:=bA (bo hL hP (yR hL hP)) (by decide +kernel)
def yT:List bO:=yS::yQ
theorem yU (hL:aE E) (hP:b8 E):∀m∈yT,bt prog E m:=aX (HF hL hP) (yR hL hP)
def yV:bO:=⟨6,[.ag [.sl 37 0 5 2 .en,.sl 38 0 1 1 .en,.sl 39 0 1 7 .en],.sl 55 0 5 2 .en,.i .i64 5],[(37,[.s ⟨#[120,115]⟩,.i .i64 2,.s ⟨#[109]⟩,.i .i64 0,.s ⟨#[107]⟩,.i .i64 0,.s ⟨#[105]⟩,.i .i64 0,.s ⟨#[120,48]⟩,.i .i64 0]),(38,[.i .i64 0]),(39,[.s ⟨#[97]⟩,.ns,.sl 40 0 5 4 .en,.i .i64 2,.i .i64 4,.i .i64 0,.i .i64 0]),(40,[.i .i64 12,.i .i64 1,.sl 41 0 1 1 .en,.i .i64 0,.i .i64 0,.i .i64 2,.ns,.i .i64 1,.i .i64 3,.i .i64 3,.sl 42 0 2 1 .en,.i .i64 0,.i .i64 18,.i .i64 (-1),.sl 43 0 2 1 .en,.i .i64 0,.i .i64 26,.i .i64 4,.sl 44 0 2 1 (.ex 2),.i .i64 0]),(41,[.i .i64 0]),(42,[.i .i64 1,.i .i64 2]),(43,[.i .i64 0,.i .i64 3]),(44,[.i .i64 3,.i .i64 0]),(55,[.i .i64 0,.i .i64 64,.i .i64 0,.i .i64 64,.i .i64 1,.i .i64 1,.i .i64 (-1),.i .i64 63,.i .i64 0,.i .i64 63])],.sl 973005864 0 6 2 .en,[(973005864,[.b true,.i .i64 64,.b true,.i .i64 64,.b true,.i .i64 1,.b true,.i .i64 63,.b true,.i .i64 63,.b true,.i .i64 0])],973000000⟩
theorem HG (hL:aE E) (hP:b8 E):bt prog E yV:=bA (bo hL hP (yU hL hP)) (by decide +kernel)
def yW:List bO:=yV::yT
theorem yX (hL:aE E) (hP:b8 E):∀m∈yW,bt prog E m:=aX (HG hL hP) (yU hL hP)
def yY:bO:=⟨6,[.ag [.sl 37 0 5 2 .en,.sl 38 0 1 1 .en,.sl 39 0 1 7 .en],.sl 55 0 5 2 .en,.i .i64 0],[(37,[.s ⟨#[120,115]⟩,.i .i64 2,.s ⟨#[109]⟩,.i .i64 0,.s ⟨#[107]⟩,.i .i64 0,.s ⟨#[105]⟩,.i .i64 0,.s ⟨#[120,48]⟩,.i .i64 0]),(38,[.i .i64 0]),(39,[.s ⟨#[97]⟩,.ns,.sl 40 0 5 4 .en,.i .i64 2,.i .i64 4,.i .i64 0,.i .i64 0]),(40,[.i .i64 12,.i .i64 1,.sl 41 0 1 1 .en,.i .i64 0,.i .i64 0,.i .i64 2,.ns,.i .i64 1,.i .i64 3,.i .i64 3,.sl 42 0 2 1 .en,.i .i64 0,.i .i64 18,.i .i64 (-1),.sl 43 0 2 1 .en,.i .i64 0,.i .i64 26,.i .i64 4,.sl 44 0 2 1 (.ex 2),.i .i64 0]),(41,[.i .i64 0]),(42,[.i .i64 1,.i .i64 2]),(43,[.i .i64 0,.i .i64 3]),(44,[.i .i64 3,.i .i64 0]),(55,[.i .i64 0,.i .i64 64,.i .i64 0,.i .i64 64,.i .i64 1,.i .i64 1,.i .i64 (-1),.i .i64 63,.i .i64 0,.i .i64 63])],.sl 971007346 0 6 2 .en,[(971007346,[.b true,.i .i64 0,.b true,.i .i64 0,.b true,.i .i64 1,.b true,.i .i64 (-1),.b true,.i .i64 (-1),.b true,.i .i64 0])],971000000⟩
theorem HH (hL:aE E) (hP:b8 E):bt prog E yY:=bA (bo hL hP (yX hL hP)) (by decide +kernel)
def HI:List bO:=yY::yW
theorem HJ (hL:aE E) (hP:b8 E):∀m∈HI,bt prog E m:=aX (HH hL hP) (yX hL hP)
theorem vw (hL:aE E) (hP:b8 E):aJ prog E 4 [] (.bool true):=
 xv Hn (Ba (Cr (uk hL hP)) (vt (HJ hL hP))) (fuel:=600) (d:=60) (by decide +kernel)
end
end Go.Proofs.YtbanfokidalbaaaGreatDoor
