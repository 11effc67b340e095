/- Numbers of three digits as texts, whatever the table of powers holds: texts of two or three letters. -/
import Derived.Test.YtjpnhkmfhlnpcaaGreatDoorJo
import Derived.Shelf.Strconv.Itoa1
import Derived.Shelf.Vars
import Derived.Test.YtjpnhkmfhlnpcaaGreatDoorJc
import Derived.Test.YtjpnhkmfhlnpcaaGreatDoorJd
set_option linter.unusedVariables false
set_option linter.unusedSimpArgs false
set_option linter.unusedSectionVars false
namespace Go.Proofs.YtjpnhkmfhlnpcaaGreatDoor
section
open Go.Proofs.Tryz
open Go.Proofs
structure ES where
 G:Tr EV
 H:Hp
 nx:Nat
inductive Ex where
 |nrm
 |ret
 |exit (i:Nat)
def Ex.to:Ex→Exit
 |.nrm=>.normal
 |.ret=>.ret
 |.exit i=>.exit i
noncomputable def ov (f:ES→Option (Ex × ES)):Nat→ES→Option (Ex × ES)
 |0,_=>none
 |n+1,s=>match f s with
  |some (.nrm,s')=>ov f n s'
  |r=>r
noncomputable def dP (T:TT) (call:bK) (fuel:Nat):Code→ES→Option (Ex × ES)
 |.skip,s=>some (.nrm,s)
 |.ret,s=>some (.ret,s)
 |.exit i,s=>some (.exit i,s)
 |.seq a b,s=>match dP T call fuel a s with
  |some (.nrm,s')=>dP T call fuel b s'
  |r=>r
 |.cond c a b,s=>match bL (gt s.G) c with
  |some (.b t)=>bif t then dP T call fuel a s else dP T call fuel b s
  |_=>none
 |.block id c,s=>match dP T call fuel c s with
  |some (.exit i,s')=>bif Nat.beq i id then some (.nrm,s') else some (.exit i,s')
  |r=>r
 |.loop c,s=>ov (dP T call fuel c) fuel s
 |.region _ ops d,s=>match (bif d then ou T call ops.toList s.G s.H s.nx else pW T call ops.toList ops.toList s.G s.H s.nx) with
  |some (G,H,nx)=>some (.nrm,⟨G,H,nx⟩)
  |none=>none
 |_,_=>none
def dQ (n:Nat):Code→Bool
 |.skip | .ret | .exit _=>true
 |.seq a b=>dQ n a&&dQ n b
 |.cond _ a b=>dQ n a&&dQ n b
 |.block _ c=>dQ n c
 |.loop c=>dQ n c
 |.region _ ops _=>ei n ops.toList
 |_=>false
section
variable {P:Program} {T:TT} {call:bK} {F:List (Nat × Obj)} {E:World} {n:Nat}
theorem w4 (hm:P.follows .mixedOrders=true) (hT:cu P T) (hC:cE P E call) (fuel:Nat):∀(c:Code) (s s':ES) (ex:Ex),dQ n c=true→dP T call fuel c s=some (ex,s') →
  ∀(φ:bY) (I:aI) (ρ:bD) (w:World) (Q:Exit→bD→World→Prop),dI φ (gt s.G) ρ→cJ I φ s.H s.nx F E w→(∀ρ' w',e9 φ I F E s.nx s'.G s'.H s'.nx ρ' w'→Q ex.to ρ' w')→WP P n c Q ρ w:=by
 intro c
 induction c with
 |skip=>intro s s' ex _ h φ I ρ w Q hg hR hQ;cases h;exact WP.skip (hQ _ _ ⟨I,φ,.refl _,.refl _,fun _ _=>rfl,Nat.le_refl _,hg,hR⟩)
 |ret=>intro s s' ex _ h φ I ρ w Q hg hR hQ;cases h;exact WP.ret (hQ _ _ ⟨I,φ,.refl _,.refl _,fun _ _=>rfl,Nat.le_refl _,hg,hR⟩)
 |exit i=>intro s s' ex _ h φ I ρ w Q hg hR hQ;cases h;exact WP.exit (hQ _ _ ⟨I,φ,.refl _,.refl _,fun _ _=>rfl,Nat.le_refl _,hg,hR⟩)
 |seq a b iha ihb=>
  intro s s' ex ho h φ I ρ w Q hg hR hQ
  simp only[dQ,qg] at ho
  simp only[dP] at h
  refine WP.seq ?_
  split at h
  ·rename_i s1 h1
   refine iha s s1 .nrm ho.1 h1 φ I ρ w _ hg hR fun ρ' w' ⟨J,ψ,a,b,c,d,e,f⟩=>?_
   exact ihb s1 s' ex ho.2 h ψ J ρ' w' Q e f fun ρ2 w2 hp=>hQ _ _ (e9.up a b c d hp)
  ·rename_i hne
   refine iha s s' ex ho.1 h φ I ρ w _ hg hR fun ρ' w' hp=>?_
   cases ex with
   |nrm=>exact absurd h (hne s')
   |ret=>exact hQ _ _ hp
   |exit i=>exact hQ _ _ hp
 |cond c a b iha ihb=>
  intro s s' ex ho h φ I ρ w Q hg hR hQ
  simp only[dQ,qg] at ho
  simp only[dP] at h
  split at h
  ·rename_i t ht
   have hc:ev ρ c=.bool t:=aJ hg ht
   refine WP.cond hc ?_
   cases t with
   |true=>rw[if_pos rfl];exact iha s s' ex ho.1 h φ I ρ w Q hg hR hQ
   |false=>rw[if_neg (by decide)];exact ihb s s' ex ho.2 h φ I ρ w Q hg hR hQ
  ·cases h
 |block id c ih=>
  intro s s' ex ho h φ I ρ w Q hg hR hQ
  simp only[dQ] at ho
  simp only[dP] at h
  refine WP.block ?_
  split at h
  ·rename_i i s1 h1
   refine ih s s1 (.exit i) ho h1 φ I ρ w _ hg hR fun ρ' w' hp=>?_
   show if i=id then Q .normal ρ' w' else Q (.exit i) ρ' w'
   cases hb:Nat.beq i id with
   |true=>
    rw[hb] at h;cases h
    rw[if_pos (Nat.eq_of_beq_eq_true hb)];exact hQ _ _ hp
   |false=>
    rw[hb] at h;cases h
    rw[if_neg (fun e=>by rw[e,show Nat.beq id id=true from Nat.beq_refl id] at hb;cases hb)];exact hQ _ _ hp
  ·rename_i hne
   refine ih s s' ex ho h φ I ρ w _ hg hR fun ρ' w' hp=>?_
   cases ex with
   |nrm=>exact hQ _ _ hp
   |ret=>exact hQ _ _ hp
   |exit i=>exact absurd h (hne i s')
 |loop c ih=>
  intro s s' ex ho h φ I ρ w Q hg hR hQ
  simp only[dQ] at ho
  simp only[dP] at h
  refine WP.loop (γ:=Nat × ES) (fun g ρ' w'=>ov (dP T call fuel c) g.1 g.2=some (ex,s')∧e9 φ I F E s.nx g.2.G g.2.H g.2.nx ρ' w') (fun g=>g.1) (fuel,s) ⟨h,I,φ,.refl _,.refl _,fun _ _=>Z,Nat.le_refl _,hg,hR⟩ ?_
  rintro ⟨k,s1⟩ ρ1 w1 ⟨h1,J,ψ,a,b,c1,d,e,f⟩
  cases k with
  |zero=>cases h1
  |succ k=>
   simp only[ov] at h1
   split at h1
   ·rename_i s2 h2
    refine ih s1 s2 .nrm ho h2 ψ J ρ1 w1 _ e f fun ρ2 w2 hp=>?_
    exact ⟨(k,s2),⟨h1,e9.up a b c1 d hp⟩,Nat.lt_succ_self k⟩
   ·rename_i hne
    refine ih s1 s' ex ho h1 ψ J ρ1 w1 _ e f fun ρ2 w2 hp=>?_
    cases ex with
    |nrm=>exact absurd h1 (hne s')
    |ret=>exact hQ _ _ (e9.up a b c1 d hp)
    |exit i=>exact hQ _ _ (e9.up a b c1 d hp)
 |region id ops dr=>
  intro s s' ex ho h φ I ρ w Q hg hR hQ
  simp only[dQ] at ho
  simp only[dP] at h
  have eo:ops=ops.toList.toArray:=by simp
  split at h
  ·rename_i G H nx hr
   cases h
   rw[eo]
   cases dr with
   |false=>
    simp only[cond_false] at hr
    exact WP.region ho (yt (fun ρ' w' hp=>hQ ρ' w' hp) _ _ _ (mz hT hC _ _ _ _ _ _ _ hr φ I ρ w hg hR))
   |true=>
    simp only[cond_true] at hr
    exact WP.regionDraw (fun _=>True) (fun _=>True) (fun _=>false) hm ho fun w' hw=>by
     subst hw
     exact rE hT hC hr hg hR.drew fun ρ' w' hp=>hQ ρ' w' hp
  ·cases h
 |_=>intro s s' ex ho;cases ho
noncomputable def jM:List EV→Nat→Tr EV→Tr EV
 |[],_,G=>G
 |x::l,i,G=>jM l (i+1) (G.set i (some x))
noncomputable def mG (T:TT) (G:Tr EV) (H:Hp):List ResultVar→Option (List EV)
 |[]=>some []
 |.tmp t::r=>match mG T G H r with
  |some l=>some (gt G t::l)
  |none=>none
 |.cell a t::r=>match gt G a,mG T G H r with
  |.p b off,some l=>match mq T H t b off with
   |some x=>some (x::l)
   |none=>none
  |_,_=>none
def EO:List EV→EV
 |[x]=>x
 |l=>.tu l
inductive NR where
 |v (x:EV)
 |ss (l:List ByteArray)
abbrev rF:=Nat→List EV→Option NR
def rG (s:String):Bool:=!(s == "runtime.NumGoroutine")
noncomputable def w5 (P:Program) (T:TT) (C:bK) (fuel:Nat):Nat→bK
 |0=>fun _ _ _ _=>none
 |d+1=>fun f ar H nx=>match C f ar H nx with
  |some r=>some r
  |none=>match P.funcs[f]? with
   |some fn=>match fn.body with
    |some c=>bif Nat.ble ar.length fn.ntmps&&dQ fn.ntmps c&&rG fn.name then
      match dP T (w5 P T C fuel d) fuel c ⟨jM ar 0 .lf,H,nx⟩ with
      |some (.exit _,_)=>none
      |some (_,s)=>match mG T s.G s.H fn.results.toList with
       |some l=>some (EO l,s.H,s.nx)
       |none=>none
      |none=>none
     else none
    |none=>none
   |none=>none
noncomputable def BD (N:rF):bK:=fun f ar H nx=>match N f ar with
 |some (.v x)=>some (x,H,nx)
 |some (.ss l)=>bif l.isEmpty then none else some (.sl nx 0 l.length 1 .un,H.set nx (some (.kn (l.map EV.s))),nx+1)
 |none=>none
noncomputable def EP (C D:bK):bK:=fun f ar H nx=>match C f ar H nx with
 |some r=>some r
 |none=>D f ar H nx
theorem mH {P:Program} {E:World} {C D:bK} (hC:cE P E C) (hD:cE P E D):cE P E (EP C D):=fun f ar H nx x H' nx' h=>by
 unfold EP at h
 split at h
 ·rename_i r hr
  cases h
  exact hC _ _ _ _ _ _ _ hr
 ·exact hD _ _ _ _ _ _ _ h
def p7 (P:Program) (E:World) (N:rF):Prop:=
 (∀f ar x,N f ar=some (.v x)→∃as' r,aT P E f as' r∧(∀φ vs,RelVs φ ar vs→∀I:G,RepL I as' vs)∧∀(I:G) v,bH I r v→∀φ,aQ φ x v) ∧
 ∀f ar l,N f ar=some (.ss l)→∃as',aT P E f as' (.fro 1 (l.map fun s=>[AV.str s]))∧∀φ vs,RelVs φ ar vs→∀I:G,RepL I as' vs
theorem kH:∀(l:List EV) (i:Nat) (G:Tr EV) (t:Nat),gt (jM l i G) t=if i≤t∧t<i+l.length then (l[t - i]?).getD .u else gt G t
 |[],i,G,t=>by rw[if_neg (by simp<;>omega)];rfl
 |x::l,i,G,t=>by
  unfold jM
  rw[kH l (i+1) (G.set i (some x)) t]
  by_cases h:i+1≤t∧t<i+1+l.length
  ·rw[if_pos h,if_pos (by simp only[List.length_cons];omega),show t - i=(t - (i+1))+1 by omega,List.getElem?_cons_succ]
  ·rw[if_neg h]
   unfold gt
   rw[Tr.get_set]
   by_cases e:t=i
   ·rw[if_pos e,if_pos (by simp only[List.length_cons];omega),e,Nat.sub_self];rfl
   ·rw[if_neg e,if_neg (by simp only[List.length_cons];omega)]
theorem zB {φ:bY} {ar:List EV} {vs:List Value} (h:RelVs φ ar vs):dI φ (gt (jM ar 0 .lf)) (qm vs.toArray):=by
 intro t
 rw[kH]
 by_cases ht:t<ar.length
 ·rw[if_pos (by omega),Nat.sub_zero,q2 ht]
  obtain ⟨v,hv,hr⟩:=h.get (q2 ht)
  have:qm vs.toArray t=v:=by unfold qm;simp[hv]
  rw[this];exact hr
 ·rw[if_neg (by omega)]
  unfold gt
  rw[Tr.get_lf];trivial
theorem mI {φ:bY} {I:aI} {H:Hp} {nx:Nat} {w:World} {G:Tr EV} {ρ:bD} (hT:cu P T) (hg:dI φ (gt G) ρ) (hR:cJ I φ H nx F E w):∀(rs:List ResultVar) (l:List EV),mG T G H rs=some l →
  ∃vs,RelVs φ l vs∧(rs.mapM (m:=Sem) fun x=>match x with
   |.tmp t=>Pure.pure (ρ t)
   |.cell a t=>do loadVar t (←asAddr (ρ a))).run P w=.ok vs w
 |[],l,h=>by cases h;exact ⟨[],rfl,rfl⟩
 |.tmp t::r,l,h=>by
  unfold mG at h
  split at h
  ·rename_i l' hl
   cases h
   obtain ⟨vs,h1,h2⟩:=mI hT hg hR r l' hl
   refine ⟨ρ t::vs,⟨_,_,Z,hg t,h1⟩,?_⟩
   rw[List.mapM_cons]
   simp only[Sem.run_bind,Sem.run_pure,Result.andThen_ok,h2]
  ·cases h
 |.cell a t::r,l,h=>by
  unfold mG at h
  split at h
  ·rename_i b off l' hp hl
   split at h
   ·rename_i x hx
    cases h
    obtain ⟨vs,h1,h2⟩:=mI hT hg hR r l' hl
    have ha:=hg a
    rw[hp] at ha
    obtain ⟨v,h3,h4⟩:=nB hT hR hx ha
    obtain ⟨q,hq,he⟩:=ha
    refine ⟨v::vs,⟨_,_,Z,h4,h1⟩,?_⟩
    have h5:(loadVar t ⟨q.r,q.sh+off,none⟩).run P w=.ok v w:=by
     rw[he] at h3
     simpa [Instr.loadAt,Instr.sureAddr] using h3
    have h6:(asAddr (ρ a)).run P w=.ok ⟨q.r,q.sh+off,none⟩ w:=by rw[he];rfl
    rw[List.mapM_cons]
    simp only[Sem.run_bind,h6,Sem.run_pure,Result.andThen_ok,h5,h2]
   ·cases h
  ·cases h
theorem BE {N:rF} (hN:p7 P E N) {f:Nat} {ar:List EV} {x:EV} (h:N f ar=some (.v x)) {φ:bY} {I:aI} {H:Hp} {nx:Nat} {w:World} {vs:List Value} (hR:cJ I φ H nx F E w) (hr:RelVs φ ar vs):Fn P f vs.toArray w (dl φ I F E nx nx x H nx):=by
 obtain ⟨as',r,hA,h1,h2⟩:=hN.1 f ar x h
 obtain ⟨M,L,hn,hm,hrep,hS⟩:=hR.ex
 refine (hA ⟨I,fun _=>none⟩ (L++F) w vs (h1 φ vs hr _) ⟨⟨0,fun _ _=>Z⟩,[],Z,hS⟩).mono fun v w' ⟨J,y,O',hJ,hy,⟨_,L',hL',hS'⟩,he⟩=>?_
 subst he
 exact ⟨J.k,φ,hJ.1,.refl _,fun _ _ _=>rfl,Nat.le_refl _,h2 J v hy φ,hR.top,M,L,hn,hm,hrep.mono hJ.1 (.refl _),hS'.dropAll⟩
theorem zC {N:rF} (hN:p7 P E N) {f:Nat} {ar:List EV} {l:List ByteArray} (h:N f ar=some (.ss l)) (hl:l.isEmpty=false) {φ:bY} {I:aI} {H:Hp} {nx:Nat} {w:World} {vs:List Value} (hR:cJ I φ H nx F E w) (hr:RelVs φ ar vs) :
  Fn P f vs.toArray w (dl φ I F E nx nx (.sl nx 0 l.length 1 .un) (H.set nx (some (.kn (l.map EV.s)))) (nx+1)):=by
 obtain ⟨as',hA,h1⟩:=hN.2 f ar l h
 obtain ⟨L,hrest,hS⟩:=(hR.mono (Nat.le_succ nx)).freshN (hR.top nx (Nat.le_refl _))
 refine (hA ⟨I,fun _=>none⟩ (L++F) w vs (h1 φ vs hr _) ⟨⟨0,fun _ _=>Z⟩,[],Z,hS⟩).mono fun v w' ⟨J,y,O',hJ,hy,⟨_,L',hL',hS'⟩,he⟩=>?_
 subst he
 obtain ⟨a,n,cap,rfl,hn,hcap,_,hrr⟩:=hy
 rw[q9] at hn
 subst hn
 obtain ⟨s0,l0,rfl⟩:∃s0 l0,l=s0::l0:=by
  cases l with
  |nil=>cases hl
  |cons s0 l0=>exact ⟨s0,l0,rfl⟩
 obtain ⟨b,off,_,rfl,_⟩:=hrr.get (j:=0) (r:=[AV.str s0]) rfl
 have hk:φ nx=none:=hR.top nx (Nat.le_refl _)
 have hat:∀(j:Nat) s,(s0::l0)[j]?=some s→vG J.k b (off+j) (.string s):=fun j s hj=>by
  obtain ⟨b2,off2,us,e,_,⟨u,us2,rfl,h3,h4⟩,h5⟩:=hrr.get (j:=j) (r:=[AV.str s]) (by rw[qa,hj];rfl)
  cases e
  have h3:u=.string s:=h3
  subst h3
  have:=h5 0 _ rfl
  simpa using this
 refine ⟨J.k,φ.put nx ⟨b,off,0⟩,hJ.1,q0 hk _,fun j hj _=>iK φ _ (by omega),Nat.le_succ nx,⟨_,off,cap,ym _ _ _,rfl,hcap,fun _=>rfl,trivial⟩,
  yz (A:=[]) (hrest.mono hJ.1 (q0 hk _)) ⟨⟨b,off,0⟩,(s0::l0).map Value.string,ym _ _ _,?_,fun u hu=>?_,fun j u hj=>?_,rfl⟩ hS'.dropAll (jJ (nx:=nx+1) (fun j hj=>hR.top j (by omega)) (Nat.lt_succ_self nx) _)⟩
 ·clear hat hrr hl h hS' hS hrest hr
  generalize s0::l0=m
  induction m with
  |nil=>rfl
  |cons x m ih=>exact ⟨_,_,rfl,rfl,ih⟩
 ·obtain ⟨s,_,rfl⟩:=List.mem_map.1 hu;rfl
 ·rw[qa] at hj
  obtain ⟨s,hs,rfl⟩:=Option.map_eq_some_iff.1 hj
  exact hat j s hs
theorem ow {N:rF} (hN:p7 P E N):cE P E (BD N):=fun f ar H nx x H' nx' h φ I F w vs hR hr=>by
 unfold BD at h
 split at h
 ·rename_i y hy
  cases h
  exact BE hN hy hR hr
 ·rename_i l hy
  cases hl:l.isEmpty with
  |true=>rw[hl] at h;cases h
  |false=>
   rw[hl] at h;cases h
   exact zC hN hy hl hR hr
 ·cases h
theorem lp (hm:P.follows .mixedOrders=true) (hT:cu P T) {C:bK} (hC:cE P E C) (fuel:Nat):∀d,cE P E (w5 P T C fuel d)
 |0=>fun f ar H nx x H' nx' h=>by cases h
 |d+1=>fun f ar H nx x H' nx' h φ I F w vs hR hr=>by
  unfold w5 at h
  split at h
  ·rename_i r hy
   cases h
   exact hC _ _ _ _ _ _ _ hy φ I F w vs hR hr
  ·split at h
   ·rename_i fn h1
    split at h
    ·rename_i cd h2
     cases hb:(Nat.ble ar.length fn.ntmps&&dQ fn.ntmps cd&&rG fn.name) with
     |false=>rw[hb] at h;cases h
     |true=>
      rw[hb] at h
      simp only[cond_true] at h
      simp only[qg] at hb
      have h3:fn.name≠"runtime.NumGoroutine" := fun e=>by
       have:=hb.2
       unfold rG at this
       rw[e] at this
       simp at this
      refine Fn.intro h1 h2 h3 (by rw[List.size_toArray,hr.length];exact hb.1.1) ?_
      have fin:∀(s:ES),(match mG T s.G s.H fn.results.toList with
        |some l=>some (EO l,s.H,s.nx)
        |none=>none)=some (x,H',nx')→∀ρ' w',e9 φ I F E nx s.G s.H s.nx ρ' w'→∃v,lr fn.results ρ' P w'=.ok v w'∧dl φ I F E nx nx x H' nx' v w':=fun s hs ρ' w' ⟨J,ψ,a,b,c,d',e',f'⟩=>by
       split at hs
       ·rename_i l hl
        cases hs
        obtain ⟨us,g1,g2⟩:=mI hT e' f' fn.results.toList l hl
        have g3:(fn.results.mapM (m:=Sem) fun x=>match x with
          |.tmp t=>Pure.pure (ρ' t)
          |.cell a t=>do loadVar t (←asAddr (ρ' a))).run P w'=.ok us.toArray w':=by
         rw[Array.mapM_eq_mapM_toList,Sem.run_map]
         rw[g2];rfl
        refine ⟨if h:us.toArray.size=1 then us.toArray[0] else Value.tuple us.toArray,?_,J,ψ,a,b,fun j hj _=>c j hj,d',?_,f'⟩
        ·unfold lr
         rw[Sem.run_bind]
         exact (congrArg (fun r=>Result.andThen r _) g3).trans rfl
        ·cases us with
         |nil=>
          have:l=[]:=by have:=g1.length;simpa using this.symm
          subst this
          exact ⟨[],rfl,rfl⟩
         |cons u us=>
          cases us with
          |nil=>
           obtain ⟨y,rfl⟩:∃y,l=[y]:=by
            have:=g1.length
            match l,this with
            |[y],_=>exact ⟨y,rfl⟩
           exact g1.r1
          |cons u2 us=>
           have hl2:=g1.length
           match l,hl2,g1 with
           |x1::x2::l',_,g1=>exact ⟨u::u2::us,by simp,g1⟩
       ·cases hs
      split at h
      ·cases h
      ·rename_i ex s hne hc
       refine w4 hm hT (lp hm hT hC fuel d) fuel cd _ s ex hb.1.2 hc φ I _ w _ (zB hr) hR fun ρ' w' hp=>?_
       have:=fin s h ρ' w' hp
       cases ex with
       |nrm=>exact this
       |ret=>exact this
       |exit i=>exact (hne i rfl).elim
      ·cases h
    ·cases h
   ·cases h
def BF:TypeDesc→Bool
 |.struct fs=>fs.toList.all fun f=>!(f.name == "_")
 |_=>true
def CQ:TypeDesc→Bool
 |.pointer _=>false
 |_=>true
def DB (d:TypeDesc) (ms:Array Method) (nm:String):Option Nat:=
 match ms.find? (·.name == nm) with
 |some m=>match m.func with
  |some (f,false)=>bif m.path.isEmpty&&CQ d then some f else none
  |_=>none
 |none=>none
def DC (ms:Array Method) (want:Array (String × TypeId)):Bool:=want.toList.all fun n=>ms.any fun m=>m.name == n.1&&m.sig == n.2
theorem BG (ms:Array Method) (want:Array (String × TypeId)):(Instr.missingMethod want ms).isNone=DC ms want:=by
 unfold Instr.missingMethod DC
 dsimp only
 cases hm:(want.toList.filter fun n=>!ms.any fun m=>m.name == n.1&&m.sig == n.2) with
 |nil=>
  have h:(want.toList.all fun n=>ms.any fun m=>m.name == n.1&&m.sig == n.2)=true:=by
   rw[List.all_eq_true]
   intro x hx
   have:=List.filter_eq_nil_iff.1 hm x hx
   simpa using this
  rw[h]
  rfl
 |cons x l=>
  have h:(want.toList.all fun n=>ms.any fun m=>m.name == n.1&&m.sig == n.2)=false:=by
   have hx:x∈want.toList.filter fun n=>!ms.any fun m=>m.name == n.1&&m.sig == n.2:=by rw[hm];exact .head _
   rw[List.mem_filter] at hx
   rw[List.all_eq_false]
   exact ⟨x,hx.1,by simpa using hx.2⟩
  rw[h]
  have hl:∀(l:List String),l≠[]→∃s,Instr.least l=some s:=fun l hl=>by
   cases l with
   |nil=>exact (hl rfl).elim
   |cons a l=>exact ⟨_,rfl⟩
  simp only[List.partition_eq_filter_filter]
  cases hc:x.1.contains '.' with
  |true=>
   obtain ⟨s,hs⟩:=hl ((List.filter (fun s:String=>s.contains '.') ((x::l).map (·.1))).map fun id=>(id.splitOn ".").getLastD id) (by
    intro q
    have q:=List.map_eq_nil_iff.1 q
    have:=List.filter_eq_nil_iff.1 q x.1 (by simp)
    exact this hc)
   rw[hs]
   cases Instr.least (List.filter (not∘fun s:String=>s.contains '.') ((x::l).map (·.1)))<;>rfl
  |false=>
   obtain ⟨s,hs⟩:=hl (List.filter (not∘fun s:String=>s.contains '.') ((x::l).map (·.1))) (by
    intro q
    have:=List.filter_eq_nil_iff.1 q x.1 (by simp)
    exact this (by simp only[Function.comp,hc];rfl))
   rw[hs]
   rfl
def zD (P:Program) (t:Nat):Option TI:=
 match P.underlying t,P.info? t with
 |some d,some f=>match f.zero with
  |some zv=>match mL (wK 5) zv.cells.toList,wK 6 zv with
   |some z,some v=>bif z.all EV.cell&&Nat.beq z.length f.size then some ⟨d,f.size,f.bytes,z,v,!(P.eqGuardType P.depth t),!(P.stoodInHeld t)&&BF d,DB d f.methods,DC f.methods⟩ else none
   |_,_=>none
  |none=>none
 |_,_=>none
theorem ox:cu P (zD P):=fun t i h=>by
 unfold zD at h
 split at h
 ·rename_i d f hd hf
  split at h
  ·rename_i zv hz
   split at h
   ·rename_i z v h1 h2
    cases hb:(z.all EV.cell&&Nat.beq z.length f.size) with
    |false=>rw[hb] at h;cases h
    |true=>
     rw[hb] at h;cases h
     simp only[qg] at hb
     refine ⟨hd,⟨f,zv,hf,rfl,rfl,hz,fun φ=>by simpa using gT (φ:=φ) (g:=id) (lj 5) zv.cells.toList z h1,fun φ=>lj 6 zv v h2⟩,hb.1,Nat.eq_of_beq_eq_true hb.2,(fun h=>by simpa using h),fun h=>by
      simp only[qg] at h
      refine ⟨by simpa using h.1,fun fs e f hf=>?_⟩
      have h2:=h.2
      dsimp only at e
      subst e
      have h3:=List.all_eq_true.1 h2 f hf
      simpa using h3,fun nm g hg k x w=>?_,⟨f,hf,fun want=>BG _ _⟩⟩
     have hg:DB d f.methods nm=some g:=hg
     unfold DB at hg
     split at hg
     ·rename_i m hm
      split at hg
      ·rename_i g' hfn
       cases hbb:(m.path.isEmpty&&CQ d) with
       |false=>rw[hbb] at hg;cases hg
       |true=>
        rw[hbb] at hg;cases hg
        simp only[qg] at hbb
        have hp:m.path.toList=[]:=by have:=hbb.1;simpa using this
        have hu:∀w,(underlying t).run P w=.ok d w:=fun w=>run_underlying hd w
        have hpr:∀w,(program:Sem Program).run P w=.ok P w:=fun _=>rfl
        have hti:∀w,(typeInfo t).run P w=.ok f w:=fun w=>by
         simp only[typeInfo,Sem.run_bind,hpr,Result.andThen_ok,hf]
         rfl
        have h2:=hbb.2
        simp only[method,Sem.run_bind,hti,Result.andThen_ok,hm,hp,follow,Sem.run_pure,hfn,receiverAt,hu]
        cases d<;>first|(cases h2;done)|rfl
      ·cases hg
     ·cases hg
   ·cases h
  ·cases h
 ·cases h
theorem p8 (hm:P.follows .mixedOrders=true) {C:bK} (hC:cE P E C) {fuel d f:Nat} (h:(match w5 P (zD P) C fuel d f [] .lf 0 with
  |some (.b true,_,_)=>true
  |_=>false)=true):aT P E f [] (.bool true):=fun I F w vs h1 h2=>by
 split at h
 ·rename_i H' nx' hx
  have h1:vs=[]:=h1
  subst h1
  obtain ⟨ht,L,hL,hS⟩:=h2
  have hL:L=[]:=hL
  subst hL
  have hR:cJ I.k (fun _=>none) .lf 0 F E w:=⟨fun _ _=>rfl,[],[],List.nodup_nil,fun j o=>by simp[Tr.get_lf],rfl,hS⟩
  refine (lp hm ox hC fuel d f [] .lf 0 _ _ _ hx _ I.k F w [] hR Z).mono fun v w' ⟨J,ψ,a,b,c,d',e',f'⟩=>?_
  exact ⟨⟨J,I.h⟩,.bool true,[],⟨a,fun _ _ h=>h⟩,e',⟨ht,[],rfl,f'.sl⟩,rfl⟩
 ·cases h
end
end
section
open Go.Proofs.Tryz
open Go.Proofs Go.Lib Go.Shelf
theorem zE {P:Program} {w:World} {g:Nat} {t u:TypeId} {zero:Array Value} {k:IntKind} {ts:List TypeId} {i:Nat}
  (h:w.ShapedOpen P) (hg:g<P.globals.size)
  (h0:((begin P (fun _ _=>0) default).world.heap[g]?).bind Obj.row?=some (zero,t))
  (hb:P.buildable t=true) (hc:P.cellTypes P.depth t=some ts) (hi:i<zero.size) (ht:ts[i % ts.length]?=some u) (hu:P.underlying u=some (.int k)) :
  ∃m,w.cell? ⟨g,i,none⟩=some (.int k m):=by
 obtain ⟨cs,hh,hs,hr⟩:=h.1 g zero t hg h0
 obtain ⟨ts',hts,_,hall⟩:=hr hb
 rw[hc] at hts
 cases hts
 have h1:i<cs.size:=by omega
 obtain ⟨u',hu',hok⟩:=hall i cs[i] (by simp[h1])
 have:u'=u:=by rw[ht] at hu';exact (Option.some.inj hu').symm
 subst this
 have hcell:w.cell? ⟨g,i,none⟩=some cs[i]:=by simp[World.cell?,hh,h1]
 rw[hcell]
 unfold Cell.ok at hok
 rw[hu] at hok
 cases hv:cs[i]<;>rw[hv] at hok<;>simp at hok
 case int k' n=>exact ⟨n,by rw[hok.1]⟩
theorem three:∀u:Nat,u<512→100≤u→Lib.l10 (Lib.bitLen u)=2∧Lib.bitLen u≤64:=by decide +kernel
set_option maxHeartbeats 2000000 in
set_option maxRecDepth 100000 in
theorem BH {P:Program} {ρ:Ren} (L:LaysM.n284 P ρ) (u:Nat) (h1:100≤u) (h2:u<512) (w:World) (m:Int)
  (hcell:w.cell? ⟨(ρ.g 17),2,none⟩=some (.int .u64 m)) :
  Calls P (ρ.f 284) #[.int .u64 u] w fun e w'=>e=.returned (.int .i64 (2+if m≤(u:Int) then 1 else 0))∧w'=w:=by
 have mixed:=L.mixed
 have t53:=L.t53;have a53:=L.a53;have z53:=L.z53;have v53:=L.v53
 have t3:=L.t3;have a3:=L.a3;have z3:=L.z3;have v3:=L.v3
 have t212:=L.t212;have a212:=L.a212;have z212:=L.z212;have v212:=L.v212
 have t0:=L.t0;have a0:=L.a0;have z0:=L.z0;have v0:=L.v0
 have t4:=L.t4;have a4:=L.a4;have z4:=L.z4;have v4:=L.v4
 have e129:∀args w,(callFunc (ρ.f 129) args).run P w=.ok (.enter (ρ.f 129) args) w:=enters_of L.f129 (by kernel_rfl) rfl
 have e317:∀args w,(callFunc (ρ.f 317) args).run P w=.ok (.enter (ρ.f 317) args) w:=enters_of L.f317 (by kernel_rfl) rfl
 have e318:∀args w,(callFunc (ρ.f 318) args).run P w=.ok (.enter (ρ.f 318) args) w:=enters_of L.f318 (by kernel_rfl) rfl
 have hg:=L.m17
 obtain ⟨hq,hL⟩:=three u h2 h1
 have hto:((u:Int)).toNat=u:=by omega
 generalize hq':Lib.l10 (Lib.bitLen u)=q at hq
 subst hq
 have h20:(2:Nat)<20:=by omega
 go_enter L.f284,Body.n284_ntmps ρ
 go_wp2_with (first
  |(go_at_fn (ρ.f 129);refine (Any.bits_Len64 { L with } _ _ (by omega) (by omega)).mono ?_;rintro e w' ⟨rfl,rfl⟩)
  |(go_at_fn (ρ.f 317);refine (Any.internal_strconv_log10Pow2 { L with } _ (by first|exact hL|(rw[hto];exact hL)) _).mono ?_;rintro e w' ⟨rfl,rfl⟩)
  |(go_at_fn (ρ.f 318);refine (Any.internal_strconv_bool2_int { L with } _ _).mono ?_;rintro e w' ⟨rfl,rfl⟩))
 all_goals go_ret
 all_goals (
  refine ⟨?_,Z⟩
  first
   |rfl
   |(congr 2;split<;>simp_all<;>omega)
   |(congr 2;simp_all<;>omega))
end
section
open Go.Proofs.Tryz
open Go.Proofs
mutual
def EV.ren (ρ:Nat→Nat):EV→EV
 |.u=>.u
 |.b x=>.b x
 |.i kd n=>.i kd n
 |.s x=>.s x
 |.np=>.np
 |.p kb off=>.p (ρ kb) off
 |.ns=>.ns
 |.sl kb off len sz c=>.sl (ρ kb) off len sz c
 |.ag l=>.ag (EV.renL ρ l)
 |.tu l=>.tu (EV.renL ρ l)
 |.fn fi a1 c1=>.fn fi (EV.renL ρ a1) (EV.renL ρ c1)
 |.nf=>.nf
 |.ifc ty v=>.ifc ty (EV.ren ρ v)
 |.ni=>.ni
 |.m kb=>.m (ρ kb)
 |.nm=>.nm
 |.vr kb=>.vr (ρ kb)
 |.us lo hi c=>.us lo hi c
def EV.renL (ρ:Nat→Nat):List EV→List EV
 |[]=>[]
 |x::l=>EV.ren ρ x::EV.renL ρ l
end
mutual
def EV.okN (pr:Nat→Bool):EV→Bool
 |.p kb _=>pr kb
 |.sl kb _ _ _ _=>pr kb
 |.ag l=>EV.okNL pr l
 |.tu l=>EV.okNL pr l
 |.fn _ a1 c1=>EV.okNL pr a1&&EV.okNL pr c1
 |.ifc _ v=>EV.okN pr v
 |.m kb=>pr kb
 |.u=>true
 |.b _=>true
 |.i _ _=>true
 |.s _=>true
 |.np=>true
 |.ns=>true
 |.nf=>true
 |.ni=>true
 |.nm=>true
 |.vr kb=>pr kb
 |.us _ _ _=>true
def EV.okNL (pr:Nat→Bool):List EV→Bool
 |[]=>true
 |x::l=>EV.okN pr x&&EV.okNL pr l
end
section
variable {φ ψ:bY} {ρ:Nat→Nat} {p:Nat→Bool}
mutual
theorem aQ.ren (h:∀b q,p b=true→ψ b=some q→φ (ρ b)=some q):∀(x:EV) (v:Value),x.okN p=true→aQ ψ x v→aQ φ (x.ren ρ) v
 |.u,_,_,_=>trivial
 |.b _,_,_,e=>e
 |.i _ _,_,_,e=>e
 |.s _,_,_,e=>e
 |.np,_,_,e=>e
 |.p _ _,_,k,⟨q,a,e⟩=>⟨q,h _ _ k a,e⟩
 |.ns,_,_,e=>e
 |.sl _ _ _ _ _,_,k,⟨q,o,cap,a,e⟩=>⟨q,o,cap,h _ _ k a,e⟩
 |.ag l,_,k,⟨vs,e,k1⟩=>⟨vs,e,RelVs.ren h l vs k k1⟩
 |.tu l,_,k,⟨vs,e,k1⟩=>⟨vs,e,RelVs.ren h l vs k k1⟩
 |.fn _ a c,_,k,⟨vs,us,e,k1,k2⟩=>⟨vs,us,e,RelVs.ren h a vs ((qg _ _).mp k).1 k1,RelVs.ren h c us ((qg _ _).mp k).2 k2⟩
 |.nf,_,_,e=>e
 |.ifc _ x,_,k,⟨u,e,k1⟩=>⟨u,e,aQ.ren h x u k k1⟩
 |.ni,_,_,e=>e
 |.m _,_,k,⟨q,a,e⟩=>⟨q,h _ _ k a,e⟩
 |.nm,_,_,e=>e
 |.vr _,_,k,⟨q,a,e⟩=>⟨q,h _ _ k a,e⟩
 |.us _ _ _,_,_,e=>e
theorem RelVs.ren (h:∀b q,p b=true→ψ b=some q→φ (ρ b)=some q):∀(x:List EV) (v:List Value),EV.okNL p x=true→RelVs ψ x v→RelVs φ (EV.renL ρ x) v
 |[],_,_,e=>e
 |x::xs,_,k,⟨v,us,e,h1,h2⟩=>⟨v,us,e,aQ.ren h x v ((qg _ _).mp k).1 h1,RelVs.ren h xs us ((qg _ _).mp k).2 h2⟩
end
end
section
variable {I J:aI} {φ ψ:bY} {H:Hp} {nx:Nat} {F:List (Nat × Obj)} {E w:World} {k:Nat}
theorem cJ.frz1 (h:cJ I φ H nx F E w) {cs:List EV} (hk:(H.get k).bind VO.cs?=some cs):∃J,I.le J∧eX J φ k (.kn cs) []∧cJ J φ (H.set k (some (.kn cs))) nx F E w:=by
 obtain ⟨o,ho,hc⟩:=Option.bind_eq_some_iff.1 hk
 obtain ⟨A,L,hb,hr,hS⟩:=h.pick ho
 cases o with
 |cells ex cs'=>
  cases hc
  obtain ⟨q,T,vs,junk,h1,h2,h3,h4,h5,h6,rfl⟩:=hb
  obtain ⟨J,j1,j2,j3⟩:=SL.freezeAllN hS
  have hj:=j3 (q.r,.cells (vs++junk).toArray T (0,0)) (.head _)
  have hB:eX J φ k (.kn cs) []:=⟨q,vs,h1,h3,fun u hu=>h4 u (List.mem_append_left _ hu),fun j u hu=>⟨_,T,(0,0),hj,by
   have hl:=(List.getElem?_eq_some_iff.1 hu).1
   rw[h2,Nat.zero_add,List.getElem?_toArray,List.getElem?_append_left hl];exact hu⟩,rfl⟩
  exact ⟨J,j1,hB,yz (A:=[]) (hr.mono j1 (.refl _)) hB j2 h.top⟩
 |kn cs'=>
  cases hc
  have hb':=hb
  obtain ⟨q,vs,h1,h3,h4,h5,rfl⟩:=hb
  exact ⟨I,.refl _,⟨q,vs,h1,h3,h4,h5,rfl⟩,yz (A:=[]) hr ⟨q,vs,h1,h3,h4,h5,rfl⟩ hS h.top⟩
 |it s p=>cases hc
 |mp es=>cases hc
noncomputable def kS:List (Nat × List EV)→Hp→Hp
 |[],H=>H
 |q::l,H=>kS l (H.set q.1 (some (.kn q.2)))
theorem cJ.frzL:∀(l:List (Nat × List EV)) {I:aI} {H:Hp},cJ I φ H nx F E w→(∀q∈l,(H.get q.1).bind VO.cs?=some q.2)→∃J,I.le J∧(∀q∈l,eX J φ q.1 (.kn q.2) [])∧cJ J φ (kS l H) nx F E w
 |[],I,H,h,_=>⟨I,.refl _,(fun _ hq=>nomatch hq),h⟩
 |q::l,I,H,h,hk=>by
  obtain ⟨J,j1,j2,j3⟩:=h.frz1 (hk q (.head _))
  obtain ⟨K,k1,k2,k3⟩:=cJ.frzL l j3 fun r hr=>by
   rw[Tr.get_set]
   by_cases e:r.1=q.1
   ·rw[if_pos e]
    have h1:=hk q (.head _)
    have h2:=hk r (.tail _ hr)
    rw[e,h1] at h2
    exact h2
   ·rw[if_neg e];exact hk r (.tail _ hr)
  refine ⟨K,j1.trans k1,fun r hr=>?_,k3⟩
  rcases List.mem_cons.1 hr with rfl|hr
  ·exact eX.mono k1 (.refl _) j2
  ·exact k2 r hr
theorem cJ.addK (h:cJ I φ H nx F E w) {cs:List EV} (hk:H.get k=none) (hb:eX I φ k (.kn cs) []):cJ I φ (H.set k (some (.kn cs))) nx F E w:=by
 obtain ⟨ht,M,L,hn,hm,hr,hS⟩:=h
 refine ⟨ht,(k,.kn cs)::M,L,?_,fun j o=>?_,⟨[],L,Z,hb,hr⟩,hS⟩
 ·rw[List.map_cons,List.nodup_cons]
  refine ⟨fun hm2=>?_,hn⟩
  obtain ⟨x,hx,e⟩:=List.mem_map.1 hm2
  have e:x.1=k:=e
  have:=(hm x.1 x.2).1 hx
  rw[e,hk] at this;cases this
 ·rw[Tr.get_set,List.mem_cons,hm j o]
  by_cases e:j=k
  ·rw[if_pos e];subst e;rw[hk];simp[eq_comm]
  ·rw[if_neg e];simp[e]
end
structure aM where
 f:Nat
 ar:List EV
 hin:List (Nat × List EV)
 x:EV
 hout:List (Nat × List EV)
 base:Nat
noncomputable def DT (l:List (Nat × List EV)):Hp:=kS l .lf
def aA (P:Program) (E:World) (m:aM):Prop:=∀φ I F w vs,(∀q∈m.hin,eX I φ q.1 (.kn q.2) [])→RelVs φ m.ar vs→SL I F E w→(∀j,m.base≤j→φ j=none) →
 Go.Proofs.YtjpnhkmfhlnpcaaGreatDoor.Fn P m.f vs.toArray w (fun v w'=>∃J ψ,I.le J∧(∀j,j<m.base→ψ j=φ j)∧aQ ψ m.x v∧(∀q∈m.hout,eX J ψ q.1 (.kn q.2) [])∧SL J F E w')
noncomputable def sR (x y:List EV):Bool:=fb.eqL 2000 x y
noncomputable def zF (H:Hp) (q:Nat × List EV):Bool:=match (H.get q.1).bind VO.cs? with
 |some cs=>sR cs q.2
 |none=>false
theorem sS {H:Hp} {q:Nat × List EV} (h:zF H q=true):(H.get q.1).bind VO.cs?=some q.2:=by
 unfold zF at h
 split at h
 ·rename_i cs hc
  rw[hc,(mE 2000).2 cs q.2 h]
 ·cases h
theorem oy:∀(l:List (Nat × List EV)) (H:Hp) (j:Nat) (o:VO),(l.map (·.1)).Nodup→(∀q∈l,H.get q.1=none)→((kS l H).get j=some o↔(∃cs,(j,cs)∈l∧o=.kn cs)∨H.get j=some o)
 |[],H,j,o,_,_=>by simp[kS]
 |q::l,H,j,o,hn,hh=>by
  rw[List.map_cons,List.nodup_cons] at hn
  have hq:=hh q (.head _)
  have ih:=oy l (H.set q.1 (some (.kn q.2))) j o hn.2 fun r hr=>by
   have hne:¬r.1=q.1:=fun e=>hn.1 (List.mem_map.2 ⟨r,hr,e⟩)
   rw[Tr.get_set,if_neg hne]
   exact hh r (.tail _ hr)
  show (kS l (H.set q.1 (some (.kn q.2)))).get j=some o↔_
  rw[ih,Tr.get_set]
  by_cases e:j=q.1
  ·rw[if_pos e]
   constructor
   ·rintro (⟨cs,h1,h2⟩|h)
    ·exact .inl ⟨cs,.tail _ h1,h2⟩
    ·cases h;exact .inl ⟨q.2,by rw[e];exact .head _,rfl⟩
   ·rintro (⟨cs,h1,h2⟩|h)
    ·rcases List.mem_cons.1 h1 with h3|h3
     ·exact .inr (by rw[h2,←h3])
     ·exact .inl ⟨cs,h3,h2⟩
    ·rw[e,hq] at h;cases h
  ·rw[if_neg e]
   constructor
   ·rintro (⟨cs,h1,h2⟩|h)
    ·exact .inl ⟨cs,.tail _ h1,h2⟩
    ·exact .inr h
   ·rintro (⟨cs,h1,h2⟩|h)
    ·rcases List.mem_cons.1 h1 with h3|h3
     ·exact absurd (by rw[←h3]) e
     ·exact .inl ⟨cs,h3,h2⟩
    ·exact .inr h
def rH:List Nat→Bool
 |[]=>true
 |x::l=>!kR x l&&rH l
theorem lq:∀{l:List Nat},rH l=true→l.Nodup
 |[],_=>List.nodup_nil
 |x::l,h=>by
  unfold rH at h
  simp only[qg,Bool.not_eq_true',Bool.eq_false_iff] at h
  rw[List.nodup_cons]
  exact ⟨fun hm=>h.1 (fa.2 hm),lq h.2⟩
noncomputable def EQ (call:bK) (m:aM):Bool:=
 rH (m.hin.map (·.1))&&match call m.f m.ar (DT m.hin) m.base with
  |some (x,H',_)=>sR [x] [m.x]&&m.hout.all (zF H')
  |none=>false
section
variable {P:Program} {E:World}
theorem aC {call:bK} (hC:cE P E call) {m:aM} (h:EQ call m=true):aA P E m:=fun φ I F w vs hin hr hS ht=>by
 unfold EQ at h
 rw[qg] at h
 obtain ⟨h1,h⟩:=h
 split at h
 ·rename_i x H' nx' hc
  rw[qg,List.all_eq_true] at h
  have hx:x=m.x:=by have:=(mE 2000).2 _ _ h.1;simpa using this
  subst hx
  have hnd:=lq h1
  have hR:cJ I φ (DT m.hin) m.base F E w:=by
   refine ⟨ht,m.hin.map fun q=>(q.1,.kn q.2),[],?_,fun j o=>?_,?_,hS⟩
   ·rw[List.map_map];exact hnd
   ·rw[show DT m.hin=kS m.hin .lf from rfl,oy m.hin .lf j o hnd fun _ _=>Tr.get_lf _,Tr.get_lf,List.mem_map]
    constructor
    ·rintro ⟨q,hq,e⟩
     cases e
     exact .inl ⟨q.2,hq,rfl⟩
    ·rintro (⟨cs,h1,rfl⟩|h)
     ·exact ⟨(j,cs),h1,rfl⟩
     ·cases h
   ·generalize m.hin=l at hin
    clear h1 hnd hc h hr
    induction l with
    |nil=>rfl
    |cons q l ih=>exact ⟨[],[],rfl,hin q (.head _),ih fun r hr=>hin r (.tail _ hr)⟩
  refine (hC _ _ _ _ _ _ _ hc φ I F w vs hR hr).mono fun v w' ⟨J,ψ,a,b,c,d,e,f⟩=>?_
  obtain ⟨K,k1,k2,k3⟩:=cJ.frzL m.hout f fun q hq=>sS (h.2 q hq)
  exact ⟨K,ψ,a.trans k1,fun j hj=>c j hj (Nat.ne_of_lt hj),e,k2,k3.sl⟩
 ·cases h
end
def rI (k:Nat):List (Nat × List EV)→Nat→Nat
 |[],i=>i
 |q::l,i=>bif Nat.beq q.1 k then i else rI k l (i+1)
def w6 (m:aM) (nx:Nat) (k:Nat):Nat:=bif Nat.blt k m.base then k else nx+rI k m.hout 0
def CR (m:aM) (k:Nat):Bool:=Nat.blt k m.base||kR k (m.hout.map (·.1))
noncomputable def DD (ρ:Nat→Nat):List (Nat × List EV)→Nat→Hp→Hp
 |[],_,H=>H
 |q::l,k,H=>DD ρ l (k+1) (H.set k (some (.kn (EV.renL ρ q.2))))
noncomputable def DE (m:aM):bK:=fun f ar H nx=>
 bif Nat.beq f m.f&&(Nat.ble nx m.base&&sR ar m.ar)&&m.hin.all (zF H) then
  bif m.x.okN (CR m)&&m.hout.all (fun q=>EV.okNL (CR m) q.2&&Nat.ble m.base q.1)&&rH (m.hout.map (·.1)) then
   some (m.x.ren (w6 m nx),DD (w6 m nx) m.hout nx (kS m.hin H),nx+m.hout.length)
  else none
 else none
theorem oz:∀(l:List (Nat × List EV)) (i j:Nat) (q:Nat × List EV),(l.map (·.1)).Nodup→l[j]?=some q→rI q.1 l i=i+j
 |[],_,_,_,_,h=>by simp at h
 |r::l,i,0,q,_,h=>by
  simp at h;subst h
  unfold rI
  rw[show Nat.beq r.1 r.1=true from Nat.beq_refl _];rfl
 |r::l,i,j+1,q,hn,h=>by
  rw[List.map_cons,List.nodup_cons] at hn
  have h:l[j]?=some q:=by simpa using h
  have hne:r.1≠q.1:=fun e=>hn.1 (e▸List.mem_map_of_mem (qb h))
  have hb:Nat.beq r.1 q.1=false:=by
   cases e:Nat.beq r.1 q.1 with
   |false=>rfl
   |true=>exact absurd (Nat.eq_of_beq_eq_true e) hne
  unfold rI
  rw[hb]
  show rI q.1 l (i+1)=_
  rw[oz l (i+1) j q hn.2 h];omega
section
variable {P:Program} {E:World}
theorem sT {I:aI} {φ:bY} {n:Nat} {F:List (Nat × Obj)} {w:World} {ρ:Nat→Nat}:∀(l:List (Nat × List EV)) (k:Nat) (H:Hp),cJ I φ H n F E w→(∀j,k≤j→H.get j=none)→(∀(j:Nat) q,l[j]?=some q→eX I φ (k+j) (.kn (EV.renL ρ q.2)) [])→cJ I φ (DD ρ l k H) n F E w
 |[],_,_,h,_,_=>h
 |q::l,k,H,h,hn,hb=>by
  refine sT l (k+1) _ (h.addK (hn k (Nat.le_refl _)) (hb 0 q Z)) (fun j hj=>?_) fun j r hr=>?_
  ·rw[Tr.get_set,if_neg (by omega)];exact hn j (by omega)
  ·have:=hb (j+1) r (by simpa using hr)
   rwa [show k+(j+1)=k+1+j by omega] at this
theorem BI {m:aM} (hM:aA P E m):cE P E (DE m):=fun f ar H nx x H' nx' h φ I F w vs hR hr=>by
 unfold DE at h
 cases hb:(Nat.beq f m.f&&(Nat.ble nx m.base&&sR ar m.ar)&&m.hin.all (zF H)) with
 |false=>rw[hb] at h;cases h
 |true=>
  rw[hb] at h
  simp only[cond_true] at h
  cases hb2:(m.x.okN (CR m)&&m.hout.all (fun q=>EV.okNL (CR m) q.2&&Nat.ble m.base q.1)&&rH (m.hout.map (·.1))) with
  |false=>rw[hb2] at h;cases h
  |true=>
   rw[hb2] at h
   simp only[cond_true,Option.some.injEq,Prod.mk.injEq] at h
   obtain ⟨rfl,rfl,rfl⟩:=h
   simp only[qg,List.all_eq_true] at hb hb2
   obtain ⟨⟨c1,c2,c3⟩,c4⟩:=hb
   obtain ⟨⟨d1,d2⟩,d3⟩:=hb2
   have c1:=Nat.eq_of_beq_eq_true c1
   have c2:=Nat.le_of_ble_eq_true c2
   have c3:=(mE 2000).2 _ _ c3
   subst c1 c3
   have d3:=lq d3
   obtain ⟨J,j1,j2,j3⟩:=cJ.frzL m.hin hR fun q hq=>sS (c4 q hq)
   obtain ⟨ht,M,L,hn,hm,hrep,hS⟩:=j3
   refine (hM φ J (L++F) w vs j2 hr hS fun j hj=>ht j (Nat.le_trans c2 hj)).mono fun v w' ⟨K,ψ,k1,k2,k3,k4,k5⟩=>?_
   obtain ⟨χ,hχ⟩:∃χ:bY,χ=fun j=>if j<nx then φ j else if nx≤j∧j<nx+m.hout.length then (m.hout[j - nx]?).bind fun q=>ψ q.1 else none:=⟨_,rfl⟩
   have hle:φ.le χ:=fun b q e=>by
    rw[hχ]
    by_cases hb:b<nx
    ·simp only[if_pos hb];exact e
    ·rw[ht b (by omega)] at e;cases e
   have hren:∀b q,CR m b=true→ψ b=some q→χ (w6 m nx b)=some q:=fun b q hk hq=>by
    unfold w6
    by_cases hb:b<m.base
    ·rw[show Nat.blt b m.base=true from Nat.ble_eq_true_of_le hb]
     rw[k2 b hb] at hq
     exact hle b q hq
    ·rw[show Nat.blt b m.base=false from by
      cases e:Nat.blt b m.base with
      |false=>rfl
      |true=>exact absurd (Nat.le_of_ble_eq_true e) (by omega)]
     unfold CR at hk
     rw[Bool.or_eq_true] at hk
     have hk:=hk.resolve_left fun e=>hb (Nat.le_of_ble_eq_true e)
     obtain ⟨r,hr2,e⟩:=List.mem_map.1 (fa.1 hk)
     obtain ⟨i,hi⟩:=List.getElem?_of_mem hr2
     have hil:=(List.getElem?_eq_some_iff.1 hi).1
     have hp:=oz m.hout 0 i r d3 hi
     have e:r.1=b:=e
     rw[e] at hp
     show χ (nx+rI b m.hout 0)=some q
     rw[hp,hχ]
     simp only
     rw[if_neg (by omega),if_pos (by omega),show nx+(0+i) - nx=i by omega,hi]
     show ψ r.1=some q
     rw[e];exact hq
   have htop:∀j,nx+m.hout.length≤j→χ j=none:=fun j hj=>by
    rw[hχ];simp only
    rw[if_neg (by omega),if_neg (by omega)]
   have hR2:cJ K χ (kS m.hin H) (nx+m.hout.length) F E w':=⟨htop,M,L,hn,hm,hrep.mono k1 hle,k5⟩
   have hnone:∀j,nx≤j→(kS m.hin H).get j=none:=fun j hj=>by
    cases ho:(kS m.hin H).get j with
    |none=>rfl
    |some o=>
     obtain ⟨q,hq⟩:=hrep.phi _ ((hm j o).2 ho)
     rw[ht j hj] at hq;cases hq
   refine ⟨K,χ,j1.trans k1,hle,fun j hj _=>by rw[hχ];simp only;rw[if_pos hj],by omega,aQ.ren hren m.x v d1 k3,?_⟩
   refine sT m.hout nx _ hR2 hnone fun j q hq=>?_
   have hqm:=qb hq
   obtain ⟨p,us,p1,p2,p3,p4,_⟩:=k4 q hqm
   have hd:=d2 q hqm
   have hpos:=oz m.hout 0 j q d3 hq
   have hok:CR m q.1=true:=by
    unfold CR
    rw[Bool.or_eq_true]
    exact .inr (fa.2 (List.mem_map_of_mem hqm))
   have hu:w6 m nx q.1=nx+j:=by
    unfold w6
    rw[show Nat.blt q.1 m.base=false from by
     cases e:Nat.blt q.1 m.base with
     |false=>rfl
     |true=>exact absurd (Nat.le_of_ble_eq_true e) (by have:=Nat.le_of_ble_eq_true hd.2;omega),hpos,Nat.zero_add];rfl
   refine ⟨p,us,by rw[←hu];exact hren _ _ hok p1,RelVs.ren hren _ _ hd.1 p2,p3,p4,rfl⟩
noncomputable def DF:List aM→bK
 |[]=>fun _ _ _ _=>none
 |m::l=>EP (DE m) (DF l)
theorem oA:∀{l:List aM},(∀m∈l,aA P E m)→cE P E (DF l)
 |[],_=>fun f ar H nx x H' nx' h=>by cases h
 |m::l,h=>mH (BI (h m (.head _))) (oA fun r hr=>h r (.tail _ hr))
end
end
section
open Go.Proofs.Tryz
open Go.Proofs
section
variable {I:G} {ψ:bY} {hs:List (Nat × List EV)} {nv:Nat} {val:Nat→Int}
end
section
variable {P:Program} {E:World}
theorem zG {call:bK} (hC:cE P E call) {m:aM} (hn:rH (m.hin.map (·.1))=true)
  (h:(match call m.f m.ar (DT m.hin) m.base with|some (x,H',_)=>some (x,m.hout.map fun q=>(H'.get q.1).bind VO.cs?)|none=>none)=some (m.x,m.hout.map fun q=>some q.2)):aA P E m:=fun φ I F w vs hin hr hS ht=>by
 split at h
 ·rename_i x H' nx' hc
  simp only[Option.some.injEq,Prod.mk.injEq] at h
  obtain ⟨rfl,h2⟩:=h
  have h2:∀q∈m.hout,(H'.get q.1).bind VO.cs?=some q.2:=fun q hq=>by
   obtain ⟨i,hi⟩:=List.getElem?_of_mem hq
   have:=congrArg (fun l:List (Option (List EV))=>l[i]?) h2
   simp only[qa,hi,Option.map_some,Option.some.injEq] at this
   exact this
  have hnd:=lq hn
  have hR:cJ I φ (DT m.hin) m.base F E w:=by
   refine ⟨ht,m.hin.map fun q=>(q.1,.kn q.2),[],?_,fun j o=>?_,?_,hS⟩
   ·rw[List.map_map];exact hnd
   ·rw[show DT m.hin=kS m.hin .lf from rfl,oy m.hin .lf j o hnd fun _ _=>Tr.get_lf _,Tr.get_lf,List.mem_map]
    constructor
    ·rintro ⟨q,hq,e⟩
     cases e
     exact .inl ⟨q.2,hq,rfl⟩
    ·rintro (⟨cs,h1,rfl⟩|h)
     ·exact ⟨(j,cs),h1,rfl⟩
     ·cases h
   ·generalize m.hin=l at hin
    clear hn hnd hc h2 hr
    induction l with
    |nil=>rfl
    |cons q l ih=>exact ⟨[],[],rfl,hin q (.head _),ih fun r hr=>hin r (.tail _ hr)⟩
  refine (hC _ _ _ _ _ _ _ hc φ I F w vs hR hr).mono fun v w' ⟨J,ψ,a,b,c,d,e,f⟩=>?_
  obtain ⟨K,k1,k2,k3⟩:=cJ.frzL m.hout f fun q hq=>h2 q hq
  exact ⟨K,ψ,a.trans k1,fun j hj=>c j hj (Nat.ne_of_lt hj),e,k2,k3.sl⟩
 ·cases h
end
end
section
open Go.Proofs.Tryz
open Go.Proofs Go.Lib Go.Shelf Go.RowKit
variable {E:World} {m:Int}
set_option maxRecDepth 100000
theorem zH {I:aI} {O:List (Nat × Obj)} {w:World} {a:Addr} {v:Value} (h:E.cell? a=some v) (hS:SL I O E w):w.cell? a=some v:=by
 unfold World.cell? at *
 cases hh:E.heap[a.block]? with
 |none=>rw[hh] at h;cases h
 |some o=>rw[hh] at h;rw[hS.pers _ _ (hS.base _ _ hh)];exact h
def aR (E:World) (m:Int):Prop:=E.cell? ⟨2,2,none⟩=some (.int .u64 m)
theorem oB (hM:aR E m) (u:Nat) (h1:100≤u) (h2:u<512):aT prog E 270 [.int .u64 u] (.int .i64 (2+if m≤(u:Int) then 1 else 0)):=fun I F w vs h1' h2'=>by
 obtain ⟨v,us,rfl,h3,h5⟩:=h1'
 have h3:v=.int .u64 u:=h3
 have h5:us=[]:=h5
 subst h3 h5
 obtain ⟨ht,L,hL,hS⟩:=h2'
 have hL:L=[]:=hL
 subst hL
 refine Fn.ofCalls func270 Z (by decide) ?_
 exact (BH (ρ:=Tryz.laysM284_ren) Tryz.laysM284 u h1 h2 w m (zH hM hS)).mono fun e w' ⟨he,hw⟩=>⟨_,he,I,.int .i64 (2+if m≤(u:Int) then 1 else 0),[],.refl _,rfl,⟨ht,[],rfl,by rw[hw];exact hS⟩,rfl⟩
def BJ (k:Nat) (d:Int):rF:=fun f ar=>match f,ar with
 |270,[.i .u64 n]=>bif decide (n=(k:Int)) then some (.v (.i .i64 d)) else none
 |_,_=>none
theorem BK (hM:aR E m) {k:Nat} (h1:100≤k) (h2:k<512):p7 prog E (BJ k (2+if m≤(k:Int) then 1 else 0)):=by
 constructor
 ·intro f ar x h
  unfold BJ at h
  split at h
  ·rename_i n
   cases hb:decide (n=(k:Int)) with
   |false=>rw[hb] at h;cases h
   |true=>
    rw[hb] at h;cases h
    have hb:=of_decide_eq_true hb
    subst hb
    refine ⟨_,_,oB hM k h1 h2,fun φ vs hr I=>?_,fun I v hv φ=>hv⟩
    obtain ⟨v,us,rfl,h1,h2⟩:=hr
    exact ⟨v,us,rfl,h1,h2⟩
  ·cases h
 ·intro f ar l h
  unfold BJ at h
  split at h
  ·rename_i n
   cases hb:decide (n=(k:Int))<;>(rw[hb] at h;cases h)
  ·cases h
theorem Fe:prog.follows .mixedOrders=true:=by kernel_rfl
noncomputable def ER (k:Nat) (d:Int):bK:=w5 prog (zD prog) (BD (BJ k d)) 60 20
noncomputable def nH (k:Nat) (d:Int):Bool:=match ER k d 251 [.i .i64 (.ofNat k)] .lf 0 with
 |some (.s t,_,_)=>Nat.ble 2 t.data.toList.length&&Nat.ble t.data.toList.length 3
 |_=>false
noncomputable def Aq (j:Nat):Bool:=(List.range 46).all fun i=>nH (100+46*j+i) 2&&nH (100+46*j+i) 3
theorem Fu:Aq 0=true:=by decide +kernel
theorem Fv:Aq 1=true:=by decide +kernel
theorem Fw:Aq 2=true:=by decide +kernel
theorem Fx:Aq 3=true:=by decide +kernel
theorem Fy:Aq 4=true:=by decide +kernel
theorem Fz:Aq 5=true:=by decide +kernel
theorem FA:Aq 6=true:=by decide +kernel
theorem FB:Aq 7=true:=by decide +kernel
theorem FC:Aq 8=true:=by decide +kernel
theorem BL:∀j:Nat,j<9→Aq j=true
 |0,_=>Fu
 |1,_=>Fv
 |2,_=>Fw
 |3,_=>Fx
 |4,_=>Fy
 |5,_=>Fz
 |6,_=>FA
 |7,_=>FB
 |8,_=>FC
 |n+9,h=>absurd h (by omega)
theorem w7 {k:Nat} (h1:100≤k) (h2:k<512):nH k 2=true∧nH k 3=true:=by
 have:=List.all_eq_true.1 (BL ((k - 100) / 46) (by omega)) ((k - 100) % 46) (List.mem_range.2 (by omega))
 rw[qg,show 100+46*((k - 100) / 46)+(k - 100) % 46=k by omega] at this
 exact this
noncomputable def Ff (k:Nat):aM:=⟨251,[.i .i64 (.ofNat k)],[],.us 2 3 0,[],0⟩
theorem BM (hM:aR E m) {k:Nat} (h1:100≤k) (h2:k<512):aA prog E (Ff k):=fun φ I F w vs hi hr hS ht=>by
 have hc:nH k (2+if m≤(k:Int) then 1 else 0)=true:=by
  have:=w7 h1 h2
  split
  ·exact this.2
  ·exact this.1
 unfold nH at hc
 split at hc
 ·rename_i t H' nx' he
  rw[qg] at hc
  have hM':aA prog E ⟨251,[.i .i64 (.ofNat k)],[],.s t,[],0⟩:=zG (lp Fe ox (ow (BK hM h1 (by omega))) 60 20) rfl (by
   show (match ER k (2+if m≤(k:Int) then 1 else 0) 251 [.i .i64 (.ofNat k)] .lf 0 with|some (x,H',_)=>some (x,[])|none=>none)=some (.s t,[])
   rw[he])
  refine (hM' φ I F w vs hi hr hS ht).mono fun v w' ⟨J,ψ,a,b,c,d⟩=>⟨J,ψ,a,b,⟨t,c,Nat.le_of_ble_eq_true hc.1,Nat.le_of_ble_eq_true hc.2,.inl Z⟩,d⟩
 ·cases hc
noncomputable def rJ:bK:=fun f ar H nx=>match ar with
 |[.i .i64 (.ofNat k)]=>bif Nat.beq f 251&&(Nat.ble 100 k&&Nat.blt k 512) then some (.us 2 3 0,H,nx) else none
 |_=>none
theorem nI (hM:aR E m):cE prog E rJ:=fun f ar H nx x H' nx' h φ I F w vs hR hr=>by
 unfold rJ at h
 split at h
 ·rename_i k
  cases hb:(Nat.beq f 251&&(Nat.ble 100 k&&Nat.blt k 512)) with
  |false=>rw[hb] at h;cases h
  |true=>
   rw[hb,cond_true] at h
   cases h
   simp only[qg] at hb
   obtain rfl:=Nat.eq_of_beq_eq_true hb.1
   obtain ⟨M,L,hn,hm,hrep,hS⟩:=hR.ex
   exact (BM hM (Nat.le_of_ble_eq_true hb.2.1) (Nat.le_of_ble_eq_true hb.2.2) (fun _=>none) I (L++F) w vs (fun _ h=>nomatch h) hr hS fun _ _=>rfl).mono fun v w' ⟨J,ψ,a,_,c,_,e⟩=>⟨J,φ,a,.refl _,fun _ _ _=>rfl,Nat.le_refl _,c,hR.top,M,L,hn,hm,hrep.mono a (.refl _),e⟩
 ·cases h
end
end Go.Proofs.YtjpnhkmfhlnpcaaGreatDoor
