/- What a rule tells of less is less: plain law of ranges. No conditions but int64s. -/
import Derived.Test.YthphijnnbfjikaaGreatDoorJb
import Derived.Test.YthphijnnbfjikaaGreatDoorChecked
import Derived.Test.YthphijnnbfjikaaGreatDoorJa
set_option linter.unusedVariables false
set_option linter.unusedSimpArgs false
set_option linter.unusedSectionVars false
namespace Go.Proofs.YthphijnnbfjikaaGreatDoor
section
open Go.Proofs.Tryz
theorem RepR.flat {I:G} {k:Nat} {a:Option Addr}:∀{rows:List (List AV)} {j:Nat},RepR I k a j rows→rows≠[]→∃b off vs,a=some ⟨b,off,none⟩∧RepL I rows.flatten vs∧vs.length=rows.length*k∧∀(i:Nat) u,vs[i]?=some u→xU I.k b (off+j*k+i) u
 |[],_,_,h=>absurd rfl h
 |[r],j,⟨⟨b,off,vs,e,h1,h2,h3⟩,_⟩,_=>⟨b,off,vs,e,by simpa using h2,by simpa using h1,h3⟩
 |r::r'::rows,j,⟨⟨b,off,vs,e,h1,h2,h3⟩,h4⟩,_=>by
  obtain ⟨b',off',us,e',h5,h6,h7⟩:=RepR.flat h4 (by simp)
  subst e
  cases e'
  refine ⟨b,off,vs++us,rfl,by simpa using h2.append h5,by simp only[List.length_append,h1,h6,List.length_cons,Nat.add_mul];omega,fun i u hu=>?_⟩
  by_cases hi:i<vs.length
  ·rw[List.getElem?_append_left hi] at hu;exact h3 i u hu
  ·rw[List.getElem?_append_right (by omega)] at hu
   have:=h7 _ u hu
   have e:off+(j+1)*k+(i - vs.length)=off+j*k+i:=by rw[Nat.add_mul,h1];omega
   rwa [e] at this
theorem De {I:G} {k:Nat} {rows:List (List AV)} {v:Value} (h:br I (.fro k rows) v) (hc:rows.flatten.all AV.cell=true):∃a n c vs,v=.slice a n c∧n=rows.length∧RepL I rows.flatten vs∧(∀u∈vs,u.oneCell'=true)∧∀O,H0 I.k O k a n vs:=by
 obtain ⟨a,n,c,e,hn,hnc,hnil,hr⟩:=h
 cases rows with
 |nil=>
  refine ⟨a,n,c,[],e,hn,rfl,by simp,fun O=>⟨by simp[hn],by simp,?_⟩⟩
  cases a with
  |none=>exact .inl ⟨rfl,hn⟩
  |some p=>exact .inr ⟨p,rfl,by simp⟩
 |cons r rows=>
  obtain ⟨b,off,vs,e',h1,h2,h3⟩:=hr.flat (by simp)
  refine ⟨a,n,c,vs,e,hn,h1,h1.cell1 hc,fun O=>⟨by rw[h2,hn],h1.cell1 hc,.inr ⟨_,e',fun j u hj=>⟨b,off,rfl,?_⟩⟩⟩⟩
  have:=h3 j u hj
  rw[Nat.zero_mul,Nat.add_zero] at this
  exact .inl this
section
variable {E:World} {P:Program} {ops:Array Oper} {K:aH→OL→Prop} {env:aH} {O O':OL} {rest:List Oper}
variable {d ty:Nat} {pos:String} {af:Array Edge} {x y z:Operand} {t u e:TypeId}
theorem fI.split {I:G} {O1 O2:OL} {F:List (Nat × Obj)} {E w:World} (hO:O.Perm (O1++O2)) (h:fI I O F E w):∃L2,bH I O2 L2∧fI I O1 (L2++F) E w:=by
 obtain ⟨ht,L,hL,hS⟩:=h
 obtain ⟨L',h1,h2⟩:=hL.perm hO
 obtain ⟨A,B,rfl,h3,h4⟩:=bH.append.1 h1
 exact ⟨B,h4,ht,A,h3,hS.perm (by rw[←List.append_assoc];exact (h2.append_right F).symm)⟩
theorem fI.join {I J:G} {O1 O2:OL} {L2 F:List (Nat × Obj)} {E w:World} (hle:I.le J) (h2:bH I O2 L2) (h:fI J O1 (L2++F) E w):fI J (O1++O2) F E w:=by
 obtain ⟨ht,L,hL,hS⟩:=h
 exact ⟨ht,L++L2,bH.append.2 ⟨L,L2,rfl,hL,h2.mono hle⟩,by rw[List.append_assoc];exact hS⟩
theorem fI.drops {I:G} {O1:OL} {L2 F:List (Nat × Obj)} {E w:World} (h:fI I O1 (L2++F) E w):SL I.k (L2++F) E w:=by
 obtain ⟨ht,L,hL,hS⟩:=h
 exact hS.dropAll
theorem ai.callA {f:FuncId} {args:List Operand} {tys:Array TypeId} {as0:List AV} {O1 O2:OL} {R:AV→OL→Prop} (ha:args.map (aP env)=as0) (hO:O.Perm (O1++O2)) (hc:aU P E f as0 O1 R)
  (k:∀r O1',R r O1'→ai P E ops K rest (bp env d r) (O1'++O2)):ai P E ops K (Oper.mk (some d) (.call { callee:=.value (.func f),args:=args.toArray,argTypes:=tys }) ty pos af none::rest) env O:=fun I F ρ w h1 h2=>by
 obtain ⟨L2,hL2,h3⟩:=h2.split hO
 refine bx.callF (hc I (L2++F) w (args.map (ev ρ)) (ha▸h1.evs args) h3) ?_
 rintro v w' ⟨J,r,O1',hle,hr,hS,hR⟩
 exact yt (fun _ _=>qe hle) _ _ _ (k r O1' hR J F _ _ ((h1.mono hle).upd d hr) (hS.join hle hL2))
theorem ai.callP {f:FuncId} {args:List Operand} {tys:Array TypeId} {as0:List AV} {r:AV} (hc:aF P E f as0 r) (ha:args.map (aP env)=as0)
  (k:ai P E ops K rest (bp env d r) O):ai P E ops K (Oper.mk (some d) (.call { callee:=.value (.func f),args:=args.toArray,argTypes:=tys }) ty pos af none::rest) env O:=fun I F ρ w h1 h2=>by
 obtain ⟨L2,hL2,h3⟩:=h2.split (O1:=[]) (O2:=O) (.refl _)
 refine bx.callF (hc I (L2++F) w (args.map (ev ρ)) (ha▸h1.evs args) h3) ?_
 rintro v w' ⟨J,r',O1',hle,hr,hS,rfl⟩
 exact yt (fun _ _=>qe hle) _ _ _ (k J F _ _ ((h1.mono hle).upd d hr) ⟨hS.1,L2,hL2.mono hle,hS.drops⟩)
theorem ai.callVP {f:FuncId} {args:List Operand} {tys:Array TypeId} {a c as0:List AV} {r:AV} (hx:aP env x=.fn f a c) (hc:aF P E f as0 r) (ha:a++args.map (aP env)++c=as0)
  (k:ai P E ops K rest (bp env d r) O):ai P E ops K (Oper.mk (some d) (.call { callee:=.value x,args:=args.toArray,argTypes:=tys }) ty pos af none::rest) env O:=fun I F ρ w h1 h2=>by
 obtain ⟨L2,hL2,h3⟩:=h2.split (O1:=[]) (O2:=O) (.refl _)
 have h4:=h1.ev x
 rw[hx] at h4
 obtain ⟨vs,us,e,h5,h6⟩:=h4
 refine bx.callV e (hc I (L2++F) w (vs++args.map (ev ρ)++us) (ha▸(h5.append (h1.evs args)).append h6) h3) ?_
 rintro v w' ⟨J,r',O1',hle,hr,hS,rfl⟩
 exact yt (fun _ _=>qe hle) _ _ _ (k J F _ _ ((h1.mono hle).upd d hr) ⟨hS.1,L2,hL2.mono hle,hS.drops⟩)
theorem Gv.func {f:FuncId} {l m:List Operand} {a c:List AV} (hl:l.map (aP env)=a) (hm:m.map (aP env)=c):Gv P env O (Oper.mk (some d) (.makeFunc (.func f) l.toArray m.toArray) ty pos af none) (.fn f a c):=qb fun I ρ h=>
 ⟨.func (.func f) (l.map (ev ρ)).toArray (m.map (ev ρ)).toArray,⟨_,_,rfl,hl▸h.evs l,hm▸h.evs m⟩,fun w=>by simp[execOp,Instr.makeFunc]⟩
def aN (E:World) (env:aH) (O:OL) (env':aH) (O':OL):Prop:=∀I F ρ w,dx I env ρ→fI I O F E w→∃J,I.le J∧dx J env' ρ∧fI J O' F E w
end
section
variable {E:World} {P:Program} {n:Nat} {os:Array Oper} {env env':aH} {O O':OL}
theorem aN.wp {c:Code} {Q:Exit→aH→OL→Prop} (g:aN E env O env' O') (h:cO P E n c Q env' O'):cO P E n c Q env O:=fun I F ρ w h1 h2=>by
 obtain ⟨J,hle,h3,h4⟩:=g I F ρ w h1 h2
 exact (h J F ρ w h3 h4).mono fun _ _ _=>kQ.up hle
theorem aN.ops {K:aH→OL→Prop} {l:List Oper} (g:aN E env O env' O') (h:ai P E os K l env' O'):ai P E os K l env O:=fun I F ρ w h1 h2=>by
 obtain ⟨J,hle,h3,h4⟩:=g I F ρ w h1 h2
 exact yt (fun _ _=>qe hle) _ _ _ (h J F ρ w h3 h4)
theorem aN.fin {rs:Array ResultVar} {R:AV→OL→Prop} (g:aN E env O env' O') (h:dB P E rs R .ret env' O'):dB P E rs R .ret env O:=fun I F ρ w h1 h2=>by
 obtain ⟨J,hle,h3,h4⟩:=g I F ρ w h1 h2
 obtain ⟨v,h5,K,x,O'',h6,h7⟩:=h J F ρ w h3 h4
 exact ⟨v,h5,K,x,O'',hle.trans h6,h7⟩
theorem aN.perm (h:O.Perm O'):aN E env O env O':=fun I F ρ w h1 h2=>by
 obtain ⟨L2,hL2,h3⟩:=h2.split (O1:=O') (O2:=[]) (by simpa using h)
 have:L2=[]:=hL2
 subst this
 exact ⟨I,.refl _,h1,h3⟩
theorem aN.drop {i:Nat} {o:bm} (h:cz O i o O'):aN E env O env O':=fun I F ρ w h1 h2=>by
 obtain ⟨ht,L,hL,hS⟩:=h2
 obtain ⟨A,B,hp,_,hB⟩:=h.rep hL
 exact ⟨I,.refl _,h1,ht,B,hB,(hS.perm (by rw[←List.append_assoc];exact (hp.append_right F).symm):SL I.k (A++(B++F)) E w).dropAll⟩
theorem aN.slot {t:Nat} {x y:AV} (hv:env t=x) (hi:∀I v,br I x v→br I y v):aN E env O (bp env t y) O:=fun I F ρ w h1 h2=>by
 refine ⟨I,.refl _,fun s=>?_,h2⟩
 unfold bp
 cases hb:Nat.beq s t with
 |false=>exact h1 s
 |true=>
  have:s=t:=Nat.eq_of_beq_eq_true hb
  subst this
  exact hi I _ (hv▸h1 s)
end
section
variable {E:World} {P:Program} {n:Nat} {ops:Array Oper} {env:aH} {O O':OL}
theorem iP {c:Code} {Q:Exit→aH→OL→Prop} {t k:Nat} {T:TypeId} (hv:env t=.raw (.slice none 0 0)) (h:∀i,cO P E n c Q (bp env t (.own i 0)) ((i,.grow k T [])::O)):cO P E n c Q env O:=fun I F ρ w h1 h2=>by
 obtain ⟨i,hi⟩:=h2.name
 obtain ⟨J,e1,hle,e2,htop⟩:=hi (none,0)
 obtain ⟨_,L,hL,hS⟩:=h2
 have h3:ρ t=.slice none 0 0:=by have:=h1 t;rw[hv] at this;exact this
 refine (h i J F ρ w (fun s=>?_) ⟨htop,_,⟨[],L,rfl,⟨none,0,0,[],e2,rfl,by simp,dM.nil k T⟩,hL.mono hle⟩,by rw[e1];exact hS⟩).mono fun _ _ _=>kQ.up hle
 unfold bp
 cases hb:Nat.beq s t with
 |false=>exact br.mono hle _ _ (h1 s)
 |true=>
  have:s=t:=Nat.eq_of_beq_eq_true hb
  subst this
  exact ⟨none,0,e2,h3⟩
theorem know {I:G} {F:List (Nat × Obj)} {E w:World} {i k m:Nat} {T:TypeId} {rows:List (List AV)} (hO:cz O i (.grow k T rows.flatten) O') (hk:∀r∈rows,r.length=k) (hk0:0<k) (hm:rows.length=m) (h:fI I O F E w) :
  ∃J,I.le J∧fI J O' F E w∧∀v,br I (.own i m) v→br J (.fro k rows) v:=by
 obtain ⟨ht,L,hL,hS⟩:=h
 obtain ⟨A,B,hp,⟨b,c,n,vs,e1,hvs,hvc,hown⟩,hB⟩:=hO.rep hL
 simp only at e1
 have hS2:SL I.k (A++(B++F)) E w:=hS.perm (by rw[←List.append_assoc];exact (hp.append_right F).symm)
 have hflat:rows.flatten.length=rows.length*k:=by
  clear hO hvs hm
  induction rows with
  |nil=>simp
  |cons r rows ih=>simp only[List.flatten_cons,List.length_append,List.length_cons,ih (fun r h=>hk r (by simp[h])),hk r (by simp),Nat.add_mul];omega
 have hnm:n=m:=by
  have h5:=hown.1
  have h6:=hvs.length
  have:n*k=m*k:=by rw[←hm];omega
  exact Nat.eq_of_mul_eq_mul_right hk0 this
 subst hnm
 obtain ⟨h5,h6,h7⟩:=hown
 rcases h7 with ⟨ea,rfl,rfl⟩|⟨b',junk,ea,rfl,hj⟩
 ·refine ⟨I,.refl _,⟨ht,B,hB,by simpa using hS2⟩,?_⟩
  rintro v ⟨b2,c2,e2,rfl⟩
  rw[e1] at e2
  simp only[Option.some.injEq,Prod.mk.injEq] at e2
  obtain ⟨rfl,rfl⟩:=e2
  have h0:rows=[]:=List.eq_nil_of_length_eq_zero (by omega)
  subst h0
  exact ⟨adr b,n,0,rfl,hm.symm,h6,fun _=>rfl,trivial⟩
 ·cases b with
  |none=>simp[adr] at ea
  |some b=>
   simp[adr] at ea
   subst ea
   obtain ⟨hl,hS3⟩:=SL.freeze (by simpa using hS2:SL I.k ((b,.cells (vs++junk).toArray T (0,0))::(B++F)) E w)
   let J:G:=⟨I.k.put b (.cells (vs++junk).toArray T (0,0)),I.h⟩
   have hle:I.le J:=⟨hl,fun _ _ h=>h⟩
   have hb:J.k b=some (.cells (vs++junk).toArray T (0,0)):=aC.put_same _ _ _
   refine ⟨J,hle,⟨ht,B,hB.mono hle,hS3⟩,?_⟩
   rintro v ⟨b2,c2,e2,rfl⟩
   rw[e1] at e2
   simp only[Option.some.injEq,Prod.mk.injEq] at e2
   obtain ⟨rfl,rfl⟩:=e2
   refine ⟨adr (some b),n,c,rfl,hm.symm,h6,fun h=>by simp[adr] at h,RepR.of_flat hb rows vs 0 hk (RepL.mono hle _ _ hvs) fun i u hu=>?_⟩
   rw[Nat.zero_mul,Nat.zero_add,List.getElem?_toArray,List.getElem?_append_left (List.getElem?_eq_some_iff.1 hu).1]
   exact hu
theorem aN.know {t i k m:Nat} {T:TypeId} {rows:List (List AV)} (hv:env t=.own i m) (hO:cz O i (.grow k T rows.flatten) O') (hk:∀r∈rows,r.length=k) (hk0:0<k) (hm:rows.length=m):aN E env O (bp env t (.fro k rows)) O':=fun I F ρ w h1 h2=>by
 obtain ⟨J,hle,h3,h4⟩:=Go.Proofs.YthphijnnbfjikaaGreatDoor.know hO hk hk0 hm h2
 refine ⟨J,hle,fun s=>?_,h3⟩
 unfold bp
 cases hb:Nat.beq s t with
 |false=>exact br.mono hle _ _ (h1 s)
 |true=>
  have:s=t:=Nat.eq_of_beq_eq_true hb
  subst this
  exact h4 _ (hv▸h1 s)
end
end
section
open Go.Proofs.Tryz
theorem bE.mono {P:Program} {ops:Array Oper} {S0 S0' S S':World→Prop} {W:Nat→Bool} {Q Q':bG→World→Prop} (hS0:∀w,S0 w→S0' w) (hS:∀w,S w→S' w) (hQ:∀ρ w,Q ρ w→Q' ρ w):∀(fuel:Nat) (listed:Array Bool) (ρ:bG) (w:World),
  bE P ops S0 S W Q fuel listed ρ w→bE P ops S0' S' W Q' fuel listed ρ w
 |0,_,_,_,h=>⟨h.1,hQ _ _ h.2⟩
 |fuel+1,_,_,_,h=>⟨fun h0=>hQ _ _ (h.1 h0),fun i hi o ho=>yt (fun _ _ ⟨a,b⟩=>⟨⟨hS0 _ a.1,a.2.imp id (hS _)⟩,bE.mono hS0 hS hQ fuel _ _ _ b⟩) _ _ _ (h.2 i hi o ho)⟩
def dX (J0:aC) (L:List (Nat × Obj)) (E:World) (w:World):Prop:=∃J L',J0.le J∧SL J L' E w∧∀y∈L,y∈L'
def bt (P:Program) (E:World) (l:List Oper) (W:Nat→Bool) (Q:aH→OL→Prop) (fuel:Nat) (listed:Array Bool) (env:aH) (Os Om:OL):Prop:=
 ∀I F ρ w Ls,dx I env ρ→bH I Os Ls→fI I Om (Ls++F) E w→bE P l.toArray (dX I.k [] E) (dX I.k Ls E) W (eS I F E Q) fuel listed ρ w
def lW (P:Program) (E:World) (l:List Oper) (W:Nat→Bool) (Q:aH→OL→Prop) (fuel:Nat) (listed:Array Bool) (env:aH) (O:OL):Prop:=
 ∀I F ρ w,dx I env ρ→fI I O F E w→∀S,bE P l.toArray (dX I.k [] E) S W (eS I F E Q) fuel listed ρ w
theorem fI.here {I:G} {Om:OL} {Ls F:List (Nat × Obj)} {E w:World} (h:fI I Om (Ls++F) E w):dX I.k Ls E w:=by
 obtain ⟨_,L,_,hS⟩:=h
 exact ⟨I.k,_,.refl _,hS,fun y hy=>by simp[hy]⟩
theorem fI.together {I:G} {Os Om:OL} {Ls F:List (Nat × Obj)} {E w:World} (hs:bH I Os Ls) (h:fI I Om (Ls++F) E w):fI I (Os++Om) F E w:=by
 obtain ⟨ht,L,hL,hS⟩:=h
 refine ⟨ht,Ls++L,bH.append.2 ⟨Ls,L,rfl,hs,hL⟩,hS.perm ?_⟩
 rw[←List.append_assoc]
 exact (List.perm_append_comm).append_right F
theorem dX.less {J0:aC} {L:List (Nat × Obj)} {E w:World} (h:dX J0 L E w):dX J0 [] E w:=let ⟨J,L',a,b,_⟩:=h;⟨J,L',a,b,fun _ h=>(by cases h)⟩
section
variable {E:World} {P:Program} {n:Nat} {l:List Oper} {W:Nat→Bool} {Q:aH→OL→Prop} {fuel:Nat} {listed:Array Bool} {env:aH} {O Os Om:OL}
variable {d ty:Nat} {op:Op} {pos:String} {af:Array Edge}
theorem cO.regionDraw (W:Nat→Bool) {Q:Exit→aH→OL→Prop} {id:Nat} (hm:P.follows .mixedOrders=true) (hd:fx n l=true) (hO:O.Perm (Om++Os)) (h:bt P E l W (Q .normal) l.length (Array.replicate l.length false) env Os Om):cO P E n (.region id l.toArray true) Q env O:=fun I F ρ w h1 h2=>by
 obtain ⟨Ls,hLs,h3⟩:=h2.split hO
 refine WP.regionDraw (dX I.k [] E) (dX I.k Ls E) W hm hd fun w' hw=>?_
 subst hw
 refine h I F ρ _ Ls h1 hLs ?_
 obtain ⟨ht,L,hL,hS⟩:=h3
 exact ⟨ht,L,hL,hS.drew⟩
theorem AK {i:Nat} (hr:Region.ready .any l.toArray listed=[i]) (hW:(W i||!eW W listed)=true):dR W (listed.setIfInBounds i true):=by
 have h1:=(mem_ready.1 (show i∈Region.ready .any l.toArray listed by rw[hr];exact .head _)).1
 have hi:i<listed.size:=by
  rcases Nat.lt_or_ge i listed.size with h|h
  ·exact h
  ·rw[Array.getD_eq_getD_getElem?,Array.getElem?_eq_none h] at h1;cases h1
 rcases Bool.or_eq_true_iff.1 hW with h|h
 ·refine ⟨i,?_,h⟩
  rw[Array.getD_eq_getD_getElem?,Array.getElem?_setIfInBounds,if_pos rfl,if_pos hi];rfl
 ·refine kl ?_
  have h:eW W listed=false:=by simpa using h
  unfold eW at h
  obtain ⟨j,_,hj⟩:=List.all_eq_false.1 h
  simp only[Bool.not_eq_true,Bool.not_eq_false',Bool.and_eq_true] at hj
  exact ⟨j,by simpa using hj⟩
theorem bt.takeK {i:Nat} {x:AV} (hi:l[i]?=some (Oper.mk (some d) op ty pos af none)) (hs:Region.noSelect l.toArray=true) (hf:Region.free .any l.toArray listed i=true)
  (hr:(Region.ready .any l.toArray listed).contains i=true) (hWi:W i=false) (hg:Gv P env [] (Oper.mk (some d) op ty pos af none) x)
  (h:bt P E l W Q fuel (listed.setIfInBounds i true) (bp env d x) Os Om):bt P E l W Q (fuel+1) listed env Os Om:=fun I F ρ w Ls h1 hLs h2=>by
 obtain ⟨v,hv,hrun⟩:=hg I [] E ρ h1 rfl
 exact bE.takeK hi hs hf hr hWi h2.here.less (.inr h2.here) (fun w ⟨J,L',a,b,c⟩=>hrun w J L' a b c) (h I F _ w Ls (h1.upd d hv) hLs h2)
theorem bt.take {i:Nat} {x:AV} (hi:l[i]?=some (Oper.mk (some d) op ty pos af none)) (hs:Region.noSelect l.toArray=true) (hf:Region.free .any l.toArray listed i=true)
  (hr:(Region.ready .any l.toArray listed).contains i=true) (hW:fO l i W=true) (hWi:W i=false) (hcl:eW W listed=true) (hg:Gv P env Os (Oper.mk (some d) op ty pos af none) x)
  (h:bt P E l W Q fuel (listed.setIfInBounds i true) (bp env d x) Os Om):bt P E l W Q (fuel+1) listed env Os Om:=fun I F ρ w Ls h1 hLs h2=>by
 obtain ⟨v,hv,hrun⟩:=hg I Ls E ρ h1 hLs
 exact bE.take hi hs hf hr hW hWi hcl h2.here.less h2.here (fun w ⟨J,L',a,b,c⟩=>hrun w J L' a b c) (h I F _ w Ls (h1.upd d hv) hLs h2)
theorem bt.takeT {i j s:Nat} {b t:Bool} {x:AV} (hi:l[i]?=some (Oper.mk (some d) op ty pos af (some (j,b)))) (hg0:(l[j]?).bind (fun o:Oper=>o.dst)=some s) (hv0:env s=.bool t) (ht:t=b) (hs:Region.noSelect l.toArray=true) (hf:Region.free .any l.toArray listed i=true)
  (hr:(Region.ready .any l.toArray listed).contains i=true) (hW:fO l i W=true) (hWi:W i=false) (hcl:eW W listed=true) (hg:Gv P env Os (Oper.mk (some d) op ty pos af none) x)
  (h:bt P E l W Q fuel (listed.setIfInBounds i true) (bp env d x) Os Om):bt P E l W Q (fuel+1) listed env Os Om:=fun I F ρ w Ls h1 hLs h2=>by
 obtain ⟨v,hv,hrun⟩:=hg I Ls E ρ h1 hLs
 exact bE.takeT hi hg0 (by have:=h1 s;rw[hv0] at this;exact this) ht hs hf hr hW hWi hcl h2.here.less h2.here (fun w ⟨J,L',a,b,c⟩=>hrun w J L' a b c) (h I F _ w Ls (h1.upd d hv) hLs h2)
theorem bt.takeF {i j s:Nat} {b t:Bool} (hi:l[i]?=some (Oper.mk (some d) op ty pos af (some (j,b)))) (hg0:(l[j]?).bind (fun o:Oper=>o.dst)=some s) (hv0:env s=.bool t) (ht:t=!b) (hs:Region.noSelect l.toArray=true) (hf:Region.free .any l.toArray listed i=true)
  (hr:(Region.ready .any l.toArray listed).contains i=true) (hW:fO l i W=true) (hWi:W i=false) (hcl:eW W listed=true)
  (h:bt P E l W Q fuel (listed.setIfInBounds i true) (bp env d (.raw undef)) Os Om):bt P E l W Q (fuel+1) listed env Os Om:=fun I F ρ w Ls h1 hLs h2=>
 bE.takeF hi hg0 (by have:=h1 s;rw[hv0] at this;exact this) ht hs hf hr hW hWi hcl h2.here.less h2.here (h I F _ w Ls (h1.upd d rfl) hLs h2)
theorem bt.one {i:Nat} {o:Oper} (hi:l[i]?=some o) (hr:Region.ready .any l.toArray listed=[i])
  (h:ai P E l.toArray (fun env' Om'=>bt P E l W Q fuel (listed.setIfInBounds i true) env' Os Om') [o] env Om):bt P E l W Q (fuel+1) listed env Os Om:=fun I F ρ w Ls h1 hLs h2=>
 bE.one hi hr (yt (fun ρ' w' ⟨J,env',Om',a,b,c,d⟩=>by
  have hst:dX I.k Ls E w':=by
   obtain ⟨J',L',h3,h4,h5⟩:=c.here
   exact ⟨J',L',a.k.trans h3,h4,h5⟩
  refine ⟨⟨hst.less,.inr hst⟩,bE.mono ?_ ?_ (fun _ _=>qe a) _ _ _ _ (d J F ρ' w' Ls b (hLs.mono a) c)⟩
  ·rintro w ⟨J',L',h3,h4⟩;exact ⟨J',L',a.k.trans h3,h4⟩
  ·rintro w ⟨J',L',h3,h4⟩;exact ⟨J',L',a.k.trans h3,h4⟩) _ _ _ (h I (Ls++F) ρ w h1 h2))
theorem bt.done (hr:Region.ready .any l.toArray listed=[]) (h:Q env (Os++Om)):bt P E l W Q fuel listed env Os Om:=fun I F ρ w Ls h1 hLs h2=>
 bE.done hr ⟨I,env,Os++Om,.refl _,h1,fI.together hLs h2,h⟩
theorem bt.case {t:Bool} {s:Nat} (_:env s=.bool t) (h1:t=true→bt P E l W Q fuel listed env Os Om) (h2:t=false→bt P E l W Q fuel listed env Os Om):bt P E l W Q fuel listed env Os Om:=by
 cases t
 ·exact h2 rfl
 ·exact h1 rfl
theorem bt.writes (h:lW P E l W Q fuel listed env (Os++Om)):bt P E l W Q fuel listed env Os Om:=fun I F ρ w Ls h1 hLs h2=>h I F ρ w h1 (fI.together hLs h2) _
theorem lW.one {i:Nat} {o:Oper} (hi:l[i]?=some o) (hr:Region.ready .any l.toArray listed=[i]) (hW:(W i||!eW W listed)=true)
  (h:ai P E l.toArray (fun env' O'=>lW P E l W Q fuel (listed.setIfInBounds i true) env' O') [o] env O):lW P E l W Q (fuel+1) listed env O:=fun I F ρ w h1 h2 S=>
 bE.one hi hr (yt (fun ρ' w' ⟨J,env',O',a,b,c,d⟩=>⟨⟨(by
  obtain ⟨_,L',_,h4⟩:=c
  exact ⟨J.k,_,a.k,h4,fun _ h=>(by cases h)⟩),.inl (AK hr hW)⟩,bE.mono (fun _ ⟨J',L',h3,h4⟩=>⟨J',L',a.k.trans h3,h4⟩) (fun _ h=>h) (fun _ _=>qe a) _ _ _ _ (d J F ρ' w' b c S)⟩) _ _ _ (h I F ρ w h1 h2))
theorem lW.done (hr:Region.ready .any l.toArray listed=[]) (h:Q env O):lW P E l W Q fuel listed env O:=fun I F ρ w h1 h2 S=>
 bE.done hr ⟨I,env,O,.refl _,h1,h2,h⟩
end
theorem RepL.same {I J:G} (hle:I.le J):∀{cs:List AV} {vs:List Value},RepL I cs vs→∀{off:Nat} {x y:AV},cs[off]?=some x→(∀v,br I x v→br J y v)→RepL J (cs.set off y) vs
 |[],_,_,_,_,_,h,_=>by simp at h
 |c::cs,_,⟨v,us,e,h1,h2⟩,off,x,y,h,hxy=>by
  subst e
  cases off with
  |zero=>simp at h;subst h;exact ⟨v,us,rfl,hxy v h1,RepL.mono hle _ _ h2⟩
  |succ off=>exact ⟨v,us,rfl,br.mono hle _ _ h1,RepL.same hle h2 (by simpa using h) hxy⟩
section
variable {E:World} {P:Program} {n:Nat} {env:aH} {O O' O'':OL}
theorem eR.same {I J:G} {F:List (Nat × Obj)} {E w:World} {j off:Nat} {T:TypeId} {cs:List AV} {x y:AV} (hle:I.le J) (hk:J.k=I.k∨True) (hp:eR O j (.cells T cs) (.cells T (cs.set off y)) O') (hc:cs[off]?=some x) (hxy:∀v,br I x v→br J y v)
  {L:List (Nat × Obj)} (hL:bH I O L):∃L',bH J O' L'∧L.Perm L':=by
 obtain ⟨A,B,hp1,⟨b,c,vs,e1,hvs,hvc,rfl⟩,hback⟩:=hp.rep hL
 obtain ⟨L',h1,h2⟩:=hback hle (A':=[(b,.cells vs.toArray T (0,0))]) ⟨b,c,vs,hle.h _ _ e1,hvs.same hle hc hxy,hvc,rfl⟩
 exact ⟨L',h1,hp1.trans h2.symm⟩
theorem aN.knowC {j off i k m:Nat} {T T':TypeId} {cs:List AV} {rows:List (List AV)} (hO:cz O i (.grow k T rows.flatten) O') (hP:eR O' j (.cells T' cs) (.cells T' (cs.set off (.fro k rows))) O'') (hc:cs[off]?=some (.own i m))
  (hk:∀r∈rows,r.length=k) (hk0:0<k) (hm:rows.length=m):aN E env O env O'':=fun I F ρ w h1 h2=>by
 obtain ⟨J,hle,h3,h4⟩:=Go.Proofs.YthphijnnbfjikaaGreatDoor.know hO hk hk0 hm h2
 obtain ⟨ht,L,hL,hS⟩:=h3
 obtain ⟨_,L0,hL0,hS0⟩:=h2
 obtain ⟨A,B,hp,⟨b,c,vs,e1,hvs,hvc,rfl⟩,hback⟩:=hP.rep hL
 obtain ⟨A0,B0,hp0,_,hB0⟩:=hO.rep hL0
 obtain ⟨A1,B1,hp1,⟨b1,c1,vs1,e2,hvs1,hvc1,rfl⟩,_⟩:=hP.rep hB0
 have e3:=hle.h _ _ e2
 simp only at e1 e3
 rw[e1] at e3
 simp only[Option.some.injEq,Prod.mk.injEq] at e3
 obtain ⟨rfl,rfl⟩:=e3
 have hS1:SL I.k (A0++(B0++F)) E w:=hS0.perm (by rw[←List.append_assoc];exact (hp0.append_right F).symm)
 have hv1:=hS1.own (b,.cells vs1.toArray T' (0,0)) (by simp;right;left;exact hp1.mem_iff.2 (by simp))
 have hv:=hS.own (b,.cells vs.toArray T' (0,0)) (by simp;left;exact hp.mem_iff.2 (by simp))
 simp only at hv hv1
 rw[hv] at hv1
 simp only[Option.some.injEq,Obj.cells.injEq] at hv1
 have hvv:vs=vs1:=by have:=congrArg Array.toList hv1.1;simpa using this
 subst hvv
 obtain ⟨L',h5,h6⟩:=hback (G.le.refl J) (A':=[(b,.cells vs.toArray T' (0,0))]) ⟨b,c,vs,e1,hvs1.same hle hc h4,hvc,rfl⟩
 exact ⟨J,hle,h1.mono hle,ht,L',h5,hS.perm (((h6.trans hp.symm).append_right F))⟩
theorem xW {j off k:Nat} {T T':TypeId} {cs:List AV} {c:Code} {Q:Exit→aH→OL→Prop} {f:Nat→OL} (hP:∀i,eR O j (.cells T' cs) (.cells T' (cs.set off (.own i 0))) (f i)) (hc:cs[off]?=some (.raw (.slice none 0 0)))
  (h:∀i,cO P E n c Q env ((i,.grow k T [])::f i)):cO P E n c Q env O:=fun I F ρ w h1 h2=>by
 obtain ⟨i,hi⟩:=h2.name
 obtain ⟨J,e1,hle,e2,htop⟩:=hi (none,0)
 obtain ⟨_,L,hL,hS⟩:=h2
 obtain ⟨L',h3,h4⟩:=eR.same (F:=F) (E:=E) (w:=w) hle (.inr trivial) (hP i) hc (fun v hv=>⟨none,0,e2,hv⟩) hL
 exact (h i J F ρ w (h1.mono hle) ⟨htop,_,⟨[],L',rfl,⟨none,0,0,[],e2,rfl,by simp,dM.nil k T⟩,h3⟩,by rw[e1];exact hS.perm (h4.symm.append_right F)⟩).mono fun _ _ _=>kQ.up hle
end
def AV.plain:AV→Bool
 |.bool _ | .int _ _ | .str _=>true
 |_=>false
theorem AV.plain_rep {I J:G} {x:AV} {v:Value} (hp:x.plain=true) (h:br I x v):br J x v:=by
 cases x<;>first|exact h|cases hp
theorem AL {k:Nat} {rows:List (List AV)} (hk:∀r∈rows,r.length=k):rows.flatten.length=rows.length*k:=by
 induction rows with
 |nil=>simp
 |cons r rows ih=>simp only[List.flatten_cons,List.length_append,List.length_cons,ih (fun r h=>hk r (by simp[h])),hk r (by simp),Nat.add_mul];omega
end
section
open Go.Proofs.Tryz
inductive so:OL→OL→OL→Prop
 |rest (O):so O O []
 |l {x O A B}:so O A B→so (x::O) (x::A) B
 |r {x O A B}:so O A B→so (x::O) A (x::B)
theorem so.perm {O A B:OL} (h:so O A B):O.Perm (A++B):=by
 induction h with
 |rest=>simp
 |l _ ih=>exact ih.cons _
 |r _ ih=>exact (ih.cons _).trans List.perm_middle.symm
section
variable {E:World} {P:Program} {n:Nat} {ops:Array Oper} {K:aH→OL→Prop} {env:aH} {O O':OL} {rest:List Oper}
variable {d ty:Nat} {pos:String} {af:Array Edge} {x y z:Operand} {t u e:TypeId}
theorem ai.storeW {i m:Nat} {T:TypeId} {v:AV} {cs l:List AV} (hs:∀w,(sizeOf t).run P w=.ok m w) (hx:aP env x=.po i 0) (hy:aP env y=v) (hv:v.sto=true) (hl:v.cs=l) (hl1:l.all AV.cell=true) (hn:l.length=m)
  (hO:eR O i (.cells T cs) (.cells T l) O') (hb:cs.length=m) (k:ai P E ops K rest env O'):ai P E ops K (Oper.mk none (.store t x y) ty pos af none::rest) env O:=
 q8 (off:=0) hs hx hy hv hl hl1 hn hO (by rw[hb];simp) (by rw[Nat.zero_add,List.drop_eq_nil_of_le (by omega)];simp) k
theorem ai.storeG {i off m k:Nat} {T:TypeId} {v:AV} {cs l new:List AV} (hs:∀w,(sizeOf t).run P w=.ok m w) (hx:aP env x=.po i off) (hy:aP env y=v) (hv:v.sto=true) (hl:v.cs=l) (hl1:l.all AV.cell=true) (hn:l.length=m)
  (hO:eR O i (.grow k T cs) (.grow k T new) O') (hb:off+m≤cs.length) (hm:0<m) (hnew:cs.take off++l++cs.drop (off+m)=new) (kk:ai P E ops K rest env O'):ai P E ops K (Oper.mk none (.store t x y) ty pos af none::rest) env O:=fun I F ρ w h1 h2=>by
 obtain ⟨htop,L,hL,hS⟩:=h2
 have h3:=h1.ev x
 rw[hx] at h3
 obtain ⟨b,c,e1,e⟩:=h3
 have h4:=h1.ev y
 rw[hy] at h4
 have h5:=AV.cs_rep h4 hv
 rw[hl] at h5
 obtain ⟨A,B,hp,⟨b',c',n',vs,e2,h6,h6c,hown⟩,hback⟩:=hO.rep hL
 simp only at e2
 rw[e1] at e2
 simp only[Option.some.injEq,Prod.mk.injEq] at e2
 obtain ⟨rfl,rfl⟩:=e2
 obtain ⟨g1,g2,g3⟩:=hown
 rcases g3 with ⟨g3,_,_⟩|⟨b'',junk,g3,rfl,g4⟩
 ·simp[adr] at g3
 simp[adr] at g3
 subst g3
 have hS2:SL I.k ((b,.cells (vs++junk).toArray T (0,0))::(B++F)) E w:=hS.perm ((hp.append_right F).symm)
 have hlen:=h6.length
 have hrun:=iO (P:=P) (t:=t) (b:=b) (off:=off) (v:=ev ρ y) (vs:=(ev ρ y).cells.toList) (old:=vs++junk) (w:=w) hs (by simp) (by rw[h5.length,hn]) (h5.cell1 hl1) (by rw[List.length_append];omega) (hS2.own _ (.head _))
 have hre:(vs++junk).take off++(ev ρ y).cells.toList++(vs++junk).drop (off+m)=(vs.take off++(ev ρ y).cells.toList++vs.drop (off+m))++junk:=by
  rw[List.take_append_of_le_length (by omega),List.drop_append_of_le_length (by omega)];simp
 rw[hre] at hrun
 refine qi rfl ?_
 unfold dQ
 have:(execOp (ev ρ) (Oper.mk none (.store t x y) ty pos af none)).run P w=.ok .skip (w.setRow b ((vs.take off++(ev ρ y).cells.toList++vs.drop (off+m))++junk).toArray):=by
  simp only[execOp,e]
  rw[Sem.run_bind,hrun];rfl
 rw[this]
 have hnr:RepL I new (vs.take off++(ev ρ y).cells.toList++vs.drop (off+m)):=hnew▸((h6.take off).append h5).append (h6.drop (off+m))
 have hnl:(vs.take off++(ev ρ y).cells.toList++vs.drop (off+m)).length=vs.length:=by
  have:=h5.length
  simp only[List.length_append,List.length_take,List.length_drop];omega
 obtain ⟨L',h7,h8⟩:=hback (G.le.refl I) (A':=[(b,.cells ((vs.take off++(ev ρ y).cells.toList++vs.drop (off+m))++junk).toArray T (0,0))]) ⟨some b,_,n',_,e1,hnr,by
  intro u hu
  simp only[List.mem_append] at hu
  rcases hu with (hu|hu)|hu
  ·exact h6c u (List.mem_of_mem_take hu)
  ·exact h5.cell1 hl1 u hu
  ·exact h6c u (List.mem_of_mem_drop hu),by rw[hnl];exact g1,g2,.inr ⟨b,junk,rfl,rfl,by
   simp only[List.length_append] at g4 ⊢
   simp only[List.length_append] at hnl
   omega⟩⟩
 exact kk I F ρ _ h1 ⟨htop,L',h7,(hS2.turn1).perm (h8.append_right F)⟩
theorem ai.storeG1 {i off k:Nat} {T:TypeId} {v:AV} {cs:List AV} (hs:∀w,(sizeOf t).run P w=.ok 1 w) (hx:aP env x=.po i off) (hy:aP env y=v) (hv:v.sto=true) (hl:v.cs=[v]) (hl1:v.cell=true)
  (hO:eR O i (.grow k T cs) (.grow k T (cs.set off v)) O') (hb:off<cs.length) (kk:ai P E ops K rest env O'):ai P E ops K (Oper.mk none (.store t x y) ty pos af none::rest) env O:=
 ai.storeG hs hx hy hv hl (by simp[hl1]) rfl hO (by omega) (by omega) (by rw[List.set_eq_take_append_cons_drop,if_pos hb];simp) kk
theorem Gv.field1 {fs:Array Field} {f:Field} {i:Nat} {cs:List AV} {v:AV} (ht:P.underlying t=some (.struct fs)) (hf:fs[i]?=some f) (ha:∀w,(isAgg f.type).run P w=.ok false w) (hx:aP env x=.agg cs) (hv:cs[f.offset]?=some v) :
  Gv P env O (Oper.mk (some d) (.field t x i) ty pos af none) v:=qb fun I ρ h=>by
 have h2:=h.ev x
 rw[hx] at h2
 obtain ⟨vs,e,hr⟩:=h2
 obtain ⟨u,hu,hru⟩:=hr.get hv
 exact ⟨u,hru,fun w=>by simp[execOp,e,Instr.field,run_underlying ht,hf,part,ha,hu,asAgg,Result.andThen]⟩
theorem Gv.fieldA {fs:Array Field} {f:Field} {i sz:Nat} {cs l:List AV} (ht:P.underlying t=some (.struct fs)) (hf:fs[i]?=some f) (ha:∀w,(isAgg f.type).run P w=.ok true w) (hs:∀w,(sizeOf f.type).run P w=.ok sz w) (hx:aP env x=.agg cs) (hl:(cs.drop f.offset).take sz=l) :
  Gv P env O (Oper.mk (some d) (.field t x i) ty pos af none) (.agg l):=qb fun I ρ h=>by
 have h2:=h.ev x
 rw[hx] at h2
 obtain ⟨vs,e,hr⟩:=h2
 refine ⟨.agg ((vs.drop f.offset).take sz).toArray,⟨_,rfl,hl▸(hr.drop _).take _⟩,fun w=>?_⟩
 simp[execOp,e,Instr.field,run_underlying ht,hf,part,ha,hs,asAgg,Result.andThen]
theorem Gv.idxAF {n k j:Nat} {i:Int} {cs cs':List AV} (ht:P.underlying t=some (.array n e)) (hs:∀w,(sizeOf e).run P w=.ok k w) (hx:aP env x=.pf cs) (hy:aP env y=.int .i64 i) (hi:i=(j:Int)) (hj:j<n) (hl:cs.drop (j*k)=cs') :
  Gv P env O (Oper.mk (some d) (.indexAddr t x y) ty pos af none) (.pf cs'):=fun I L E ρ h1 _=>by
 have h2:=h1.ev x
 rw[hx] at h2
 obtain ⟨b,off,vs,ex,h3,h5⟩:=h2
 refine ⟨.pointer (some ⟨b,off+j*k,none⟩),⟨b,_,vs.drop (j*k),rfl,hl▸h3.drop _,fun m u hu=>?_⟩,fun w J L' _ _ _=>?_⟩
 ·rw[List.getElem?_drop] at hu
  have:=h5 _ _ hu
  rwa [←Nat.add_assoc] at this
 ·subst hi
  simp[execOp,ex,fz h1 hy,Instr.indexAt,asIntOf,run_underlying ht,hs,hj,bo,Instr.sureAddr]
theorem Gv.idxAO {n k j id off:Nat} {i:Int} (ht:P.underlying t=some (.array n e)) (hs:∀w,(sizeOf e).run P w=.ok k w) (hx:aP env x=.po id off) (hy:aP env y=.int .i64 i) (hi:i=(j:Int)) (hj:j<n) {r:Nat} (hr:off+j*k=r) :
  Gv P env O (Oper.mk (some d) (.indexAddr t x y) ty pos af none) (.po id r):=fun I L E ρ h1 _=>by
 have h2:=h1.ev x
 rw[hx] at h2
 obtain ⟨b,c,e1,ex⟩:=h2
 refine ⟨.pointer (some ⟨b,r,none⟩),⟨b,c,e1,rfl⟩,fun w J L' _ _ _=>?_⟩
 subst hi hr
 simp[execOp,ex,fz h1 hy,Instr.indexAt,asIntOf,run_underlying ht,hs,hj,bo,Instr.sureAddr]
theorem Gv.index1 {n j:Nat} {i:Int} {cs:List AV} {v:AV} (ht:P.underlying t=some (.array n e)) (ha:∀w,(isAgg e).run P w=.ok false w) (hs:∀w,(sizeOf e).run P w=.ok 1 w) (hx:aP env x=.agg cs) (hy:aP env y=.int .i64 i) (hi:i=(j:Int)) (hj:j<n) (hv:cs[j]?=some v) :
  Gv P env O (Oper.mk (some d) (.index t x y) ty pos af none) v:=qb fun I ρ h=>by
 have h2:=h.ev x
 rw[hx] at h2
 obtain ⟨vs,ex,hr⟩:=h2
 obtain ⟨u,hu,hru⟩:=hr.get hv
 refine ⟨u,hru,fun w=>?_⟩
 subst hi
 simp[execOp,ex,fz h hy,Instr.index,asIntOf,run_underlying ht,hj,hs,part,ha,hu,Result.andThen]
theorem Gv.indexA {n j k:Nat} {i:Int} {cs l:List AV} (ht:P.underlying t=some (.array n e)) (ha:∀w,(isAgg e).run P w=.ok true w) (hs:∀w,(sizeOf e).run P w=.ok k w) (hx:aP env x=.agg cs) (hy:aP env y=.int .i64 i) (hi:i=(j:Int)) (hj:j<n) (hl:(cs.drop (j*k)).take k=l) :
  Gv P env O (Oper.mk (some d) (.index t x y) ty pos af none) (.agg l):=qb fun I ρ h=>by
 have h2:=h.ev x
 rw[hx] at h2
 obtain ⟨vs,ex,hr⟩:=h2
 refine ⟨.agg ((vs.drop (j*k)).take k).toArray,⟨_,rfl,hl▸(hr.drop _).take _⟩,fun w=>?_⟩
 subst hi
 simp[execOp,ex,fz h hy,Instr.index,asIntOf,run_underlying ht,hj,hs,part,ha,Result.andThen]
theorem ai.rangeT {s:ByteArray} (ht:P.underlying t=some .string) (hx:aP env x=.str s) (k:∀i,ai P E ops K rest (bp env d (.po i 0)) ((i,.iter s 0)::O)):ai P E ops K (Oper.mk (some d) (.range t x) ty pos af none::rest) env O:=fun I F ρ w h1 h2=>by
 obtain ⟨L,hL,hS⟩:=h2.2
 obtain ⟨i,hi⟩:=h2.name
 refine bx.rangeT ht hS (Fc h1 hx) fun b w' hS'=>?_
 obtain ⟨J,e1,hle,e2,htop⟩:=hi (some b,0)
 exact yt (fun _ _=>qe hle) _ _ _ (k i J F _ _ ((h1.mono hle).upd d ⟨b,0,e2,rfl⟩) ⟨htop,_,⟨_,L,rfl,⟨b,0,e2,rfl⟩,hL.mono hle⟩,by rw[e1];exact hS'⟩)
theorem ai.nextT {i p:Nat} {s:ByteArray} (hx:aP env x=.po i 0) (hO:eR O i (.iter s p) (.iter s (p+(Utf8.decode s p).2)) O') (hp:p<s.size)
  (k:ai P E ops K rest (bp env d (.tup [.bool true,.int .i64 p,.int .i32 (Utf8.decode s p).1])) O'):ai P E ops K (Oper.mk (some d) (.next x true) ty pos af none::rest) env O:=fun I F ρ w h1 h2=>by
 obtain ⟨ht,L,hL,hS⟩:=h2
 have h3:=h1.ev x
 rw[hx] at h3
 obtain ⟨b,c,e1,e⟩:=h3
 obtain ⟨A,B,hp1,⟨b',c',e2,rfl⟩,hback⟩:=hO.rep hL
 simp only at e2
 rw[e1] at e2
 simp only[Option.some.injEq,Prod.mk.injEq] at e2
 obtain ⟨rfl,rfl⟩:=e2
 have hS2:SL I.k ((b,.stringIter s p)::(B++F)) E w:=hS.perm ((hp1.append_right F).symm)
 refine bx.nextT hS2 e hp fun w' hS'=>?_
 obtain ⟨L',h7,h8⟩:=hback (G.le.refl I) (A':=[(b,.stringIter s (p+(Utf8.decode s p).2))]) ⟨b,c,e1,rfl⟩
 exact k I F _ _ (h1.upd d ⟨[.bool true,.int .i64 p,.int .i32 (Utf8.decode s p).1],rfl,⟨_,_,rfl,rfl,⟨_,_,rfl,rfl,⟨_,_,rfl,rfl,rfl⟩⟩⟩⟩) ⟨ht,L',h7,hS'.perm (h8.append_right F)⟩
theorem ai.nextTover {i p:Nat} {s:ByteArray} (hx:aP env x=.po i 0) (hO:cz O i (.iter s p) O') (hp:¬p<s.size)
  (k:ai P E ops K rest (bp env d (.tup [.bool false])) O):ai P E ops K (Oper.mk (some d) (.next x true) ty pos af none::rest) env O:=fun I F ρ w h1 h2=>by
 obtain ⟨ht,L,hL,hS⟩:=id h2
 have h3:=h1.ev x
 rw[hx] at h3
 obtain ⟨b,c,e1,e⟩:=h3
 obtain ⟨A,B,hp1,⟨b',c',e2,rfl⟩,_⟩:=hO.rep hL
 simp only at e2
 rw[e1] at e2
 simp only[Option.some.injEq,Prod.mk.injEq] at e2
 obtain ⟨rfl,rfl⟩:=e2
 have hS2:SL I.k ((b,.stringIter s p)::(B++F)) E w:=hS.perm (by have:=(hp1.append_right F).symm;simpa using this)
 exact bx.nextTover hS2 e hp (k I F _ _ (h1.upd d ⟨[.bool false],rfl,⟨_,_,rfl,rfl,rfl⟩⟩) h2)
theorem ai.nextA {i p:Nat} {s:ByteArray} {c:UInt8} (hx:aP env x=.po i 0) (hc:s.data[p]?=some c) (hc2:c<128) (hO:eR O i (.iter s p) (.iter s (p+1)) O')
  (k:ai P E ops K rest (bp env d (.tup [.bool true,.int .i64 p,.int .i32 (c.toNat:Int)])) O'):ai P E ops K (Oper.mk (some d) (.next x true) ty pos af none::rest) env O:=by
 have hp:p<s.size:=by
  by_cases hp:p<s.data.size
  ·exact hp
  ·rw[Array.getElem?_eq_none (by omega)] at hc;cases hc
 have hd:=kP hc hc2
 exact ai.nextT hx (by rw[hd];exact hO) hp (by rw[hd];exact k)
end
end
section
open Go.Proofs.Tryz
theorem lz {k:Nat}:∀(xs:List (List AV)) (i:Nat) (pre zs:List AV),(∀x∈xs,x.length=k)→zs.length=xs.length*k→pre.length=i*k →
  ii (fun i=>some (i*k,k)) (pre++zs) ((xs.zipIdx i).map fun p=>(p.2,p.1))=some (pre++xs.flatten)
 |[],i,pre,zs,_,h,_=>by simp at h;subst h;simp[ii]
 |x::xs,i,pre,zs,hk,h,hp=>by
  have hx:=hk x (by simp)
  have e1:Nat.beq x.length k=true:=by rw[hx];exact Nat.beq_refl k
  have e2:Nat.ble (i*k+k) (pre++zs).length=true:=by
   rw[Nat.ble_eq,List.length_append,hp,h,List.length_cons,Nat.add_mul];omega
  simp only[List.zipIdx_cons,List.map_cons,ii,e1,e2,Bool.and_self,cond_true]
  have h1:(pre++zs).take (i*k)=pre:=by rw[←hp];simp
  have h2:(pre++zs).drop (i*k+k)=zs.drop k:=by rw[←hp,List.drop_append];simp
  rw[h1,h2,←List.append_assoc]
  rw[lz xs (i+1) (pre++x) (zs.drop k) (fun y hy=>hk y (by simp[hy])) (by rw[List.length_drop,h,List.length_cons,Nat.add_mul];omega) (by rw[List.length_append,hp,hx,Nat.add_mul];omega)]
  simp
theorem vS {α:Type} {enc:α→List AV} {k:Nat} (hk:∀x,(enc x).length=k):∀(l:List α) (j:Nat) {x:α},l[j]?=some x→((l.flatMap enc).drop (j*k)).take k=enc x
 |[],j,x,h=>by simp at h
 |y::l,0,x,h=>by simp at h;subst h;simp[List.take_append_of_le_length,hk]
 |y::l,j+1,x,h=>by
  simp only[List.getElem?_cons_succ] at h
  rw[←vS hk l j h,List.flatMap_cons,Nat.add_mul,Nat.one_mul,Nat.add_comm,←List.drop_drop]
  congr 2
  rw[←hk y];simp
section
variable {E:World} {P:Program} {env:aH} {O:OL} {d ty:Nat} {pos:String} {af:Array Edge} {t:TypeId}
theorem Gv.buildAF {k:Nat} {zs:List AV} {xs:List (List AV)} {l:List (Nat × Operand)} (hpl:gM P t k zs) (hs:l.all (fun p=>(aP env p.2).sto)=true) (hv:l.map (fun p=>(p.1,(aP env p.2).cs))=(xs.zipIdx 0).map fun p=>(p.2,p.1))
  (hk:xs.all (fun x=>Nat.beq x.length k)=true) (hz:zs.length=xs.length*k):Gv P env O (Oper.mk (some d) (.build t l.toArray) ty pos af none) (.agg xs.flatten):=
 Gv.buildA hpl hs hv (by
  have:=lz xs 0 [] zs (fun x hx=>Nat.eq_of_beq_eq_true (List.all_eq_true.1 hk x hx)) hz (by simp)
  simpa using this)
end
inductive oU:OL→Nat→bm→Nat→bm→OL→Prop
 |head {i o j o' O}:oU ((i,o)::O) i o j o' ((j,o')::O)
 |tail {x O i o j o' O'}:oU O i o j o' O'→oU (x::O) i o j o' (x::O')
theorem oU.rep {I:G} {O O':OL} {i j:Nat} {o o':bm} (h:oU O i o j o' O'):∀{L},bH I O L→∃A B,L.Perm (A++B)∧o5 I (i,o) A ∧
  ∀{J:G} {A'},I.le J→o5 J (j,o') A'→∃L',bH J O' L'∧L'.Perm (A'++B):=by
 induction h with
 |head=>rintro L ⟨A,B,e,h1,h2⟩;exact ⟨A,B,e▸.refl _,h1,fun {J A'} hl h=>⟨A'++B,⟨A',B,rfl,h,h2.mono hl⟩,.refl _⟩⟩
 |tail h ih=>
  rintro L ⟨A,B,e,h1,h2⟩
  obtain ⟨C,D,hp,h3,h4⟩:=ih h2
  refine ⟨C,A++D,?_,h3,fun {J A'} hl h=>?_⟩
  ·subst e
   refine (hp.append_left A).trans ?_
   rw[←List.append_assoc,←List.append_assoc]
   exact List.perm_append_comm.append_right D
  ·obtain ⟨L',h5,h6⟩:=h4 hl h
   refine ⟨A++L',⟨A,L',rfl,h1.mono hl,h5⟩,?_⟩
   refine (h6.append_left A).trans ?_
   rw[←List.append_assoc,←List.append_assoc]
   exact List.perm_append_comm.append_right D
section
variable {E:World} {P:Program} {ops:Array Oper} {K:aH→OL→Prop} {env:aH} {O O':OL} {rest:List Oper}
variable {d ty:Nat} {pos:String} {af:Array Edge} {x y z:Operand} {t u e:TypeId}
theorem ai.appendS {ti:TypeInfo} {zv:Value} {k n i:Nat} {cs:List AV} {rows:List (List AV)} {f:Nat→OL} (ht:P.underlying t=some (.slice e)) (hi:P.info? e=some ti) (hz:ti.zero=some zv) (hk:ti.size=k) (hzc:zv.cells.size=k)
  (hx:aP env x=.own i n) (hy:aP env y=.fro k rows) (hO:∀j,oU O i (.grow k e cs) j (.grow k e (cs++rows.flatten)) (f j)) (hn:cs.length=n*k) (hk0:0<k) (hc1:rows.flatten.all AV.cell=true) (hb:(n+rows.length)*ti.bytes≤140737488355328) (hb2:n+rows.length≤140737488355328)
  (kk:∀j,ai P E ops K rest (bp env d (.own j (n+rows.length))) (f j)) :
  ai P E ops K (Oper.mk (some d) (.call { callee:=.builtin .append,args:=#[x,y],argTypes:=#[t,t] }) ty pos af none::rest) env O:=fun I F ρ w h1 h2=>by
 obtain ⟨htop,L,hL,hS⟩:=id h2
 have h3:=h1.ev x
 rw[hx] at h3
 obtain ⟨b,cap,e1,ex⟩:=h3
 have h4:=h1.ev y
 rw[hy] at h4
 obtain ⟨sa,m,sc,vs,ey,hm,hvs,hvc,hsrc⟩:=De h4 hc1
 obtain ⟨j,hj⟩:=h2.name
 obtain ⟨A,B,hp,⟨b',cap',n',us,e2,hus,huc,hown⟩,hback⟩:=(hO j).rep hL
 simp only at e2
 rw[e1] at e2
 simp only[Option.some.injEq,Prod.mk.injEq] at e2
 obtain ⟨rfl,rfl⟩:=e2
 have hnn:n'=n:=by
  have h5:=hown.1
  have h6:=hus.length
  have:n'*k=n*k:=by omega
  exact Nat.eq_of_mul_eq_mul_right hk0 this
 subst hnn
 subst hm
 have hS2:SL I.k (A++(B++F)) E w:=hS.perm (by rw[←List.append_assoc];exact (hp.append_right F).symm)
 refine bx.append ht hi hz hk hzc ex ey hS2 hown (hsrc _) hb hb2 fun a' c' A' w' h5 h6 h7=>?_
 have hb':∃b'',a'=adr b'':=by
  rcases h5.2.2 with ⟨e,_⟩|⟨b'',junk,e,_⟩
  ·exact ⟨none,e⟩
  ·exact ⟨some b'',e⟩
 obtain ⟨b'',rfl⟩:=hb'
 obtain ⟨J,ek,hle,e3,htop'⟩:=hj (b'',c')
 obtain ⟨L',h8,h9⟩:=hback hle (A':=A') ⟨b'',c',_,us++vs,e3,RepL.mono hle _ _ (hus.append hvs),(by
  intro u hu
  rcases List.mem_append.1 hu with hu|hu
  ·exact huc u hu
  ·exact hvc u hu),h5⟩
 exact yt (fun _ _=>qe hle) _ _ _ (kk j J F _ _ ((h1.mono hle).upd d ⟨b'',c',e3,rfl⟩) ⟨htop',L',h8,by rw[ek];exact h6.perm (by rw[←List.append_assoc];exact h9.append_right F)⟩)
end
theorem jN {α:Type} {enc:α→List AV} {xs ys:List α} {x:α} (h:ys=xs++[x]):(xs.map enc).flatten++[enc x].flatten=(ys.map enc).flatten:=by subst h;simp
theorem kS {α:Type} {enc:α→List AV} {k:Nat} (hk:∀x,(enc x).length=k) (xs:List α):(xs.map enc).flatten.length=xs.length*k:=by
 rw[AL (k:=k) (by simp[hk]),List.length_map]
end
section
open Go.Proofs.Tryz
theorem Fd {I:G} {x v:Value} (h:br I (lit x) v):v=x:=by cases x<;>exact h
theorem jO {I:G}:∀{xs vs:List Value},RepL I (xs.map lit) vs→vs=xs
 |[],_,h=>h
 |x::xs,_,⟨v,us,e,h1,h2⟩=>by rw[e,Fd h1,jO h2]
section
variable {E:World} {P:Program} {env:aH} {O:OL} {d ty:Nat} {pos:String} {af:Array Edge} {x y:Operand} {t u:TypeId}
theorem Gv.eqlP {xs ys:List Value} {r:Bool} (hg:P.eqGuardType P.depth t=false) (hx:aP env x=.agg (xs.map lit)) (hy:aP env y=.agg (ys.map lit)) (hr:∀w,(Op.equalIn 10000 t (.agg xs.toArray) (.agg ys.toArray)).run P w=.ok r w) :
  Gv P env O (Oper.mk (some d) (.binOp .eql t x y u) ty pos af none) (.bool r):=qb fun I ρ h=>by
 have h1:=h.ev x
 have h2:=h.ev y
 rw[hx] at h1
 rw[hy] at h2
 obtain ⟨vs,e1,hv⟩:=h1
 obtain ⟨us,e2,hu⟩:=h2
 rw[jO hv] at e1
 rw[jO hu] at e2
 exact ⟨_,rfl,fun w=>by simp only[execOp,e1,e2];simp[run_eqGuard_agg w .eql t x y xs.toArray ys.toArray hg,run_eql_struct,hr]⟩
end
theorem GH {α:Type} {xs ys:List α} {k:Nat} (h1:k<xs.length) (h2:k<ys.length) (h:¬xs[k]=ys[k]):¬xs=ys:=fun e=>by subst e;exact h rfl
theorem xX {α:Type} {xs ys:List α} {k:Nat} (h1:k<xs.length) (h2:k<ys.length) (he:xs.take k=ys.take k) (h:xs[k]=ys[k]):xs.take (k+1)=ys.take (k+1):=by
 rw[List.take_succ_eq_append_getElem h1,List.take_succ_eq_append_getElem h2,he,h]
theorem xY {α:Type} {xs ys:List α} {k:Nat} (hl:xs.length=ys.length) (hk:xs.length≤k) (he:xs.take k=ys.take k):xs=ys:=by
 rwa [List.take_of_length_le hk,List.take_of_length_le (by omega)] at he
end
section
open Go.Proofs.Tryz
section
variable {E:World} {P:Program} {ops:Array Oper} {K:aH→OL→Prop} {env:aH} {O O':OL} {rest:List Oper}
variable {d ty:Nat} {pos:String} {af:Array Edge} {x y:Operand} {t u e:TypeId}
theorem ai.isNil {k:Nat} {rows:List (List AV)} (ht:P.underlying t=some (.slice e)) (hx:aP env x=.fro k rows) (hy:aP env y=.raw (.slice none 0 0)) (kt:rows=[]→ai P E ops K rest (bp env d (.bool true)) O) (kf:ai P E ops K rest (bp env d (.bool false)) O) :
  ai P E ops K (Oper.mk (some d) (.binOp .eql t x y u) ty pos af none::rest) env O:=fun I F ρ w h1 h2=>by
 have h3:=h1.ev x
 rw[hx] at h3
 obtain ⟨a,n,c,e1,hn,hnc,hnil,_⟩:=h3
 refine bx.eqNilS ht e1 (fA h1 hy) ?_
 cases a with
 |none=>
  have:rows=[]:=List.eq_nil_of_length_eq_zero (by have:=hnil rfl;omega)
  exact kt this I F _ w (h1.upd d rfl) h2
 |some p=>exact kf I F _ w (h1.upd d rfl) h2
theorem xZ {rs:Array ResultVar} {R:AV→OL→Prop} {s k:Nat} {T:TypeId} (hv:env s=.raw (.slice none 0 0)) (h:∀i,dB P E rs R .ret (bp env s (.own i 0)) ((i,.grow k T [])::O)):dB P E rs R .ret env O:=fun I F ρ w h1 h2=>by
 obtain ⟨i,hi⟩:=h2.name
 obtain ⟨J,e1,hle,e2,htop⟩:=hi (none,0)
 obtain ⟨_,L,hL,hS⟩:=h2
 have h3:ρ s=.slice none 0 0:=by have:=h1 s;rw[hv] at this;exact this
 obtain ⟨v,g1,K,x,O',g2,g3⟩:=h i J F ρ w (fun q=>by
  unfold bp
  cases hb:Nat.beq q s with
  |false=>exact br.mono hle _ _ (h1 q)
  |true=>
   have:q=s:=Nat.eq_of_beq_eq_true hb
   subst this
   exact ⟨none,0,e2,h3⟩) ⟨htop,_,⟨[],L,rfl,⟨none,0,0,[],e2,rfl,by simp,dM.nil k T⟩,hL.mono hle⟩,by rw[e1];exact hS⟩
 exact ⟨v,g1,K,x,O',hle.trans g2,g3⟩
end
end
section
open Go.Proofs.Tryz
section
variable {E:World} {P:Program} {ops:Array Oper} {K:aH→OL→Prop} {env:aH} {O O':OL} {rest:List Oper}
variable {d ty:Nat} {pos:String} {af:Array Edge} {x y:Operand} {t u e:TypeId}
theorem x8 {k:Nat} {zs:List AV} {xs:List (List AV)} (hk:xs.all (fun x=>Nat.beq x.length k)=true) (hz:zs.length=xs.length*k):ii (fun i=>some (i*k,k)) zs ((xs.zipIdx 0).map fun p=>(p.2,p.1))=some xs.flatten:=by
 have:=lz xs 0 [] zs (fun x hx=>Nat.eq_of_beq_eq_true (List.all_eq_true.1 hk x hx)) hz (by simp)
 simpa using this
theorem ai.buildSliceFF {n k:Nat} {zs:List AV} {rows:List (List AV)} {l:List (Nat × Operand)} (hpl:dt P t e n k zs) (hs:l.all (fun p=>(aP env p.2).sto)=true) (hv:l.map (fun p=>(p.1,(aP env p.2).cs))=(rows.zipIdx 0).map fun p=>(p.2,p.1))
  (hk:rows.all (fun r=>Nat.beq r.length k)=true) (hn:rows.length=n) (hz:zs.length=n*k) (kk:ai P E ops K rest (bp env d (.fro k rows)) O) :
  ai P E ops K (Oper.mk (some d) (.buildSlice t n l.toArray) ty pos af none::rest) env O:=
 ai.buildSliceF hpl hs hv (x8 hk (by rw[hz,hn])) rfl hk hn kk
end
theorem SL.belowE {I:aC} {O:List (Nat × Obj)} {E w:World} (hS:SL I O E w):Go.RowKit.Below E.heap.size E w:=by
 have key:∀k,k<E.heap.size→w.heap[k]?=E.heap[k]?:=fun k hk=>by
  have h1:E.heap[k]?=some E.heap[k]:=Array.getElem?_eq_getElem hk
  rw[h1]
  exact hS.pers _ _ (hS.base k _ h1)
 refine ⟨hS.os,hS.tape,hS.output,?_,key⟩
 rcases Nat.lt_or_ge w.heap.size E.heap.size with h|h
 ·have:=key w.heap.size h
  rw[Array.getElem?_eq_none (Nat.le_refl _),Array.getElem?_eq_getElem h] at this
  cases this
 ·exact h
theorem aF.ofBelow {E:World} {P:Program} {f:FuncId} {fn:Func} {c:Code} {as0:List AV} {vs:List Value} {r:Value} (hf:P.funcs[f]?=some fn) (hb:fn.body=some c) (hn:fn.name≠"runtime.NumGoroutine") (has:as0=vs.map lit)
  (h:∀w,Go.RowKit.Below E.heap.size E w→Calls P f vs.toArray w fun e w'=>e=.returned r∧Go.RowKit.Below w.heap.size w w'):aF P E f as0 (lit r):=fun I F w us h1 h2=>by
 subst has
 rw[jO h1]
 obtain ⟨ht,L,hL,hS⟩:=h2
 have hL:L=[]:=hL
 subst hL
 refine Fn.ofCalls hf hb hn ?_
 exact (h w hS.belowE).mono fun e w' ⟨he,hw⟩=>⟨_,he,I,lit r,[],.refl _,vR I r,⟨ht,[],rfl,hS.below hw⟩,rfl⟩
end
section
open Go.Proofs.Tryz
open Go.Proofs
theorem cQ:eD prog 183 #[(0,1),(1,1),(2,1)] [.str ⟨#[]⟩,.str ⟨#[]⟩,.str ⟨#[]⟩]:=⟨_,_,underlying183,zeroValue183,fun w=>by kernel_rfl,rfl⟩
theorem GI:gM prog 208 3 [.str ⟨#[]⟩,.str ⟨#[]⟩,.str ⟨#[]⟩,.str ⟨#[]⟩,.str ⟨#[]⟩,.str ⟨#[]⟩,.str ⟨#[]⟩,.str ⟨#[]⟩,.str ⟨#[]⟩,.str ⟨#[]⟩,.str ⟨#[]⟩,.str ⟨#[]⟩,.str ⟨#[]⟩,.str ⟨#[]⟩,.str ⟨#[]⟩,.str ⟨#[]⟩,.str ⟨#[]⟩,.str ⟨#[]⟩,.str ⟨#[]⟩,.str ⟨#[]⟩,.str ⟨#[]⟩,.str ⟨#[]⟩,.str ⟨#[]⟩,.str ⟨#[]⟩,.str ⟨#[]⟩,.str ⟨#[]⟩,.str ⟨#[]⟩,.str ⟨#[]⟩,.str ⟨#[]⟩,.str ⟨#[]⟩,.str ⟨#[]⟩,.str ⟨#[]⟩,.str ⟨#[]⟩,.str ⟨#[]⟩,.str ⟨#[]⟩,.str ⟨#[]⟩,.str ⟨#[]⟩,.str ⟨#[]⟩,.str ⟨#[]⟩,.str ⟨#[]⟩,.str ⟨#[]⟩,.str ⟨#[]⟩,.str ⟨#[]⟩,.str ⟨#[]⟩,.str ⟨#[]⟩,.str ⟨#[]⟩,.str ⟨#[]⟩,.str ⟨#[]⟩,.str ⟨#[]⟩,.str ⟨#[]⟩,.str ⟨#[]⟩,.str ⟨#[]⟩,.str ⟨#[]⟩,.str ⟨#[]⟩,.str ⟨#[]⟩,.str ⟨#[]⟩,.str ⟨#[]⟩,.str ⟨#[]⟩,.str ⟨#[]⟩,.str ⟨#[]⟩,.str ⟨#[]⟩,.str ⟨#[]⟩,.str ⟨#[]⟩,.str ⟨#[]⟩,.str ⟨#[]⟩,.str ⟨#[]⟩,.str ⟨#[]⟩,.str ⟨#[]⟩,.str ⟨#[]⟩,.str ⟨#[]⟩,.str ⟨#[]⟩,.str ⟨#[]⟩,.str ⟨#[]⟩,.str ⟨#[]⟩,.str ⟨#[]⟩,.str ⟨#[]⟩,.str ⟨#[]⟩,.str ⟨#[]⟩,.str ⟨#[]⟩,.str ⟨#[]⟩,.str ⟨#[]⟩]:=⟨_,_,_,underlying208,zeroValue208,sizeOf183,rfl⟩
variable {E:World}
set_option maxRecDepth 20000
def ip:List (ByteArray × ByteArray × ByteArray):=[(⟨#[99,111,110,115,116]⟩,⟨#[]⟩,⟨#[105]⟩),
 (⟨#[99,111,112,121]⟩,⟨#[105]⟩,⟨#[105]⟩),
 (⟨#[97,100,100]⟩,⟨#[105,105]⟩,⟨#[105]⟩),
 (⟨#[115,117,98]⟩,⟨#[105,105]⟩,⟨#[105]⟩),
 (⟨#[109,117,108]⟩,⟨#[105,105]⟩,⟨#[105]⟩),
 (⟨#[100,105,118]⟩,⟨#[105,105]⟩,⟨#[105]⟩),
 (⟨#[114,101,109]⟩,⟨#[105,105]⟩,⟨#[105]⟩),
 (⟨#[101,113]⟩,⟨#[105,105]⟩,⟨#[98]⟩),
 (⟨#[108,116]⟩,⟨#[105,105]⟩,⟨#[98]⟩),
 (⟨#[108,101]⟩,⟨#[105,105]⟩,⟨#[98]⟩),
 (⟨#[110,111,116]⟩,⟨#[98]⟩,⟨#[98]⟩),
 (⟨#[97,110,100]⟩,⟨#[98,98]⟩,⟨#[98]⟩),
 (⟨#[108,101,110]⟩,⟨#[97]⟩,⟨#[105]⟩),
 (⟨#[108,111,97,100]⟩,⟨#[97,105]⟩,⟨#[105]⟩),
 (⟨#[115,116,111,114,101]⟩,⟨#[97,105,105]⟩,⟨#[]⟩),
 (⟨#[110,101,119]⟩,⟨#[105]⟩,⟨#[97]⟩),
 (⟨#[110,105,108]⟩,⟨#[]⟩,⟨#[97]⟩),
 (⟨#[111,117,116]⟩,⟨#[105]⟩,⟨#[]⟩),
 (⟨#[99,104,107,105,100,120]⟩,⟨#[97,105]⟩,⟨#[]⟩),
 (⟨#[99,104,107,110,105,108]⟩,⟨#[97]⟩,⟨#[]⟩),
 (⟨#[99,104,107,100,105,118]⟩,⟨#[105]⟩,⟨#[]⟩),
 (⟨#[99,104,107,97,100,100]⟩,⟨#[105,105]⟩,⟨#[]⟩),
 (⟨#[99,104,107,115,117,98]⟩,⟨#[105,105]⟩,⟨#[]⟩),
 (⟨#[99,104,107,109,117,108]⟩,⟨#[105,105]⟩,⟨#[]⟩),
 (⟨#[99,104,107,108,101,110]⟩,⟨#[105]⟩,⟨#[]⟩),
 (⟨#[112,105]⟩,⟨#[105,105]⟩,⟨#[105]⟩),
 (⟨#[112,105,108,101,110]⟩,⟨#[105,97]⟩,⟨#[105]⟩)]
def cE (op:Int):ByteArray × ByteArray × ByteArray:=if 0≤op then ip[op.toNat]?.getD (⟨#[]⟩,⟨#[]⟩,⟨#[]⟩) else (⟨#[]⟩,⟨#[]⟩,⟨#[]⟩)
def o7 (op:Int):Bool:=decide (0≤op)&&decide (op<27)
def AM (r:ByteArray × ByteArray × ByteArray):List AV:=[.str r.1,.str r.2.1,.str r.2.2]
theorem Df (op:Int):aF prog E 138 [.int .i64 op] (.bool (o7 op)):=by
 refine zk func138 rfl (by decide) rfl ?_
 refine ze ?_
 refine y9 rfl ?_
 refine z7 (y7 (v:=.bool _) rfl) ?_
 refine z6 ?_
 refine ze ?_
 refine y9 rfl ?_
 refine z7 (yb (v:=.int _ _) rfl) ?_
 refine z7 (qa rfl rfl) ?_
 refine z7 (yb (v:=.bool _) rfl) ?_
 refine zx (s:=5) rfl (fun c1=>?_) (fun c1=>?_)
 ·refine za rfl rfl c1 ?_
  refine z7 (yb (v:=.int _ _) rfl) ?_
  refine za rfl rfl c1 ?_
  refine z7 (Gv.lss rfl rfl) ?_
  refine z7 (Gv.pickT (v:=.bool _) rfl c1 rfl) ?_
  refine z7 (y7 (v:=.bool _) rfl) ?_
  refine z6 ?_
  refine zh ?_
  repeat (first|refine bc ?_|refine aO ?_)
  refine zm (x:=.bool _) rfl ?_
  simp_all[o7]<;>omega
 ·refine z8 rfl rfl c1 ?_
  refine z8 rfl rfl c1 ?_
  refine z7 (Gv.pickF (v:=.bool _) rfl c1 rfl) ?_
  refine z7 (y7 (v:=.bool _) rfl) ?_
  refine z6 ?_
  refine zh ?_
  repeat (first|refine bc ?_|refine aO ?_)
  refine zm (x:=.bool _) rfl ?_
  simp_all[o7]<;>omega
set_option maxHeartbeats 4000000 in
theorem ux:aF prog E 139 [] (.agg (ip.flatMap AM)):=by
 refine zk func139 rfl (by decide) rfl ?_
 refine ze ?_
 refine y9 rfl ?_
 refine zo (cs:=[.str ⟨#[]⟩,.str ⟨#[]⟩,.str ⟨#[]⟩,.str ⟨#[]⟩,.str ⟨#[]⟩,.str ⟨#[]⟩,.str ⟨#[]⟩,.str ⟨#[]⟩,.str ⟨#[]⟩,.str ⟨#[]⟩,.str ⟨#[]⟩,.str ⟨#[]⟩,.str ⟨#[]⟩,.str ⟨#[]⟩,.str ⟨#[]⟩,.str ⟨#[]⟩,.str ⟨#[]⟩,.str ⟨#[]⟩,.str ⟨#[]⟩,.str ⟨#[]⟩,.str ⟨#[]⟩,.str ⟨#[]⟩,.str ⟨#[]⟩,.str ⟨#[]⟩,.str ⟨#[]⟩,.str ⟨#[]⟩,.str ⟨#[]⟩,.str ⟨#[]⟩,.str ⟨#[]⟩,.str ⟨#[]⟩,.str ⟨#[]⟩,.str ⟨#[]⟩,.str ⟨#[]⟩,.str ⟨#[]⟩,.str ⟨#[]⟩,.str ⟨#[]⟩,.str ⟨#[]⟩,.str ⟨#[]⟩,.str ⟨#[]⟩,.str ⟨#[]⟩,.str ⟨#[]⟩,.str ⟨#[]⟩,.str ⟨#[]⟩,.str ⟨#[]⟩,.str ⟨#[]⟩,.str ⟨#[]⟩,.str ⟨#[]⟩,.str ⟨#[]⟩,.str ⟨#[]⟩,.str ⟨#[]⟩,.str ⟨#[]⟩,.str ⟨#[]⟩,.str ⟨#[]⟩,.str ⟨#[]⟩,.str ⟨#[]⟩,.str ⟨#[]⟩,.str ⟨#[]⟩,.str ⟨#[]⟩,.str ⟨#[]⟩,.str ⟨#[]⟩,.str ⟨#[]⟩,.str ⟨#[]⟩,.str ⟨#[]⟩,.str ⟨#[]⟩,.str ⟨#[]⟩,.str ⟨#[]⟩,.str ⟨#[]⟩,.str ⟨#[]⟩,.str ⟨#[]⟩,.str ⟨#[]⟩,.str ⟨#[]⟩,.str ⟨#[]⟩,.str ⟨#[]⟩,.str ⟨#[]⟩,.str ⟨#[]⟩,.str ⟨#[]⟩,.str ⟨#[]⟩,.str ⟨#[]⟩,.str ⟨#[]⟩,.str ⟨#[]⟩,.str ⟨#[]⟩]) zeroValue208 rfl rfl ?_
 intro i0
 refine z6 ?_
 refine ze ?_
 refine y9 rfl ?_
 refine z7 (zt (cps:=[(0,[_]),(1,[_]),(2,[_])]) (rs:=[_,_,_]) cQ rfl rfl rfl) ?_
 refine z7 (zt (cps:=[(0,[_]),(1,[_]),(2,[_])]) (rs:=[_,_,_]) cQ rfl rfl rfl) ?_
 refine z7 (zt (cps:=[(0,[_]),(1,[_]),(2,[_])]) (rs:=[_,_,_]) cQ rfl rfl rfl) ?_
 refine z7 (zt (cps:=[(0,[_]),(1,[_]),(2,[_])]) (rs:=[_,_,_]) cQ rfl rfl rfl) ?_
 refine z7 (zt (cps:=[(0,[_]),(1,[_]),(2,[_])]) (rs:=[_,_,_]) cQ rfl rfl rfl) ?_
 refine z7 (zt (cps:=[(0,[_]),(1,[_]),(2,[_])]) (rs:=[_,_,_]) cQ rfl rfl rfl) ?_
 refine z7 (zt (cps:=[(0,[_]),(1,[_]),(2,[_])]) (rs:=[_,_,_]) cQ rfl rfl rfl) ?_
 refine z7 (zt (cps:=[(0,[_]),(1,[_]),(2,[_])]) (rs:=[_,_,_]) cQ rfl rfl rfl) ?_
 refine z7 (zt (cps:=[(0,[_]),(1,[_]),(2,[_])]) (rs:=[_,_,_]) cQ rfl rfl rfl) ?_
 refine z7 (zt (cps:=[(0,[_]),(1,[_]),(2,[_])]) (rs:=[_,_,_]) cQ rfl rfl rfl) ?_
 refine z7 (zt (cps:=[(0,[_]),(1,[_]),(2,[_])]) (rs:=[_,_,_]) cQ rfl rfl rfl) ?_
 refine z7 (zt (cps:=[(0,[_]),(1,[_]),(2,[_])]) (rs:=[_,_,_]) cQ rfl rfl rfl) ?_
 refine z7 (zt (cps:=[(0,[_]),(1,[_]),(2,[_])]) (rs:=[_,_,_]) cQ rfl rfl rfl) ?_
 refine z7 (zt (cps:=[(0,[_]),(1,[_]),(2,[_])]) (rs:=[_,_,_]) cQ rfl rfl rfl) ?_
 refine z7 (zt (cps:=[(0,[_]),(1,[_]),(2,[_])]) (rs:=[_,_,_]) cQ rfl rfl rfl) ?_
 refine z7 (zt (cps:=[(0,[_]),(1,[_]),(2,[_])]) (rs:=[_,_,_]) cQ rfl rfl rfl) ?_
 refine z7 (zt (cps:=[(0,[_]),(1,[_]),(2,[_])]) (rs:=[_,_,_]) cQ rfl rfl rfl) ?_
 refine z7 (zt (cps:=[(0,[_]),(1,[_]),(2,[_])]) (rs:=[_,_,_]) cQ rfl rfl rfl) ?_
 refine z7 (zt (cps:=[(0,[_]),(1,[_]),(2,[_])]) (rs:=[_,_,_]) cQ rfl rfl rfl) ?_
 refine z7 (zt (cps:=[(0,[_]),(1,[_]),(2,[_])]) (rs:=[_,_,_]) cQ rfl rfl rfl) ?_
 refine z7 (zt (cps:=[(0,[_]),(1,[_]),(2,[_])]) (rs:=[_,_,_]) cQ rfl rfl rfl) ?_
 refine z7 (zt (cps:=[(0,[_]),(1,[_]),(2,[_])]) (rs:=[_,_,_]) cQ rfl rfl rfl) ?_
 refine z7 (zt (cps:=[(0,[_]),(1,[_]),(2,[_])]) (rs:=[_,_,_]) cQ rfl rfl rfl) ?_
 refine z7 (zt (cps:=[(0,[_]),(1,[_]),(2,[_])]) (rs:=[_,_,_]) cQ rfl rfl rfl) ?_
 refine z7 (zt (cps:=[(0,[_]),(1,[_]),(2,[_])]) (rs:=[_,_,_]) cQ rfl rfl rfl) ?_
 refine z7 (zt (cps:=[(0,[_]),(1,[_]),(2,[_])]) (rs:=[_,_,_]) cQ rfl rfl rfl) ?_
 refine z7 (zt (cps:=[(0,[_]),(1,[_]),(2,[_])]) (rs:=[_,_,_]) cQ rfl rfl rfl) ?_
 refine z7 (Gv.buildAF (xs:=[[_,_,_],[_,_,_],[_,_,_],[_,_,_],[_,_,_],[_,_,_],[_,_,_],[_,_,_],[_,_,_],[_,_,_],[_,_,_],[_,_,_],[_,_,_],[_,_,_],[_,_,_],[_,_,_],[_,_,_],[_,_,_],[_,_,_],[_,_,_],[_,_,_],[_,_,_],[_,_,_],[_,_,_],[_,_,_],[_,_,_],[_,_,_]]) GI rfl rfl rfl rfl) ?_
 refine ai.storeW sizeOf208 rfl rfl rfl rfl rfl rfl .head rfl ?_
 refine z6 ?_
 refine zh ?_
 repeat (first|refine bc ?_|refine aO ?_)
 refine yc rfl ⟨_,.head⟩ isAgg208 sizeOf208 rfl ?_
 rfl
theorem sq {op:Int} (h:o7 op=false):cE op=(⟨#[]⟩,⟨#[]⟩,⟨#[]⟩):=by
 unfold o7 at h
 unfold cE
 split
 ·rename_i h0
  have:¬op<27:=by simpa [h0] using h
  rw[List.getElem?_eq_none (by show 27≤_;omega)];rfl
 ·rfl
theorem Dg {op:Int} (h:o7 op=true):∃j:Nat,op=(j:Int)∧j<27∧((ip.flatMap AM).drop (j*3)).take 3=AM (cE op):=by
 unfold o7 at h
 simp at h
 obtain ⟨j,rfl⟩:∃j:Nat,op=j:=⟨op.toNat,by omega⟩
 have hj:j<27:=by omega
 refine ⟨j,rfl,hj,vS (enc:=AM) (k:=3) (fun _=>rfl) _ _ ?_⟩
 unfold cE
 rw[if_pos h.1,Int.toNat_natCast,List.getElem?_eq_getElem (show j<ip.length from hj)];rfl
theorem mO (op:Int):aF prog E 113 [.int .i64 op] (.agg (AM (cE op))):=by
 refine zk func113 rfl (by decide) rfl ?_
 refine ze ?_
 refine y9 rfl ?_
 refine zo (cs:=[.str ⟨#[]⟩,.str ⟨#[]⟩,.str ⟨#[]⟩]) zeroValue183 rfl rfl ?_
 intro i2
 refine z6 ?_
 refine ze ?_
 refine ze ?_
 refine y9 rfl ?_
 refine z7 (yb (v:=.int _ _) rfl) ?_
 refine ai.callP (Df _) rfl ?_
 refine z7 (yo rfl) ?_
 refine z6 ?_
 refine zz rfl (fun c=>?_) (fun c=>?_)
 ·have c:o7 op=false:=by simpa using c
  rw[sq c]
  refine ze ?_
  refine y9 rfl ?_
  refine z7 (zt (cps:=[]) (rs:=[.str ⟨#[]⟩,.str ⟨#[]⟩,.str ⟨#[]⟩]) cQ rfl rfl rfl) ?_
  refine ai.storeW sizeOf183 rfl rfl rfl rfl rfl rfl .head rfl ?_
  refine z6 ?_
  refine zh ?_
  repeat (first|refine bc ?_|refine aO ?_)
  refine yc rfl ⟨_,.head⟩ isAgg183 sizeOf183 rfl ?_
  rfl
 ·have c:o7 op=true:=by simpa using c
  obtain ⟨j,hj1,hj2,hj3⟩:=Dg c
  refine zi ?_
  refine ze ?_
  refine y9 rfl ?_
  refine ai.callP (ux) rfl ?_
  refine z7 (yb (v:=.int _ _) rfl) ?_
  refine z7 (Gv.indexA underlying208 isAgg183 sizeOf183 rfl rfl hj1 hj2 hj3) ?_
  refine ai.storeW sizeOf183 rfl rfl rfl rfl rfl rfl .head rfl ?_
  refine z6 ?_
  refine zh ?_
  repeat (first|refine bc ?_|refine aO ?_)
  refine yc rfl ⟨_,.head⟩ isAgg183 sizeOf183 rfl ?_
  rfl
theorem x9 (op:Int):aF prog E 111 [.int .i64 op] (.str (cE op).1):=by
 refine zk func111 rfl (by decide) rfl ?_
 refine ze ?_
 refine y9 rfl ?_
 refine z7 (y7 (v:=.str _) rfl) ?_
 refine z6 ?_
 refine ze ?_
 refine y9 rfl ?_
 refine z7 (yb (v:=.int _ _) rfl) ?_
 refine ai.callP (mO _) rfl ?_
 refine z7 (Gv.field1 (v:=.str _) underlying183 rfl isAgg9 rfl rfl) ?_
 refine z7 (y7 (v:=.str _) rfl) ?_
 refine z6 ?_
 refine zh ?_
 repeat (first|refine bc ?_|refine aO ?_)
 refine zm (x:=.str _) rfl ?_
 rfl
def nt (op:Int):Bool:=decide (op=0)||decide (op=25)
theorem fg (op:Int):aF prog E 112 [.int .i64 op] (.bool (nt op)):=by
 refine zk func112 rfl (by decide) rfl ?_
 refine ze ?_
 refine y9 rfl ?_
 refine z7 (y7 (v:=.bool _) rfl) ?_
 refine z6 ?_
 refine ze ?_
 refine y9 rfl ?_
 refine z7 (yb (v:=.int _ _) rfl) ?_
 refine z7 (Gv.eqlI rfl rfl) ?_
 refine z7 (yb (v:=.bool _) rfl) ?_
 refine zx (s:=5) rfl (fun c2=>?_) (fun c2=>?_)
 ·refine z8 rfl rfl c2 ?_
  refine z8 rfl rfl c2 ?_
  refine z7 (Gv.pickT (v:=.bool _) rfl c2 rfl) ?_
  refine z7 (y7 (v:=.bool _) rfl) ?_
  refine z6 ?_
  refine zh ?_
  repeat (first|refine bc ?_|refine aO ?_)
  refine zm (x:=.bool _) rfl ?_
  simp_all[nt]
 ·refine za rfl rfl c2 ?_
  refine z7 (yb (v:=.int _ _) rfl) ?_
  refine za rfl rfl c2 ?_
  refine z7 (Gv.eqlI rfl rfl) ?_
  refine z7 (Gv.pickF (v:=.bool _) rfl c2 rfl) ?_
  refine z7 (y7 (v:=.bool _) rfl) ?_
  refine z6 ?_
  refine zh ?_
  repeat (first|refine bc ?_|refine aO ?_)
  refine zm (x:=.bool _) rfl ?_
  simp_all[nt]
def iQ (c:Int):Int:=if c=98 then 1 else if c=97 then 2 else 0
theorem nu (c:Int):aF prog E 114 [.int .i32 c] (.int .i64 (iQ c)):=by
 refine zk func114 rfl (by decide) rfl ?_
 refine ze ?_
 refine y9 rfl ?_
 refine z7 (y7 (v:=.int _ _) rfl) ?_
 refine z6 ?_
 refine ze ?_
 refine ze ?_
 refine y9 rfl ?_
 refine z7 (yb (v:=.int _ _) rfl) ?_
 refine z6 ?_
 refine zj ?_
 refine ze ?_
 refine y9 rfl ?_
 refine z7 (Gv.eqlI rfl rfl) ?_
 refine z7 (y7 (v:=.bool _) rfl) ?_
 refine z6 ?_
 refine zz rfl (fun c3=>?_) (fun c3=>?_)
 ·refine ze ?_
  refine y9 rfl ?_
  refine z7 (y7 (v:=.int _ _) rfl) ?_
  refine z6 ?_
  refine zh ?_
  repeat (first|refine bc ?_|refine aO ?_)
  refine zm (x:=.int _ _) rfl ?_
  simp_all[iQ]
 ·refine ze ?_
  refine y9 rfl ?_
  refine z7 (Gv.eqlI rfl rfl) ?_
  refine z7 (y7 (v:=.bool _) rfl) ?_
  refine z6 ?_
  refine zz rfl (fun c4=>?_) (fun c4=>?_)
  ·refine ze ?_
   refine y9 rfl ?_
   refine z7 (y7 (v:=.int _ _) rfl) ?_
   refine z6 ?_
   refine zh ?_
   repeat (first|refine bc ?_|refine aO ?_)
   refine zm (x:=.int _ _) rfl ?_
   simp_all[iQ]
  ·refine zi ?_
   refine ze ?_
   refine y9 rfl ?_
   refine z7 (y7 (v:=.int _ _) rfl) ?_
   refine z6 ?_
   refine zh ?_
   repeat (first|refine bc ?_|refine aO ?_)
   refine zm (x:=.int _ _) rfl ?_
   simp_all[iQ]
theorem AN:∀r∈ip,(∀b∈r.2.1.data.toList,b<128)∧(∀b∈r.2.2.data.toList,b<128):=by decide
theorem kT (op:Int):cE op=(⟨#[]⟩,⟨#[]⟩,⟨#[]⟩)∨cE op∈ip:=by
 unfold cE
 split
 ·cases h:ip[op.toNat]? with
  |none=>exact .inl rfl
  |some r=>exact .inr (List.mem_of_getElem? h)
 ·exact .inl rfl
theorem nw (op:Int):(∀b∈(cE op).2.1.data.toList,b<128)∧(∀b∈(cE op).2.2.data.toList,b<128):=by
 rcases kT op with h|h
 ·rw[h];simp
 ·exact AN _ h
def bu (op:Int):List Int:=(cE op).2.1.data.toList.map fun b=>iQ b.toNat
def qF (op:Int):Int:=((cE op).2.2.data.toList.head?.map fun b=>iQ b.toNat).getD 0
def eX (op:Int):Bool:=!(cE op).2.2.data.toList.isEmpty
end
section
open Go.Proofs.Tryz
open Go.Proofs
theorem Dh:dt prog 149 38 1 1 [.int .i64 0]:=⟨_,underlying149,sizeOf38,zeroValue38,by decide,by decide,by kernel_rfl⟩
variable {E:World}
set_option maxRecDepth 20000
structure AO where
 name:ByteArray
 ty:Int
deriving DecidableEq
structure dY where
 dst:Int
 args:List Int
 from_:List Int
deriving DecidableEq
structure bg where
 op:Int
 dst:Int
 args:List Int
 num:Int
deriving DecidableEq
structure fB where
 kind:Int
 var:Int
 to0:Int
 to1:Int
deriving DecidableEq
structure aW where
 name:ByteArray
 phis:List dY
 insts:List bg
 term:fB
deriving DecidableEq
structure ac where
 vars:List AO
 params:List Int
 blocks:List aW
deriving DecidableEq
def eE (x:Int):List AV:=[.int .i64 x]
def uy (v:AO):List AV:=[.str v.name,.int .i64 v.ty]
def eY (p:dY):List AV:=[.int .i64 p.dst,.fro 1 (p.args.map eE),.fro 1 (p.from_.map eE)]
def d8 (x:bg):List AV:=[.int .i64 x.op,.int .i64 x.dst,.fro 1 (x.args.map eE),.int .i64 x.num]
def qG (t:fB):List AV:=[.int .i64 t.kind,.int .i64 t.var,.int .i64 t.to0,.int .i64 t.to1]
def uz (b:aW):List AV:=[.str b.name,.fro 3 (b.phis.map eY),.fro 4 (b.insts.map d8),.int .i64 b.term.kind,.int .i64 b.term.var,.int .i64 b.term.to0,.int .i64 b.term.to1]
def b9 (f:ac):List AV:=[.fro 2 (f.vars.map uy),.fro 1 (f.params.map eE),.fro 7 (f.blocks.map uz)]
theorem ny (op:Int):aF prog E 89 [.int .i64 op] (.fro 1 ((bu op).map eE)):=by
 obtain ⟨hasc,_⟩:=nw op
 have hl:(bu op).length=(cE op).2.1.size:=by unfold bu;rw[List.length_map];exact Array.length_toList
 have hlen:(bu op).length≤3:=by
  rcases kT op with h|h
  ·unfold bu;rw[h];decide
  ·have:∀r∈ip,r.2.1.data.toList.length≤3:=by decide
   have:=this _ h
   unfold bu;simpa using this
 refine zk func89 rfl (by decide) rfl ?_
 refine ze ?_
 refine y9 rfl ?_
 refine z7 (y7 (v:=.raw _) rfl) ?_
 refine z6 ?_
 refine ze ?_
 refine y9 rfl ?_
 refine z7 (y7 (v:=.raw _) rfl) ?_
 refine z6 ?_
 refine iP (t:=3) (k:=1) (T:=38) rfl ?_
 intro i3
 refine ze ?_
 refine ze ?_
 refine y9 rfl ?_
 refine z7 (yb (v:=.int _ _) rfl) ?_
 refine ai.callP (mO _) rfl ?_
 refine z7 (Gv.field1 (v:=.str _) underlying183 rfl isAgg9 rfl rfl) ?_
 refine ai.rangeT underlying9 rfl ?_
 intro i9
 refine z6 ?_
 refine zj ?_
 refine ya (γ:=Nat × Nat) [9] (fun g=>[(3,.own g.2 g.1)]) (fun g=>[(i9,.iter (cE op).2.1 g.1),(g.2,.grow 1 38 (((bu op).take g.1).map eE).flatten)]) (fun g=>g.1≤(bu op).length) (fun g=>(bu op).length - g.1) (0,i3) ⟨rfl,trivial⟩ ⟨_,(.refl _),rfl⟩ (Nat.zero_le _) ?_
 rintro ⟨p,i⟩ hp
 try dsimp only at *
 try simp only at hp
 by_cases hlt:p<(bu op).length
 ·have hb:p<(cE op).2.1.data.toList.length:=by rw[hl] at hlt;exact hlt
  have hg:(cE op).2.1.data[p]?=some (cE op).2.1.data.toList[p]:=by rw[Array.getElem_toList];exact Array.getElem?_eq_getElem hb
  refine ze ?_
  refine y9 rfl ?_
  refine ai.nextA rfl hg (hasc _ (List.getElem_mem hb)) .head ?_
  refine z7 (q4 (v:=.bool _) rfl rfl) ?_
  refine z6 ?_
  refine ze ?_
  refine yq rfl rfl ?_
  have ht:(bu op).take (p+1)=(bu op).take p++[iQ ((cE op).2.1.data.toList[p]).toNat]:=by
   rw[List.take_succ_eq_append_getElem hlt]
   have:(bu op)[p]=iQ ((cE op).2.1.data.toList[p]).toNat:=List.getElem_map _
   rw[this]
  refine zi ?_
  refine zj ?_
  refine ze ?_
  refine y9 rfl ?_
  refine z7 (q4 (v:=.int _ _) rfl rfl) ?_
  refine z7 (y7 (v:=.int _ _) rfl) ?_
  refine z6 ?_
  refine y9 rfl ?_
  refine z7 (yb (v:=.own _ _) rfl) ?_
  refine z7 (yb (v:=.int _ _) rfl) ?_
  refine ai.callP (nu _) rfl ?_
  refine ai.buildSliceFF (rows:=[[_]]) Dh rfl rfl rfl rfl rfl ?_
  refine ai.appendS (k:=1) underlying149 type38 rfl rfl rfl rfl rfl (fun _=>(.tail .head)) (by rw[kS (k:=1) (fun _=>rfl),List.length_take,Nat.min_eq_left hp]) (by decide) rfl (by show (_+_)*8≤_;simp<;>omega) (by simp<;>omega) ?_
  intro i17
  refine z7 (y7 (v:=.own _ _) rfl) ?_
  refine z6 ?_
  exact ⟨(p+1,i17),⟨rfl,trivial⟩,⟨rfl,trivial⟩,⟨_,(.refl _),by rw[←jN ht];rfl⟩,hlt,by simp only;omega⟩
 ·refine ze ?_
  refine y9 rfl ?_
  refine ai.nextTover rfl .head (by rw[←hl];exact hlt) ?_
  refine z7 (q4 (v:=.bool _) rfl rfl) ?_
  refine z6 ?_
  refine ze ?_
  refine yn rfl rfl ?_
  have hkn:p=(bu op).length:=by omega
  subst hkn
  rw[List.take_length]
  refine y8 ?_
  refine ze ?_
  refine y9 rfl ?_
  refine z7 (yb (v:=.own _ _) rfl) ?_
  refine z7 (y7 (v:=.own _ _) rfl) ?_
  refine z6 ?_
  refine zh ?_
  repeat (first|refine bc ?_|refine aO ?_)
  refine aN.fin (aN.know (t:=2) (rows:=(bu op).map eE) rfl (.tail .head) (by first|(intro r hr;obtain ⟨x,_,rfl⟩:=List.mem_map.1 hr;rfl)|simp[eE,uy,eY,d8,uz]) (by decide) (by simp)) ?_
  refine zm (x:=.fro _ _) rfl ?_
  rfl
theorem nz (op:Int):aF prog E 90 [.int .i64 op] (.tup [.int .i64 (qF op),.bool (eX op)]):=by
 obtain ⟨_,hasc⟩:=nw op
 refine zk func90 rfl (by decide) rfl ?_
 refine ze ?_
 refine y9 rfl ?_
 refine z7 (y7 (v:=.int _ _) rfl) ?_
 refine z7 (y7 (v:=.bool _) rfl) ?_
 refine z6 ?_
 refine ze ?_
 refine ze ?_
 refine y9 rfl ?_
 refine z7 (yb (v:=.int _ _) rfl) ?_
 refine ai.callP (mO _) rfl ?_
 refine z7 (Gv.field1 (v:=.str _) underlying183 rfl isAgg9 rfl rfl) ?_
 refine ai.rangeT underlying9 rfl ?_
 intro i9
 refine z6 ?_
 refine zj ?_
 refine ya (γ:=Unit) [9] (fun g=>[]) (fun g=>[(i9,.iter (cE op).2.2 0)]) (fun g=>True) (fun g=>0) () trivial ⟨_,(.refl _),rfl⟩ (trivial) ?_
 rintro _ _
 by_cases hlt:∃c0 tl,(cE op).2.2.data.toList=c0::tl
 ·obtain ⟨c0,tl,hk⟩:=hlt
  have hg:(cE op).2.2.data[0]?=some c0:=by rw[←Array.getElem?_toList,hk];rfl
  refine ze ?_
  refine y9 rfl ?_
  refine ai.nextA rfl hg (hasc _ (by rw[hk];exact .head _)) .head ?_
  refine z7 (q4 (v:=.bool _) rfl rfl) ?_
  refine z6 ?_
  refine ze ?_
  refine yq rfl rfl ?_
  refine zi ?_
  refine zj ?_
  refine ze ?_
  refine y9 rfl ?_
  refine z7 (q4 (v:=.int _ _) rfl rfl) ?_
  refine z7 (y7 (v:=.int _ _) rfl) ?_
  refine z6 ?_
  refine ze ?_
  refine y9 rfl ?_
  refine z7 (yb (v:=.int _ _) rfl) ?_
  refine ai.callP (nu _) rfl ?_
  refine z7 (y7 (v:=.int _ _) rfl) ?_
  refine z7 (y7 (v:=.bool _) rfl) ?_
  refine z6 ?_
  refine zh ?_
  repeat (first|refine bc ?_|refine aO ?_)
  refine dB.t2 (x:=.int _ _) (y:=.bool _) rfl rfl ?_
  unfold qF eX;rw[hk];rfl
 ·have hk:(cE op).2.2.data.toList=[]:=by
   cases h:(cE op).2.2.data.toList with
   |nil=>rfl
   |cons x l=>exact absurd ⟨x,l,h⟩ hlt
  refine ze ?_
  refine y9 rfl ?_
  refine ai.nextTover rfl .head (by show ¬0<(cE op).2.2.data.size;rw[←Array.length_toList,hk];decide) ?_
  refine z7 (q4 (v:=.bool _) rfl rfl) ?_
  refine z6 ?_
  refine ze ?_
  refine yn rfl rfl ?_
  refine y8 ?_
  refine ze ?_
  refine y9 rfl ?_
  refine z7 (y7 (v:=.int _ _) rfl) ?_
  refine z7 (y7 (v:=.bool _) rfl) ?_
  refine z6 ?_
  refine zh ?_
  repeat (first|refine bc ?_|refine aO ?_)
  refine dB.t2 (x:=.int _ _) (y:=.bool _) rfl rfl ?_
  unfold qF eX;rw[hk];rfl
def cA (f:ac) (v:Int):Bool:=decide (0≤v)&&decide (v<f.vars.length)
def iR (f:ac) (b:Int):Bool:=decide (0≤b)&&decide (b<f.blocks.length)
theorem iS (f:ac) (v:Int):aF prog E 107 [.agg (b9 f),.int .i64 v] (.bool (cA f v)):=by
 refine zk func107 rfl (by decide) rfl ?_
 refine ze ?_
 refine y9 rfl ?_
 refine zy (cs:=_) rfl rfl rfl ?_
 refine z7 (y7 (v:=.bool _) rfl) ?_
 refine z6 ?_
 refine ze ?_
 refine y9 rfl ?_
 refine z7 (yb (v:=.int _ _) rfl) ?_
 refine z7 (qa rfl rfl) ?_
 refine z7 (yb (v:=.bool _) rfl) ?_
 refine zx (s:=7) rfl (fun c1=>?_) (fun c1=>?_)
 ·refine za rfl rfl c1 ?_
  refine z7 (yb (v:=.int _ _) rfl) ?_
  refine za rfl rfl c1 ?_
  refine z7 (Gv.fieldF underlying27 rfl sizeOf23 (by decide) rfl rfl) ?_
  refine za rfl rfl c1 ?_
  refine z7 (q7 (c:=.fro _ _) isAgg23 rfl) ?_
  refine za rfl rfl c1 ?_
  refine z7 (Gv.lenM underlying23 rfl) ?_
  refine za rfl rfl c1 ?_
  refine z7 (Gv.lss rfl rfl) ?_
  refine z7 (Gv.pickT (v:=.bool _) rfl c1 rfl) ?_
  refine z7 (y7 (v:=.bool _) rfl) ?_
  refine z6 ?_
  refine zh ?_
  repeat (first|refine bc ?_|refine aO ?_)
  refine zm (x:=.bool _) rfl ?_
  simp_all[cA]<;>omega
 ·refine z8 rfl rfl c1 ?_
  refine z8 rfl rfl c1 ?_
  refine z8 rfl rfl c1 ?_
  refine z8 rfl rfl c1 ?_
  refine z8 rfl rfl c1 ?_
  refine z7 (Gv.pickF (v:=.bool _) rfl c1 rfl) ?_
  refine z7 (y7 (v:=.bool _) rfl) ?_
  refine z6 ?_
  refine zh ?_
  repeat (first|refine bc ?_|refine aO ?_)
  refine zm (x:=.bool _) rfl ?_
  simp_all[cA]<;>omega
theorem mP (f:ac) (v:Int):aF prog E 110 [.agg (b9 f),.int .i64 v] (.bool (iR f v)):=by
 refine zk func110 rfl (by decide) rfl ?_
 refine ze ?_
 refine y9 rfl ?_
 refine zy (cs:=_) rfl rfl rfl ?_
 refine z7 (y7 (v:=.bool _) rfl) ?_
 refine z6 ?_
 refine ze ?_
 refine y9 rfl ?_
 refine z7 (yb (v:=.int _ _) rfl) ?_
 refine z7 (qa rfl rfl) ?_
 refine z7 (yb (v:=.bool _) rfl) ?_
 refine zx (s:=7) rfl (fun c2=>?_) (fun c2=>?_)
 ·refine za rfl rfl c2 ?_
  refine z7 (yb (v:=.int _ _) rfl) ?_
  refine za rfl rfl c2 ?_
  refine z7 (Gv.fieldF underlying27 rfl sizeOf25 (by decide) rfl rfl) ?_
  refine za rfl rfl c2 ?_
  refine z7 (q7 (c:=.fro _ _) isAgg25 rfl) ?_
  refine za rfl rfl c2 ?_
  refine z7 (Gv.lenM underlying25 rfl) ?_
  refine za rfl rfl c2 ?_
  refine z7 (Gv.lss rfl rfl) ?_
  refine z7 (Gv.pickT (v:=.bool _) rfl c2 rfl) ?_
  refine z7 (y7 (v:=.bool _) rfl) ?_
  refine z6 ?_
  refine zh ?_
  repeat (first|refine bc ?_|refine aO ?_)
  refine zm (x:=.bool _) rfl ?_
  simp_all[iR]<;>omega
 ·refine z8 rfl rfl c2 ?_
  refine z8 rfl rfl c2 ?_
  refine z8 rfl rfl c2 ?_
  refine z8 rfl rfl c2 ?_
  refine z8 rfl rfl c2 ?_
  refine z7 (Gv.pickF (v:=.bool _) rfl c2 rfl) ?_
  refine z7 (y7 (v:=.bool _) rfl) ?_
  refine z6 ?_
  refine zh ?_
  repeat (first|refine bc ?_|refine aO ?_)
  refine zm (x:=.bool _) rfl ?_
  simp_all[iR]<;>omega
def bF {α:Type} (p:α→Bool):List α→Nat→Int
 |[],_=>-1
 |x::xs,k=>if p x then k else bF p xs (k+1)
theorem ej {α:Type} (p:α→Bool):∀(xs:List α) (k:Nat),decide (0≤bF p xs k)=xs.any p
 |[],k=>rfl
 |x::xs,k=>by
  unfold bF
  rw[List.any_cons]
  split
  ·rename_i h;rw[h];simp
  ·rename_i h;simp[h,ej p xs (k+1)]
theorem bv {α:Type} (p:α→Bool):∀(xs:List α) (k:Nat),k≤xs.length→(xs.take k).all (fun x=>!p x)=true→bF p xs 0=bF p (xs.drop k) k
 |_,0,_,_=>rfl
 |xs,k+1,h,hall=>by
  rw[List.take_succ_eq_append_getElem (by omega),List.all_append] at hall
  simp only[Bool.and_eq_true,List.all_cons,List.all_nil,Bool.and_true] at hall
  rw[bv p xs k (by omega) hall.1,List.drop_eq_getElem_cons (by omega)]
  rw[bF]
  rw[if_neg (by simpa using hall.2)]
theorem my {p:Int→Bool} {fn:FuncId} {c:List AV} (xs:List Int) (hl:xs.length≤281474976710656) (hp:∀x,aF prog E fn ([.int .i64 x]++c) (.bool (p x))) :
  aF prog E 103 [.fro 1 (xs.map eE),.fn fn [] c] (.int .i64 (bF p xs 0)):=by
 refine zk func103 rfl (by decide) rfl ?_
 refine ze ?_
 refine y9 rfl ?_
 refine z7 (y7 (v:=.int _ _) rfl) ?_
 refine z6 ?_
 refine ze ?_
 refine ze ?_
 refine y9 rfl ?_
 refine z7 (yb (v:=.fro _ _) rfl) ?_
 refine z7 (Gv.lenM underlying24 rfl) ?_
 refine z7 (yb (v:=.int _ _) rfl) ?_
 refine z6 ?_
 refine zj ?_
 refine ya (γ:=Nat) [0,1,7] (fun k=>[(8,.int .i64 k)]) (fun k=>[]) (fun k=>k≤xs.length∧(xs.take k).all (fun x=>!p x)) (fun k=>xs.length - k) 0 ⟨rfl,trivial⟩ ⟨_,(.refl _),rfl⟩ (⟨Nat.zero_le _,rfl⟩) ?_
 rintro k ⟨hk,hall⟩
 refine ze ?_
 refine y9 rfl ?_
 refine z7 (Gv.lss rfl rfl) ?_
 refine z6 ?_
 refine ze ?_
 refine zp rfl (fun ck=>?_) (fun ck=>?_)
 ·have hk2:k<xs.length:=by omega
  refine zi ?_
  refine ze ?_
  refine zj ?_
  refine ze ?_
  refine y9 rfl ?_
  refine z7 (yb (v:=.int _ _) rfl) ?_
  refine z7 (y7 (v:=.int _ _) rfl) ?_
  refine z6 ?_
  refine ze ?_
  refine y9 rfl ?_
  refine z7 (yb (v:=.fn _ _ _) rfl) ?_
  refine z7 (yb (v:=.fro _ _) rfl) ?_
  refine z7 (yb (v:=.int _ _) rfl) ?_
  refine z7 (Gv.idxM underlying24 sizeOf3 rfl rfl rfl (List.getElem?_eq_getElem (by omega))) ?_
  refine z7 (q7 (c:=.int _ _) isAgg3 rfl) ?_
  refine ai.callVP rfl (hp _) rfl ?_
  refine z6 ?_
  refine zz rfl (fun cp=>?_) (fun cp=>?_)
  ·refine ze ?_
   refine y9 rfl ?_
   refine z7 (yb (v:=.int _ _) rfl) ?_
   refine z7 (y7 (v:=.int _ _) rfl) ?_
   refine z6 ?_
   refine zh ?_
   repeat (first|refine bc ?_|refine aO ?_)
   refine zm (x:=.int _ _) rfl ?_
   rw[bv p xs k hk hall,List.drop_eq_getElem_cons hk2,bF,if_pos cp]
  ·refine zi ?_
   refine y9 rfl ?_
   refine z7 (Gv.add rfl rfl (by unfold pq;omega)) ?_
   refine z7 (yb (v:=.int _ _) rfl) ?_
   refine z6 ?_
   exact ⟨k+1,⟨rfl,rfl,rfl,trivial⟩,⟨rfl,trivial⟩,⟨_,(.refl _),rfl⟩,⟨hk2,by rw[List.take_succ_eq_append_getElem hk2,List.all_append,hall];simp[cp]⟩,by omega⟩
 ·have hkn:k=xs.length:=by omega
  refine y8 ?_
  refine ze ?_
  refine y9 rfl ?_
  refine z7 (y7 (v:=.int _ _) rfl) ?_
  refine z6 ?_
  refine zh ?_
  repeat (first|refine bc ?_|refine aO ?_)
  refine zm (x:=.int _ _) rfl ?_
  rw[bv p xs k hk hall,hkn,List.drop_length,bF]
theorem fP {p:Int→Bool} {fn:FuncId} {c:List AV} (xs:List Int) (hl:xs.length≤281474976710656) (hp:∀x,aF prog E fn ([.int .i64 x]++c) (.bool (p x))) :
  aF prog E 77 [.fro 1 (xs.map eE),.fn fn [] c] (.bool (xs.any p)):=by
 refine zk func77 rfl (by decide) rfl ?_
 refine ze ?_
 refine y9 rfl ?_
 refine z7 (y7 (v:=.bool _) rfl) ?_
 refine z6 ?_
 refine ze ?_
 refine y9 rfl ?_
 refine z7 (yb (v:=.fro _ _) rfl) ?_
 refine z7 (yb (v:=.fn _ _ _) rfl) ?_
 refine ai.callP (my xs hl hp) rfl ?_
 refine z7 (qa rfl rfl) ?_
 refine z7 (y7 (v:=.bool _) rfl) ?_
 refine z6 ?_
 refine zh ?_
 repeat (first|refine bc ?_|refine aO ?_)
 refine zm (x:=.bool _) rfl ?_
 rw[ej]
theorem uA (f:ac) (v:Int):aF prog E 137 ([.int .i64 v]++[.pf (b9 f)]) (.bool (!cA f v)):=by
 refine zk func137 rfl (by decide) rfl ?_
 refine ze ?_
 refine y9 rfl ?_
 refine z7 (y7 (v:=.bool _) rfl) ?_
 refine z6 ?_
 refine ze ?_
 refine y9 rfl ?_
 refine z7 (yl isAgg27 sizeOf27 rfl rfl) ?_
 refine z7 (yb (v:=.int _ _) rfl) ?_
 refine ai.callP (iS _ _) rfl ?_
 refine z7 (yo rfl) ?_
 refine z7 (y7 (v:=.bool _) rfl) ?_
 refine z6 ?_
 refine zh ?_
 repeat (first|refine bc ?_|refine aO ?_)
 refine zm (x:=.bool _) rfl ?_
 rfl
theorem px (f:ac) (l:List Int) (hl:l.length≤281474976710656):aF prog E 108 [.agg (b9 f),.fro 1 (l.map eE)] (.bool (l.all (cA f))):=by
 refine zk func108 rfl (by decide) rfl ?_
 refine ze ?_
 refine y9 rfl ?_
 refine zy (cs:=_) rfl rfl rfl ?_
 refine z7 (y7 (v:=.bool _) rfl) ?_
 refine z6 ?_
 refine ze ?_
 refine y9 rfl ?_
 refine z7 (yb (v:=.fro _ _) rfl) ?_
 refine z7 (Gv.func rfl rfl) ?_
 refine ai.callP (fP l hl (uA f)) rfl ?_
 refine z7 (yo rfl) ?_
 refine z7 (y7 (v:=.bool _) rfl) ?_
 refine z6 ?_
 refine zh ?_
 repeat (first|refine bc ?_|refine aO ?_)
 refine zm (x:=.bool _) rfl ?_
 rw[List.any_eq_not_all_not];simp
end
section
open Go.Proofs.Tryz
def co (t:fB):List Int:=if t.kind=0 then[t.to0] else if t.kind=1 then (if t.to0=t.to1 then[t.to0] else[t.to0,t.to1]) else[]
theorem py (t:fB):(co t).length≤2:=by unfold co;split<;>(try split)<;>(try split)<;>simp
theorem sr (t:fB):(co t).Nodup:=by
 unfold co
 split
 ·simp
 ·split
  ·split<;>simp_all
  ·simp
def ah (f:ac) (b:Int):List Int:=if 0≤b then ((f.blocks[b.toNat]?).map fun c=>co c.term).getD [] else[]
theorem uB {f:ac} {k:Nat} (h:k<f.blocks.length):ah f (k:Int)=co f.blocks[k].term:=by
 unfold ah;rw[if_pos (by omega)]
 rw[show ((k:Int).toNat)=k from rfl,List.getElem?_eq_getElem h];rfl
theorem nA {f:ac} {b:Int} (h0:0≤b) (h:b.toNat<f.blocks.length):ah f b=co f.blocks[b.toNat].term:=by
 unfold ah;rw[if_pos h0,List.getElem?_eq_getElem h];rfl
theorem uC {f:ac} {b:Int} (h:¬(0≤b∧b<f.blocks.length)):ah f b=[]:=by
 unfold ah
 split
 ·rw[List.getElem?_eq_none (by omega)];rfl
 ·rfl
theorem nB (f:ac) (b:Int):(ah f b).length≤2:=by
 unfold ah
 split
 ·cases f.blocks[b.toNat]? with
  |none=>simp
  |some c=>exact py c.term
 ·simp
theorem qH (f:ac) (b:Int):(ah f b).Nodup:=by
 unfold ah
 split
 ·cases f.blocks[b.toNat]? with
  |none=>simp
  |some c=>exact sr c.term
 ·simp
structure ef (f:ac):Prop where
 pos:0<f.blocks.length
 rng:∀b∈f.blocks,∀c∈co b.term,0≤c∧c<f.blocks.length
theorem ef.grph {f:ac} (h:ef f):gA (ah f) f.blocks.length:=
 {npos:=h.pos
  rng:=fun b h0 h1 c hc=>by
   rw[nA h0 (by omega)] at hc
   exact h.rng _ (List.getElem_mem (by omega)) c hc
  len:=nB f
  out:=fun _ hx=>uC hx }
theorem qI {E:Int→List Int} (hn:∀b,(E b).Nodup) (n:Nat) (b:Int):(bl E n b).Nodup∧(bl E n b).Pairwise (·<·):=by
 have key:(bl E n b).Pairwise (·<·):=by
  unfold bl
  rw[List.flatMap,List.pairwise_flatten]
  constructor
  ·intro l hl
   obtain ⟨i,_,rfl⟩:=List.mem_map.1 hl
   have h1:=hn i
   have h2:((E i).filter fun c=>decide (c=b)).length≤1:=by
    generalize E i=l at h1
    induction l with
    |nil=>simp
    |cons x l ih=>
     rw[List.nodup_cons] at h1
     rw[List.filter_cons]
     split
     ·rename_i hx
      have hx:x=b:=by simpa using hx
      have:l.filter (fun c=>decide (c=b))=[]:=List.filter_eq_nil_iff.2 fun y hy=>by
       intro e
       have:y=b:=by simpa using e
       rw[←hx] at this
       exact h1.1 (this▸hy)
      rw[this];simp
     ·exact ih h1.2
   match h3:((E i).filter fun c=>decide (c=b)) with
   |[]=>simp
   |[x]=>simp
   |x::y::r=>rw[h3] at h2;simp at h2
  ·rw[List.pairwise_map]
   unfold ee
   rw[List.pairwise_map]
   refine List.Pairwise.imp ?_ List.pairwise_lt_range
   intro i j hij x hx y hy
   obtain ⟨_,_,rfl⟩:=List.mem_map.1 hx
   obtain ⟨_,_,rfl⟩:=List.mem_map.1 hy
   exact Int.ofNat_lt.2 hij
 exact ⟨key.imp fun h e=>by omega,key⟩
abbrev lX:=Int × Int
def kU (v:Int) (i:Int) (b:aW):List lX:=(b.phis.filter fun p=>decide (p.dst=v)).map (fun _=>(i,-1))++(b.insts.zipIdx.filter fun x=>decide (x.1.dst=v)).map fun x=>(i,(x.2:Int))
def bn (f:ac) (v:Int):List lX:=f.blocks.zipIdx.flatMap fun b=>kU v (b.2:Int) b.1
def aZ (f:ac) (v:Int):lX:=(bn f v).head?.getD (-1,0)
def lY (f:ac):Prop:=∀v:Nat,v<f.vars.length→(bn f v).length≤1∧(bn f v≠[]→f.params.length≤v)
def EH (f:ac):Prop:=∀i (h:i<f.blocks.length),∀p∈f.blocks[i].phis,p.from_.Perm (bl (ah f) f.blocks.length i)
def pz (f:ac) (b:Int):Int:=((f.blocks[b.toNat]?).map fun c=>(c.insts.length:Int)).getD 0
end
section
open Go.Proofs.Tryz
def iq (l:List Int):List Int:=l.mergeSort fun x y=>decide (x≤y)
theorem dC (l:List Int):(iq l).Perm l:=List.mergeSort_perm l _
theorem qJ (l:List Int):(iq l).Pairwise (·≤·):=by
 have:=List.pairwise_mergeSort (le:=fun x y:Int=>decide (x≤y)) (fun a b c h1 h2=>by simp at *;omega) (fun a b=>by simp;omega) l
 exact this.imp fun h=>by simpa using h
theorem AP {l m:List Int} (hm:m.Pairwise (·<·)):iq l=m↔l.Perm m:=by
 constructor
 ·intro h;rw[←h];exact (dC l).symm
 ·intro h
  exact List.Perm.eq_of_pairwise (le:=fun a b:Int=>a≤b) (fun a b _ _ h1 h2=>Int.le_antisymm h1 h2) (qJ l) (hm.imp fun h=>Int.le_of_lt h) ((dC l).trans h)
theorem pA {f:ac} {i:Nat} {l:List Int}:iq l=bl (ah f) f.blocks.length i↔l.Perm (bl (ah f) f.blocks.length i):=AP (qI (qH f) f.blocks.length i).2
end
section
open Go.Proofs.Tryz
def nC (l:List Bool) (bs:List Int):List Bool:=bs.foldl (fun l b=>l.set b.toNat true) l
theorem gB:∀(bs:List Int) (l:List Bool),(nC l bs).length=l.length
 |[],_=>rfl
 |b::bs,l=>by show (nC (l.set b.toNat true) bs).length=_;rw[gB bs,List.length_set]
theorem uD (l:List Bool) (bs:List Int) (b:Int):nC l (bs++[b])=(nC l bs).set b.toNat true:=by unfold nC;rw[List.foldl_append];rfl
def km (E:Int→List Int) (n:Nat):List Bool:=nC (List.replicate n false) (ap E n)
theorem uE (E:Int→List Int) (n:Nat):(km E n).length=n:=by unfold km;rw[gB];simp
def Fe (f:ac) (i:Nat) (p:dY):Bool:=decide (iq p.from_=bl (ah f) f.blocks.length i)
def Di (f:ac) (i:Nat):Bool:=((f.blocks[i]?).map fun b=>b.phis.all (Fe f i)).getD true
def df (f:ac):Bool:=(List.range f.blocks.length).all (Di f)
theorem mQ {f:ac} {i:Nat} {b:aW} (h:f.blocks[i]?=some b):Di f i=b.phis.all (Fe f i):=by unfold Di;rw[h];rfl
theorem su (f:ac):df f=true↔EH f:=by
 unfold df EH
 rw[List.all_eq_true]
 constructor
 ·intro h i hi p hp
  have:=h i (List.mem_range.2 hi)
  rw[mQ (List.getElem?_eq_getElem hi),List.all_eq_true] at this
  exact pA.1 (by simpa [Fe] using this p hp)
 ·intro h i hi
  have hi:=List.mem_range.1 hi
  rw[mQ (List.getElem?_eq_getElem hi),List.all_eq_true]
  intro p hp
  simpa [Fe] using pA.2 (h i hi p hp)
theorem eF {p:Nat→Bool} {k:Nat} (h:(List.range k).all p=true) (hk:p k=true):(List.range (k+1)).all p=true:=by rw[List.range_succ,List.all_append,h];simp[hk]
theorem fh {p:Nat→Bool} {k n:Nat} (hk:k<n) (h:p k=false):(List.range n).all p=false:=by
 rw[Bool.eq_false_iff];intro ha
 have:=List.all_eq_true.1 ha k (List.mem_range.2 hk)
 rw[h] at this;cases this
def bB {α:Type} (n:Nat) (ev:List (Int × α)):List (List α):=(List.range n).map fun (v:Nat)=>(ev.filter fun e=>decide (e.1=(v:Int))).map (·.2)
theorem bJ {α:Type} (n:Nat) (ev:List (Int × α)):(bB n ev).length=n:=by unfold bB;simp
theorem eg {α:Type} {n:Nat} (ev:List (Int × α)) {v:Nat} (h:v<n):(bB n ev)[v]?=some ((ev.filter fun e=>decide (e.1=(v:Int))).map (·.2)):=by unfold bB;rw[List.getElem?_map,List.getElem?_range h];rfl
theorem nD {α:Type} (n:Nat):List.replicate n []=bB (α:=α) n []:=by
 apply List.ext_getElem
 ·rw[bJ];simp
 ·intro i h1 h2;unfold bB;simp
theorem gN {α:Type} {n:Nat} {ev:List (Int × α)} {v:Nat} (h:v<(bB n ev).length):(bB n ev)[v].length≤ev.length:=by
 have h2:v<n:=by rwa [bJ] at h
 have:=eg ev h2
 rw[List.getElem?_eq_getElem h] at this
 rw[Option.some.inj this,List.length_map]
 exact List.length_filter_le _ _
theorem iT {α:Type} {n:Nat} {ev:List (Int × α)} {c:Int} {x:α} (h0:0≤c) (h:c.toNat<(bB n ev).length):(bB n ev).set c.toNat ((bB n ev)[c.toNat]++[x])=bB n (ev++[(c,x)]):=by
 have h2:c.toNat<n:=by rwa [bJ] at h
 apply List.ext_getElem?
 intro v
 rw[List.getElem?_set]
 by_cases hv:v<n
 ·rw[eg _ hv]
  have hr:=eg ev h2
  rw[List.getElem?_eq_getElem h] at hr
  rw[Option.some.inj hr]
  by_cases e:c.toNat=v
  ·have:c=(v:Int):=by omega
   rw[if_pos e,if_pos (by rw[bJ];omega),eg _ hv]
   have e2:((c.toNat:Nat):Int)=c:=by omega
   rw[e2,this,List.filter_append,List.map_append]
   simp
  ·have:¬c=(v:Int):=by omega
   rw[if_neg e,eg _ hv]
   simp[List.filter_append,this]
 ·have hn:(bB n (ev++[(c,x)]))[v]?=none:=List.getElem?_eq_none (by rw[bJ];omega)
  rw[if_neg (by omega),hn,List.getElem?_eq_none (by rw[bJ];omega)]
def ga (i:Nat) (ps:List dY):List (Int × lX):=ps.map fun p=>(p.dst,((i:Int),-1))
def kV (i:Nat) (xs:List bg):List (Int × lX):=(xs.zipIdx.filter fun x=>decide (0≤x.1.dst)).map fun x=>(x.1.dst,((i:Int),(x.2:Int)))
def uF (i:Nat) (b:aW):List (Int × lX):=ga i b.phis++kV i b.insts
def fQ (f:ac) (k:Nat):List (Int × lX):=((f.blocks.take k).zipIdx).flatMap fun b=>uF b.2 b.1
theorem kW {α:Type} {l:List α} {k:Nat} (h:k<l.length):(l.take (k+1)).zipIdx=(l.take k).zipIdx++[(l[k],k)]:=by
 rw[List.take_succ_eq_append_getElem h,List.zipIdx_append,List.length_take,Nat.min_eq_left (by omega)]
 simp
theorem yA (i:Nat) {ps:List dY} {j:Nat} (h:j<ps.length):ga i (ps.take (j+1))=ga i (ps.take j)++[(ps[j].dst,((i:Int),-1))]:=by
 unfold ga;rw[List.take_succ_eq_append_getElem h,List.map_append];rfl
theorem yB (i:Nat) {xs:List bg} {j:Nat} (h:j<xs.length):kV i (xs.take (j+1))=kV i (xs.take j)++if 0≤xs[j].dst then[(xs[j].dst,((i:Int),(j:Int)))] else[]:=by
 unfold kV;rw[kW h,List.filter_append,List.map_append]
 by_cases h0:0≤xs[j].dst
 ·simp[h0]
 ·simp[h0]
theorem pB {f:ac} {k:Nat} (h:k<f.blocks.length):fQ f (k+1)=fQ f k++uF k f.blocks[k]:=by
 unfold fQ;rw[kW h,List.flatMap_append];simp
theorem sv (i:Nat) (xs:List bg):(kV i xs).length≤xs.length:=by
 unfold kV;rw[List.length_map];exact Nat.le_trans (List.length_filter_le _ _) (by simp)
theorem AQ (i:Nat) (b:aW):(uF i b).length≤b.phis.length+b.insts.length:=by
 have:=sv i b.insts
 unfold uF ga;rw[List.length_append,List.length_map];omega
theorem sw {f:ac} {m:Nat} (h:∀b∈f.blocks,b.phis.length+b.insts.length≤m):∀k,k≤f.blocks.length→(fQ f k).length≤k*m
 |0,_=>by simp[fQ]
 |k+1,hk=>by
  have h1:=sw h k (by omega)
  have h2:=AQ k f.blocks[k]
  have h3:=h _ (List.getElem_mem (show k<f.blocks.length by omega))
  rw[pB (by omega),List.length_append,Nat.add_mul];omega
theorem Dj (i v:Nat) (b:aW):((uF i b).filter fun e=>decide (e.1=(v:Int))).map (·.2)=kU v i b:=by
 unfold uF ga kV kU
 rw[List.filter_append,List.map_append,List.filter_map,List.map_map,List.filter_map,List.map_map,List.filter_filter]
 congr 1
 congr 1
 apply List.filter_congr
 intro x _
 by_cases e:x.1.dst=(v:Int)
 ·have:0≤x.1.dst:=by omega
  simp[e]
 ·simp[e]
theorem vT (f:ac) (v:Nat):((fQ f f.blocks.length).filter fun e=>decide (e.1=(v:Int))).map (·.2)=bn f v:=by
 unfold fQ bn
 rw[List.take_length,List.filter_flatMap,List.map_flatMap]
 congr 1
 funext b
 exact Dj b.2 v b.1
def nE (f:ac):List (List lX):=bB f.vars.length (fQ f f.blocks.length)
theorem nF {f:ac} {v:Nat} (h:v<f.vars.length):(nE f)[v]?=some (bn f v):=by unfold nE;rw[eg _ h,vT]
theorem uG (f:ac):(nE f).length=f.vars.length:=bJ _ _
def nG (f:ac) (v:Nat):Bool:=!(decide (1<(bn f v).length)||decide (0<(bn f v).length)&&decide (v<f.params.length))
def lZ (f:ac):Bool:=(List.range f.vars.length).all (nG f)
theorem pC (f:ac):lZ f=true↔lY f:=by
 unfold lZ lY nG
 rw[List.all_eq_true]
 constructor
 ·intro h v hv
  have:=h v (List.mem_range.2 hv)
  simp only[Bool.not_eq_true',Bool.or_eq_false_iff,Bool.and_eq_false_iff,decide_eq_false_iff_not] at this
  refine ⟨by omega,fun hne=>?_⟩
  have hl:=List.length_pos_iff.2 hne
  rcases this.2 with h1|h1<;>omega
 ·intro h v hv
  obtain ⟨h1,h2⟩:=h v (List.mem_range.1 hv)
  simp only[Bool.not_eq_true',Bool.or_eq_false_iff,Bool.and_eq_false_iff,decide_eq_false_iff_not]
  refine ⟨by omega,?_⟩
  by_cases e:bn f v=[]
  ·left;rw[e];simp
  ·right;have:=h2 e;omega
def bP (f:ac):List lX:=(List.range f.vars.length).map fun (v:Nat)=>aZ f v
theorem gg {f:ac} {v:Nat} (h:v<f.vars.length):(bP f)[v]?=some (aZ f v):=by unfold bP;rw[List.getElem?_map,List.getElem?_range h];rfl
theorem iU (f:ac):(bP f).length=f.vars.length:=by simp[bP]
def dD (f:ac) (m:lX) (b at_:Int):Bool:=if m.1<0 then true else if m.1=b then decide (m.2<at_) else oY (ah f) f.blocks.length m.1 b
def HV (f:ac) (p:dY):Bool:=(p.args.zip p.from_).all fun q=>dD f (aZ f q.1) q.2 (pz f q.2)
def Ff (f:ac) (i:Nat) (x:bg × Nat):Bool:=x.1.args.all fun v=>dD f (aZ f v) i x.2
def H4 (f:ac) (i:Nat) (b:aW):Bool:=decide (b.term.kind=0)||dD f (aZ f b.term.var) i b.insts.length
def yC (f:ac) (i:Nat) (b:aW):Bool:=b.phis.all (HV f)&&b.insts.zipIdx.all (Ff f i)&&H4 f i b
def GJ (f:ac) (i:Nat):Bool:=((f.blocks[i]?).map (yC f i)).getD true
def Dk (f:ac):Bool:=(List.range f.blocks.length).all (GJ f)
theorem Fg {f:ac} {i:Nat} {b:aW} (h:f.blocks[i]?=some b):GJ f i=yC f i b:=by unfold GJ;rw[h];rfl
def dZ (f:ac):Bool:=df f&&(!(km (ah f) f.blocks.length).contains false&&(lZ f&&Dk f))
end
section
open Go.Proofs.Tryz
def Iw (a:Int) (out:List Bool) (shut x:Int):Prop:=x≠shut∧(x=a∨gb out x=true)
instance (a:Int) (out:List Bool) (shut x:Int):Decidable (Iw a out shut x):=by unfold Iw;infer_instance
theorem nH (out:List Bool) (k:Nat):gb out (k:Int)=(out[k]?).getD false:=rfl
theorem Dl {out:List Bool} {k:Nat} (h:k<out.length):out[k]?=some (gb out k):=by
 rw[nH,List.getElem?_eq_getElem h];rfl
end
section
open Go.Proofs.Tryz
noncomputable section
end
end
section
open Go.Proofs.Tryz
abbrev aA:=Int × Int
def dy:Int:=-9223372036854775808
def dz:Int:=9223372036854775807
def aK (x:Int):Prop:=-9223372036854775808≤x∧x≤9223372036854775807
instance (x:Int):Decidable (aK x):=by unfold aK;infer_instance
def bb (r:aA):Prop:=aK r.1∧aK r.2
def bw:aA:=(1,0)
def cG (lo hi:Int):aA:=if hi<lo then bw else (lo,hi)
def b5 (a b:Int):Int:=if b<a then b else a
def bK (a b:Int):Int:=if a<b then b else a
def aI (a b:aA):aA:=if a.2<a.1 then cG b.1 b.2 else if b.2<b.1 then a else (b5 a.1 b.1,bK a.2 b.2)
def aR (a b:aA):aA:=cG (bK a.1 b.1) (b5 a.2 b.2)
def dE (t:Int):aA:=if t=0 then (dy,dz) else if t=1 then (0,1) else if t=2 then (0,64) else bw
theorem sx {lo hi:Int} (h1:aK lo) (h2:aK hi):bb (cG lo hi):=by
 unfold cG;split
 ·exact ⟨by decide,by decide⟩
 ·exact ⟨h1,h2⟩
theorem qK {a b:Int} (h1:aK a) (h2:aK b):aK (b5 a b):=by unfold b5;split<;>assumption
theorem qL {a b:Int} (h1:aK a) (h2:aK b):aK (bK a b):=by unfold bK;split<;>assumption
theorem kX {a b:aA} (h1:bb a) (h2:bb b):bb (aI a b):=by
 unfold aI;split
 ·exact sx h2.1 h2.2
 ·split
  ·exact h1
  ·exact ⟨qK h1.1 h2.1,qL h1.2 h2.2⟩
theorem dF {a b:aA} (h1:bb a) (h2:bb b):bb (aR a b):=sx (qL h1.1 h2.1) (qK h1.2 h2.2)
theorem kY (t:Int):bb (dE t):=by
 unfold dE;split
 ·exact ⟨by decide,by decide⟩
 ·split
  ·exact ⟨by decide,by decide⟩
  ·split
   ·exact ⟨by decide,by decide⟩
   ·exact ⟨by decide,by decide⟩
def pD (k:Nat) (x y:Int):Int:=if k=0 then x+y else if k=1 then x - y else x*y
def dU (k:Nat) (x y:Int):Prop:=aK (pD k x y)
instance (k:Nat) (x y:Int):Decidable (dU k x y):=by unfold dU;infer_instance
def j6 (k:Nat) (x y:Int):Int:=if (if k=2 then decide (x<0) != decide (y<0) else decide (x<0)) then dy else dz
def eZ (k:Nat) (x y:Int):Int:=if dU k x y then pD k x y else j6 k x y
theorem AR (k:Nat) (x y:Int):aK (j6 k x y):=by
 unfold j6
 generalize (if k=2 then decide (x<0) != decide (y<0) else decide (x<0))=b
 cases b<;>decide
theorem vU (k:Nat) (x y:Int):aK (eZ k x y):=by
 unfold eZ;split
 ·assumption
 ·exact AR k x y
def mz (n:Int):aA:=(n,n)
def EI (k:Nat) (a b:aA):aA:=aI (aI (aI (aI bw (mz (eZ k a.1 b.1))) (mz (eZ k a.1 b.2))) (mz (eZ k a.2 b.1))) (mz (eZ k a.2 b.2))
def gC (k:Nat) (a b:aA):Prop:=dU k a.1 b.1∧dU k a.1 b.2∧dU k a.2 b.1∧dU k a.2 b.2
instance (k:Nat) (a b:aA):Decidable (gC k a b):=by unfold gC;infer_instance
def de (a b:Int):aA:=if b<a then (b,a) else (a,b)
def du (a b:aA):aA:=(if b.1<a.1 then b.1 else a.1,if a.2<b.2 then b.2 else a.2)
def fR (k:Nat) (a b:aA):aA:=du (de (eZ k a.1 b.1) (eZ k a.1 b.2)) (de (eZ k a.2 b.1) (eZ k a.2 b.2))
theorem uH (p:Int):aI bw (mz p)=(p,p):=by
 unfold aI mz bw cG
 rw[if_pos (by decide)]
 rw[if_neg (by dsimp only;omega)]
theorem e8 {lo hi:Int} (h:lo≤hi) (q:Int):aI (lo,hi) (mz q)=(b5 lo q,bK hi q)∧b5 lo q≤bK hi q:=by
 unfold aI mz
 rw[if_neg (by dsimp only;omega),if_neg (by dsimp only;omega)]
 refine ⟨rfl,?_⟩
 unfold b5 bK;split<;>split<;>omega
theorem AU (p q r s:Int):aI (aI (aI (aI bw (mz p)) (mz q)) (mz r)) (mz s)=du (de p q) (de r s):=by
 obtain ⟨e2,h2⟩:=e8 (Int.le_refl p) q
 obtain ⟨e3,h3⟩:=e8 h2 r
 obtain ⟨e4,_⟩:=e8 h3 s
 rw[uH,e2,e3,e4]
 unfold de du b5 bK
 rw[Prod.ext_iff]
 by_cases c1:q<p<;>by_cases c2:s<r<;>simp only[c1,c2,if_true,if_false]<;>constructor<;>(repeat' split)<;>omega
theorem Dm (k:Nat) (a b:aA):EI k a b=fR k a b:=AU _ _ _ _
def AW (a b:aA):aA:=
 let a1:=if a.2<a.1 then b else a
 let b1:=if b.2<b.1 then a1 else b
 let lo:=if b1.1<a1.1 then b1.1 else a1.1
 let hi:=if a1.2<b1.2 then b1.2 else a1.2
 if hi<lo then bw else (lo,hi)
theorem sy (a b:aA):AW a b=aI a b:=by
 obtain ⟨a1,a2⟩:=a
 obtain ⟨b1,b2⟩:=b
 unfold AW aI cG b5 bK bw
 simp only[Prod.ext_iff]
 repeat' split
 all_goals (constructor<;>dsimp only at *<;>omega)
theorem AX {a b:Int} (ha:a≠0) (hb:b≠0):(0<a*b↔((a<0)↔(b<0)))∧a*b≠0:=by
 refine ⟨?_,Int.mul_ne_zero ha hb⟩
 rcases Int.lt_or_gt_of_ne ha with h1|h1<;>rcases Int.lt_or_gt_of_ne hb with h2|h2
 ·have:=Int.mul_pos_of_neg_of_neg h1 h2;simp[this,h1,h2]
 ·have:=Int.mul_neg_of_neg_of_pos h1 h2
  constructor
  ·intro h;omega
  ·intro h;have:=h.1 h1;omega
 ·have:=Int.mul_neg_of_pos_of_neg h1 h2
  constructor
  ·intro h;omega
  ·intro h;have:=h.2 h2;omega
 ·have:=Int.mul_pos h1 h2
  constructor
  ·intro _;constructor<;>intro h<;>omega
  ·intro _;exact this
end
section
open Go.Proofs.Tryz
def bQ (r s:aA):Prop:=r.2<r.1∨(s.1≤r.1∧r.2≤s.2)
def iJ (x:Int) (r:aA):Prop:=r.1≤x∧x≤r.2
theorem bQ.refl (r:aA):bQ r r:=.inr ⟨Int.le_refl _,Int.le_refl _⟩
theorem bQ.trans {r s t:aA} (h:bQ r s) (k:bQ s t):bQ r t:=by
 rcases h with h|h
 ·exact .inl h
 ·rcases k with k|k
  ·exact .inl (by omega)
  ·exact .inr (by omega)
def mA (x:Int):Int:=if x<dy then dy else if dz<x then dz else x
theorem jP {x y:Int} (h:x≤y):mA x≤mA y:=by unfold mA dy dz;(repeat' split)<;>omega
theorem fS {k:Nat} {x y:Int} (h2:k≤2) (hx:aK x) (hy:aK y):eZ k x y=mA (pD k x y):=by
 unfold eZ
 by_cases h:dU k x y
 ·rw[if_pos h]
  unfold dU aK at h;unfold mA dy dz
  rw[if_neg (by omega),if_neg (by omega)]
 ·rw[if_neg h]
  unfold j6
  unfold dU at h
  unfold aK at hx hy h
  by_cases hk:k=2
  ·subst hk
   have e:pD 2 x y=x*y:=rfl
   rw[e] at h ⊢
   simp only[if_true]
   have hx0:x≠0:=fun e=>by subst e;simp at h
   have hy0:y≠0:=fun e=>by subst e;simp at h
   have hs:=AX hx0 hy0
   by_cases c:(x<0)↔(y<0)
   ·have h1:=hs.1.2 c
    have:(decide (x<0) != decide (y<0))=false:=by simp[c]
    rw[this]
    unfold mA dy dz
    rw[if_neg (by simp),if_neg (by omega),if_pos (by omega)]
   ·have h1:¬0<x*y:=fun h2=>c (hs.1.1 h2)
    have:(decide (x<0) != decide (y<0))=true:=by
     by_cases c1:x<0<;>by_cases c2:y<0<;>simp_all
    rw[this]
    unfold mA dy dz
    rw[if_pos rfl,if_pos (by omega)]
  ·rw[if_neg hk]
   unfold pD at h ⊢
   unfold mA dy dz
   by_cases h0:k=0
   ·rw[if_pos h0] at h ⊢
    by_cases c:x<0
    ·simp only[decide_eq_true c,if_true];rw[if_pos (by omega)]
    ·simp only[decide_eq_false c];rw[if_neg (by simp),if_neg (by omega),if_pos (by omega)]
   ·have h1:k=1:=by omega
    rw[if_neg h0,if_pos h1] at h ⊢
    by_cases c:x<0
    ·simp only[decide_eq_true c,if_true];rw[if_pos (by omega)]
    ·simp only[decide_eq_false c];rw[if_neg (by simp),if_neg (by omega),if_pos (by omega)]
def ul (x a b:Int):Prop:=(a≤x∧x≤b)∨(b≤x∧x≤a)
theorem uI {x a b:Int} (h:ul x a b):ul (mA x) (mA a) (mA b):=by
 rcases h with ⟨h1,h2⟩|⟨h1,h2⟩
 ·exact .inl ⟨jP h1,jP h2⟩
 ·exact .inr ⟨jP h1,jP h2⟩
theorem EJ {k:Nat} {x a b y:Int} (h1:a≤x) (h2:x≤b):ul (pD k x y) (pD k a y) (pD k b y):=by
 unfold pD ul
 split
 ·omega
 ·split
  ·omega
  ·rcases Int.le_total 0 y with hy|hy
   ·exact .inl ⟨Int.mul_le_mul_of_nonneg_right h1 hy,Int.mul_le_mul_of_nonneg_right h2 hy⟩
   ·exact .inr ⟨Int.mul_le_mul_of_nonpos_right h2 hy,Int.mul_le_mul_of_nonpos_right h1 hy⟩
theorem vV {k:Nat} {x a b y:Int} (h1:a≤y) (h2:y≤b):ul (pD k x y) (pD k x a) (pD k x b):=by
 unfold pD ul
 split
 ·omega
 ·split
  ·omega
  ·rcases Int.le_total 0 x with hx|hx
   ·exact .inl ⟨Int.mul_le_mul_of_nonneg_left h1 hx,Int.mul_le_mul_of_nonneg_left h2 hx⟩
   ·exact .inr ⟨Int.mul_le_mul_of_nonpos_left hx h2,Int.mul_le_mul_of_nonpos_left hx h1⟩
theorem vW {p q r s x u v:Int} (hu:ul u p q) (hv:ul v r s) (hx:ul x u v):iJ x (du (de p q) (de r s)):=by
 unfold iJ du de ul at *
 by_cases c1:q<p<;>by_cases c2:s<r<;>simp only[c1,c2,if_true,if_false]<;>(repeat' split)<;>omega
theorem Dn {k:Nat} {a b:aA} {x y:Int} (hk:k≤2) (ha:bb a) (hb:bb b) (hx:iJ x a) (hy:iJ y b):iJ (mA (pD k x y)) (fR k a b):=by
 unfold fR
 rw[fS hk ha.1 hb.1,fS hk ha.1 hb.2,fS hk ha.2 hb.1,fS hk ha.2 hb.2]
 exact vW (uI (vV hy.1 hy.2)) (uI (vV hy.1 hy.2)) (uI (EJ hx.1 hx.2))
theorem gO {p q r s lo hi:Int} (h1:lo≤p∧p≤hi) (h2:lo≤q∧q≤hi) (h3:lo≤r∧r≤hi) (h4:lo≤s∧s≤hi):lo≤(du (de p q) (de r s)).1∧(du (de p q) (de r s)).2≤hi:=by
 unfold du de
 by_cases c1:q<p<;>by_cases c2:s<r<;>simp only[c1,c2,if_true,if_false]<;>(repeat' split)<;>omega
theorem yD {k:Nat} {a b a' b':aA} (hk:k≤2) (ha:bb a) (hb:bb b) (ha':bb a') (hb':bb b') (na:a.1≤a.2) (nb:b.1≤b.2) (sa:a'.1≤a.1∧a.2≤a'.2) (sb:b'.1≤b.1∧b.2≤b'.2):bQ (fR k a b) (fR k a' b'):=by
 right
 have h:∀x y,aK x→aK y→iJ x a→iJ y b→(fR k a' b').1≤eZ k x y∧eZ k x y≤(fR k a' b').2:=fun x y hx hy h1 h2=>by
  rw[fS hk hx hy]
  exact Dn hk ha' hb' ⟨by have:=h1.1;omega,by have:=h1.2;omega⟩ ⟨by have:=h2.1;omega,by have:=h2.2;omega⟩
 have l1:iJ a.1 a:=⟨Int.le_refl _,na⟩
 have l2:iJ a.2 a:=⟨na,Int.le_refl _⟩
 have r1:iJ b.1 b:=⟨Int.le_refl _,nb⟩
 have r2:iJ b.2 b:=⟨nb,Int.le_refl _⟩
 exact gO (h _ _ ha.1 hb.1 l1 r1) (h _ _ ha.1 hb.2 l1 r2) (h _ _ ha.2 hb.1 l2 r1) (h _ _ ha.2 hb.2 l2 r2)
theorem uJ {k:Nat} {a b a' b':aA} (na:a.1≤a.2) (nb:b.1≤b.2) (sa:a'.1≤a.1∧a.2≤a'.2) (sb:b'.1≤b.1∧b.2≤b'.2) (h:gC k a' b'):gC k a b:=by
 obtain ⟨h1,h2,h3,h4⟩:=h
 have key:∀x y,a'.1≤x→x≤a'.2→b'.1≤y→y≤b'.2→dU k x y:=fun x y g1 g2 g3 g4=>by
  have e1:=vV (k:=k) (x:=a'.1) g3 g4
  have e2:=vV (k:=k) (x:=a'.2) g3 g4
  have e3:=EJ (k:=k) (y:=y) g1 g2
  unfold dU aK at *
  unfold ul at e1 e2 e3
  omega
 exact ⟨key _ _ (by omega) (by omega) (by omega) (by omega),key _ _ (by omega) (by omega) (by omega) (by omega),key _ _ (by omega) (by omega) (by omega) (by omega),key _ _ (by omega) (by omega) (by omega) (by omega)⟩
section
variable {P:Program} {E:World} {l:List Oper} {W:Nat→Bool} {fuel:Nat} {listed:Array Bool} {d ty:Nat} {op:Op} {pos:String} {af:Array Edge} {Q:aH→OL→Prop} {env:aH} {Os Om:OL}
def qM (l:List Oper) (W:Nat→Bool) (listed:Array Bool) (i:Nat):Bool:=Region.noSelect l.toArray&&(Region.free .any l.toArray listed i&&((Region.ready .any l.toArray listed).contains i&&(fO l i W&&(!W i&&eW W listed))))
theorem qM.of {i:Nat} (h:qM l W listed i=true):Region.noSelect l.toArray=true∧Region.free .any l.toArray listed i=true∧(Region.ready .any l.toArray listed).contains i=true∧fO l i W=true∧W i=false∧eW W listed=true:=by
 simpa only[qM,Bool.and_eq_true,Bool.not_eq_true'] using h
theorem ao (i:Nat) {x:AV} (hi:l[i]?=some (Oper.mk (some d) op ty pos af none)) (hg:Gv P env Os (Oper.mk (some d) op ty pos af none) x)
  (h:bt P E l W Q fuel (listed.setIfInBounds i true) (bp env d x) Os Om) (hb:qM l W listed i=true:=by kernel_rfl):bt P E l W Q (fuel+1) listed env Os Om:=
 have ⟨a,b,c,e,g,k⟩:=qM.of hb
 bt.take hi a b c e g k hg h
theorem ir (i:Nat) {j s:Nat} {b t:Bool} {x:AV} (hi:l[i]?=some (Oper.mk (some d) op ty pos af (some (j,b)))) (hg0:(l[j]?).bind (fun o:Oper=>o.dst)=some s) (hv0:env s=.bool t) (ht:t=b) (hg:Gv P env Os (Oper.mk (some d) op ty pos af none) x)
  (h:bt P E l W Q fuel (listed.setIfInBounds i true) (bp env d x) Os Om) (hb:qM l W listed i=true:=by kernel_rfl):bt P E l W Q (fuel+1) listed env Os Om:=
 have ⟨a,b,c,e,g,k⟩:=qM.of hb
 bt.takeT hi hg0 hv0 ht a b c e g k hg h
theorem fm (i:Nat) {j s:Nat} {b t:Bool} (hi:l[i]?=some (Oper.mk (some d) op ty pos af (some (j,b)))) (hg0:(l[j]?).bind (fun o:Oper=>o.dst)=some s) (hv0:env s=.bool t) (ht:t=!b)
  (h:bt P E l W Q fuel (listed.setIfInBounds i true) (bp env d (.raw undef)) Os Om) (hb:qM l W listed i=true:=by kernel_rfl):bt P E l W Q (fuel+1) listed env Os Om:=
 have ⟨a,b,c,e,g,k⟩:=qM.of hb
 bt.takeF hi hg0 hv0 ht a b c e g k h
theorem aL (i:Nat) {o:Oper} (hi:l[i]?=some o) (h:ai P E l.toArray (fun env' Om'=>bt P E l W Q fuel (listed.setIfInBounds i true) env' Os Om') [o] env Om) (hr:Region.ready .any l.toArray listed=[i]:=by kernel_rfl):bt P E l W Q (fuel+1) listed env Os Om:=bt.one hi hr h
theorem bO (h:Q env (Os++Om)) (hr:Region.ready .any l.toArray listed=[]:=by kernel_rfl):bt P E l W Q fuel listed env Os Om:=bt.done hr h
variable {x y z:Operand} {t:TypeId} {O:OL}
theorem fC {k:IntKind} {a:Int} (hx:aP env x=.int k a):Gv P env O (Oper.mk (some d) (.move x) ty pos af none) (.int k a):=yb hx
theorem EK {a:Bool} (hx:aP env x=.bool a):Gv P env O (Oper.mk (some d) (.move x) ty pos af none) (.bool a):=yb hx
theorem C7 {k:Nat} {a:List (List AV)} (hx:aP env x=.fro k a):Gv P env O (Oper.mk (some d) (.move x) ty pos af none) (.fro k a):=yb hx
theorem H5 {k:IntKind} {a:Int} (hx:aP env x=.int k a):Gv P env O (Oper.mk (some d) (.assign x) ty pos af none) (.int k a):=y7 hx
theorem sA {a:Bool} (hx:aP env x=.bool a):Gv P env O (Oper.mk (some d) (.assign x) ty pos af none) (.bool a):=y7 hx
theorem um {k:Nat} {a:List (List AV)} (hx:aP env x=.fro k a):Gv P env O (Oper.mk (some d) (.assign x) ty pos af none) (.fro k a):=y7 hx
theorem gy {k:IntKind} {a:Int} {cs:List AV} (ha:∀w,(isAgg t).run P w=.ok false w) (hx:aP env x=.pf (.int k a::cs)):Gv P env O (Oper.mk (some d) (.load t x) ty pos af none) (.int k a):=q7 ha hx
theorem lA {k:Nat} {a:List (List AV)} {cs:List AV} (ha:∀w,(isAgg t).run P w=.ok false w) (hx:aP env x=.pf (.fro k a::cs)):Gv P env O (Oper.mk (some d) (.load t x) ty pos af none) (.fro k a):=q7 ha hx
theorem Fh {b v:Bool} (hc:aP env x=.bool b) (hb:b=true) (hy:aP env y=.bool v):Gv P env O (Oper.mk (some d) (.pick x y z) ty pos af none) (.bool v):=Gv.pickT hc hb hy
theorem C8 {b v:Bool} (hc:aP env x=.bool b) (hb:b=false) (hy:aP env z=.bool v):Gv P env O (Oper.mk (some d) (.pick x y z) ty pos af none) (.bool v):=Gv.pickF hc hb hy
theorem mR {i m:Nat} (hx:aP env x=.own i m):Gv P env O (Oper.mk (some d) (.move x) ty pos af none) (.own i m):=yb hx
theorem j7 {i m:Nat} (hx:aP env x=.po i m):Gv P env O (Oper.mk (some d) (.move x) ty pos af none) (.po i m):=yb hx
theorem j8 {cs:List AV} (hx:aP env x=.pf cs):Gv P env O (Oper.mk (some d) (.move x) ty pos af none) (.pf cs):=yb hx
theorem vX {cs:List AV} (hx:aP env x=.tup cs):Gv P env O (Oper.mk (some d) (.move x) ty pos af none) (.tup cs):=yb hx
theorem sB {i m:Nat} (hx:aP env x=.own i m):Gv P env O (Oper.mk (some d) (.assign x) ty pos af none) (.own i m):=y7 hx
theorem f9 {i m:Nat} (hx:aP env x=.po i m):Gv P env O (Oper.mk (some d) (.assign x) ty pos af none) (.po i m):=y7 hx
theorem mS {a:Value} (hx:aP env x=.raw a):Gv P env O (Oper.mk (some d) (.assign x) ty pos af none) (.raw a):=y7 hx
theorem r8 {vs:List AV} {i:Nat} {k:IntKind} {a:Int} (hx:aP env x=.tup vs) (hv:vs[i]?=some (.int k a)):Gv P env O (Oper.mk (some d) (.extract x i) ty pos af none) (.int k a):=q4 hx hv
theorem C9 {vs:List AV} {i:Nat} {a:Bool} (hx:aP env x=.tup vs) (hv:vs[i]?=some (.bool a)):Gv P env O (Oper.mk (some d) (.extract x i) ty pos af none) (.bool a):=q4 hx hv
theorem eh {fs:Array Field} {f:Field} {i sz:Nat} {cs cs':List AV} (ht:P.underlying t=some (.struct fs)) (hf:fs[i]?=some f) (hs:∀w,(sizeOf f.type).run P w=.ok sz w)
  (hx:aP env x=.pf cs) (hr:cs.drop f.offset=cs') (hz:sz≠0:=by decide):Gv P env O (Oper.mk (some d) (.fieldAddr t x i) ty pos af none) (.pf cs'):=Gv.fieldF ht hf hs hz hx hr
theorem H6 {u:TypeId} {a b:Int} (hx:aP env x=.int .i64 a) (hy:aP env y=.int .i64 b) (hr:pq (a+b):=by unfold pq;omega):Gv P env O (Oper.mk (some d) (.binOp .add t x y u) ty pos af none) (.int .i64 (a+b)):=Gv.add hx hy hr
theorem ae {n id:Nat} {y:Code} {R:Exit→aH→OL→Prop} (h:ai P E l.toArray (nq (cO P E n y R) R .normal) l env O) (hd:fx n l=true:=by exact rfl):cO P E n (.seq (.region id l.toArray false) y) R env O:=ze (y9 hd h)
theorem bD {n id:Nat} {R:Exit→aH→OL→Prop} (h:ai P E l.toArray (R .normal) l env O) (hd:fx n l=true:=by exact rfl):cO P E n (.region id l.toArray false) R env O:=y9 hd h
theorem db {α:Type} {enc:α→List AV} {xs:List α} {k:Nat} {e:TypeId} (j:Nat) {i:Int} {v:α} (ht:P.underlying t=some (.slice e)) (hs:∀w,(sizeOf e).run P w=.ok k w) (hx:aP env x=.fro k (xs.map enc)) (hy:aP env y=.int .i64 i) (hi:i=(j:Int)) (hj:xs[j]?=some v) :
  Gv P env O (Oper.mk (some d) (.indexAddr t x y) ty pos af none) (.pf (enc v)):=Gv.idxM ht hs hx hy hi hj
theorem aJ {O:OL}:Left O O:=⟨_,.refl _,rfl⟩
theorem cz.t1 {x0:Nat × bm} {O:OL} {i:Nat} {o:bm}:cz (x0::(i,o)::O) i o (x0::O):=.tail .head
theorem eR.t1 {x0:Nat × bm} {O:OL} {i:Nat} {o o':bm}:eR (x0::(i,o)::O) i o o' (x0::(i,o')::O):=.tail .head
theorem oU.t1 {x0:Nat × bm} {O:OL} {i j:Nat} {o o':bm}:oU (x0::(i,o)::O) i o j o' (x0::(j,o')::O):=.tail .head
theorem cz.t2 {x0 x1:Nat × bm} {O:OL} {i:Nat} {o:bm}:cz (x0::x1::(i,o)::O) i o (x0::x1::O):=.tail .t1
theorem eR.t2 {x0 x1:Nat × bm} {O:OL} {i:Nat} {o o':bm}:eR (x0::x1::(i,o)::O) i o o' (x0::x1::(i,o')::O):=.tail .t1
theorem oU.t2 {x0 x1:Nat × bm} {O:OL} {i j:Nat} {o o':bm}:oU (x0::x1::(i,o)::O) i o j o' (x0::x1::(j,o')::O):=.tail .t1
theorem cz.t3 {x0 x1 x2:Nat × bm} {O:OL} {i:Nat} {o:bm}:cz (x0::x1::x2::(i,o)::O) i o (x0::x1::x2::O):=.tail .t2
theorem eR.t3 {x0 x1 x2:Nat × bm} {O:OL} {i:Nat} {o o':bm}:eR (x0::x1::x2::(i,o)::O) i o o' (x0::x1::x2::(i,o')::O):=.tail .t2
theorem oU.t3 {x0 x1 x2:Nat × bm} {O:OL} {i j:Nat} {o o':bm}:oU (x0::x1::x2::(i,o)::O) i o j o' (x0::x1::x2::(j,o')::O):=.tail .t2
theorem cz.t4 {x0 x1 x2 x3:Nat × bm} {O:OL} {i:Nat} {o:bm}:cz (x0::x1::x2::x3::(i,o)::O) i o (x0::x1::x2::x3::O):=.tail .t3
theorem eR.t4 {x0 x1 x2 x3:Nat × bm} {O:OL} {i:Nat} {o o':bm}:eR (x0::x1::x2::x3::(i,o)::O) i o o' (x0::x1::x2::x3::(i,o')::O):=.tail .t3
theorem oU.t4 {x0 x1 x2 x3:Nat × bm} {O:OL} {i j:Nat} {o o':bm}:oU (x0::x1::x2::x3::(i,o)::O) i o j o' (x0::x1::x2::x3::(j,o')::O):=.tail .t3
theorem cz.t5 {x0 x1 x2 x3 x4:Nat × bm} {O:OL} {i:Nat} {o:bm}:cz (x0::x1::x2::x3::x4::(i,o)::O) i o (x0::x1::x2::x3::x4::O):=.tail .t4
theorem eR.t5 {x0 x1 x2 x3 x4:Nat × bm} {O:OL} {i:Nat} {o o':bm}:eR (x0::x1::x2::x3::x4::(i,o)::O) i o o' (x0::x1::x2::x3::x4::(i,o')::O):=.tail .t4
theorem oU.t5 {x0 x1 x2 x3 x4:Nat × bm} {O:OL} {i j:Nat} {o o':bm}:oU (x0::x1::x2::x3::x4::(i,o)::O) i o j o' (x0::x1::x2::x3::x4::(j,o')::O):=.tail .t4
theorem cz.t6 {x0 x1 x2 x3 x4 x5:Nat × bm} {O:OL} {i:Nat} {o:bm}:cz (x0::x1::x2::x3::x4::x5::(i,o)::O) i o (x0::x1::x2::x3::x4::x5::O):=.tail .t5
theorem eR.t6 {x0 x1 x2 x3 x4 x5:Nat × bm} {O:OL} {i:Nat} {o o':bm}:eR (x0::x1::x2::x3::x4::x5::(i,o)::O) i o o' (x0::x1::x2::x3::x4::x5::(i,o')::O):=.tail .t5
theorem oU.t6 {x0 x1 x2 x3 x4 x5:Nat × bm} {O:OL} {i j:Nat} {o o':bm}:oU (x0::x1::x2::x3::x4::x5::(i,o)::O) i o j o' (x0::x1::x2::x3::x4::x5::(j,o')::O):=.tail .t5
theorem cz.t7 {x0 x1 x2 x3 x4 x5 x6:Nat × bm} {O:OL} {i:Nat} {o:bm}:cz (x0::x1::x2::x3::x4::x5::x6::(i,o)::O) i o (x0::x1::x2::x3::x4::x5::x6::O):=.tail .t6
theorem eR.t7 {x0 x1 x2 x3 x4 x5 x6:Nat × bm} {O:OL} {i:Nat} {o o':bm}:eR (x0::x1::x2::x3::x4::x5::x6::(i,o)::O) i o o' (x0::x1::x2::x3::x4::x5::x6::(i,o')::O):=.tail .t6
theorem oU.t7 {x0 x1 x2 x3 x4 x5 x6:Nat × bm} {O:OL} {i j:Nat} {o o':bm}:oU (x0::x1::x2::x3::x4::x5::x6::(i,o)::O) i o j o' (x0::x1::x2::x3::x4::x5::x6::(j,o')::O):=.tail .t6
theorem cz.t8 {x0 x1 x2 x3 x4 x5 x6 x7:Nat × bm} {O:OL} {i:Nat} {o:bm}:cz (x0::x1::x2::x3::x4::x5::x6::x7::(i,o)::O) i o (x0::x1::x2::x3::x4::x5::x6::x7::O):=.tail .t7
theorem eR.t8 {x0 x1 x2 x3 x4 x5 x6 x7:Nat × bm} {O:OL} {i:Nat} {o o':bm}:eR (x0::x1::x2::x3::x4::x5::x6::x7::(i,o)::O) i o o' (x0::x1::x2::x3::x4::x5::x6::x7::(i,o')::O):=.tail .t7
theorem oU.t8 {x0 x1 x2 x3 x4 x5 x6 x7:Nat × bm} {O:OL} {i j:Nat} {o o':bm}:oU (x0::x1::x2::x3::x4::x5::x6::x7::(i,o)::O) i o j o' (x0::x1::x2::x3::x4::x5::x6::x7::(j,o')::O):=.tail .t7
theorem aT {α0:Sort _} {a0:α0}:a0=a0∧True:=⟨rfl,trivial⟩
theorem cU {α0:Sort _} {a0:α0} {α1:Sort _} {a1:α1}:a0=a0∧a1=a1∧True:=⟨rfl,rfl,trivial⟩
theorem bX {α0:Sort _} {a0:α0} {α1:Sort _} {a1:α1} {α2:Sort _} {a2:α2}:a0=a0∧a1=a1∧a2=a2∧True:=⟨rfl,rfl,rfl,trivial⟩
theorem mB {α0:Sort _} {a0:α0} {α1:Sort _} {a1:α1} {α2:Sort _} {a2:α2} {α3:Sort _} {a3:α3}:a0=a0∧a1=a1∧a2=a2∧a3=a3∧True:=⟨rfl,rfl,rfl,rfl,trivial⟩
theorem oV {α0:Sort _} {a0:α0} {α1:Sort _} {a1:α1} {α2:Sort _} {a2:α2} {α3:Sort _} {a3:α3} {α4:Sort _} {a4:α4}:a0=a0∧a1=a1∧a2=a2∧a3=a3∧a4=a4∧True:=⟨rfl,rfl,rfl,rfl,rfl,trivial⟩
theorem AY {α0:Sort _} {a0:α0} {α1:Sort _} {a1:α1} {α2:Sort _} {a2:α2} {α3:Sort _} {a3:α3} {α4:Sort _} {a4:α4} {α5:Sort _} {a5:α5}:a0=a0∧a1=a1∧a2=a2∧a3=a3∧a4=a4∧a5=a5∧True:=⟨rfl,rfl,rfl,rfl,rfl,rfl,trivial⟩
theorem Aw {α0:Sort _} {a0:α0} {α1:Sort _} {a1:α1} {α2:Sort _} {a2:α2} {α3:Sort _} {a3:α3} {α4:Sort _} {a4:α4} {α5:Sort _} {a5:α5} {α6:Sort _} {a6:α6}:a0=a0∧a1=a1∧a2=a2∧a3=a3∧a4=a4∧a5=a5∧a6=a6∧True:=⟨rfl,rfl,rfl,rfl,rfl,rfl,rfl,trivial⟩
theorem yE {α0:Sort _} {a0:α0} {α1:Sort _} {a1:α1} {α2:Sort _} {a2:α2} {α3:Sort _} {a3:α3} {α4:Sort _} {a4:α4} {α5:Sort _} {a5:α5} {α6:Sort _} {a6:α6} {α7:Sort _} {a7:α7}:a0=a0∧a1=a1∧a2=a2∧a3=a3∧a4=a4∧a5=a5∧a6=a6∧a7=a7∧True:=⟨rfl,rfl,rfl,rfl,rfl,rfl,rfl,rfl,trivial⟩
theorem nI {α0:Sort _} {a0:α0} {α1:Sort _} {a1:α1} {α2:Sort _} {a2:α2} {α3:Sort _} {a3:α3} {α4:Sort _} {a4:α4} {α5:Sort _} {a5:α5} {α6:Sort _} {a6:α6} {α7:Sort _} {a7:α7} {α8:Sort _} {a8:α8} {α9:Sort _} {a9:α9}:a0=a0∧a1=a1∧a2=a2∧a3=a3∧a4=a4∧a5=a5∧a6=a6∧a7=a7∧a8=a8∧a9=a9∧True:=⟨rfl,rfl,rfl,rfl,rfl,rfl,rfl,rfl,rfl,rfl,trivial⟩
variable {ops:Array Oper} {K:aH→OL→Prop} {rest:List Oper} {u e:TypeId}
theorem aa {k:IntKind} {a:Int} (hx:aP env x=.int k a) (kk:ai P E ops K rest (bp env d (.int k a)) O):ai P E ops K (Oper.mk (some d) (.move x) ty pos af none::rest) env O:=z7 (fC hx) kk
theorem ad {a:Bool} (hx:aP env x=.bool a) (kk:ai P E ops K rest (bp env d (.bool a)) O):ai P E ops K (Oper.mk (some d) (.assign x) ty pos af none::rest) env O:=z7 (sA hx) kk
theorem aj {fs:Array Field} {f:Field} {i sz:Nat} {cs cs':List AV} (ht:P.underlying t=some (.struct fs)) (hf:fs[i]?=some f) (hs:∀w,(sizeOf f.type).run P w=.ok sz w) (hx:aP env x=.pf cs) (hr:cs.drop f.offset=cs') (kk:ai P E ops K rest (bp env d (.pf cs')) O) (hz:sz≠0:=by decide):ai P E ops K (Oper.mk (some d) (.fieldAddr t x i) ty pos af none::rest) env O:=z7 (eh ht hf hs hx hr hz) kk
theorem aq {k:IntKind} {a:Int} (hx:aP env x=.int k a) (kk:ai P E ops K rest (bp env d (.int k a)) O):ai P E ops K (Oper.mk (some d) (.assign x) ty pos af none::rest) env O:=z7 (H5 hx) kk
theorem aw {k:IntKind} {a:Int} {cs:List AV} (ha:∀w,(isAgg t).run P w=.ok false w) (hx:aP env x=.pf (.int k a::cs)) (kk:ai P E ops K rest (bp env d (.int k a)) O):ai P E ops K (Oper.mk (some d) (.load t x) ty pos af none::rest) env O:=z7 (gy ha hx) kk
theorem ab {n:Nat} {cs:List AV} (ha:∀w,(isAgg t).run P w=.ok true w) (hs:∀w,(sizeOf t).run P w=.ok n w) (hx:aP env x=.pf cs) (hn:cs.length=n) (kk:ai P E ops K rest (bp env d (.agg cs)) O):ai P E ops K (Oper.mk (some d) (.load t x) ty pos af none::rest) env O:=z7 (yl ha hs hx hn) kk
theorem ay {a:Bool} (hx:aP env x=.bool a) (kk:ai P E ops K rest (bp env d (.bool a)) O):ai P E ops K (Oper.mk (some d) (.move x) ty pos af none::rest) env O:=z7 (EK hx) kk
theorem aD {b v:Bool} (hc:aP env x=.bool b) (hb:b=false) (hy:aP env z=.bool v) (kk:ai P E ops K rest (bp env d (.bool v)) O):ai P E ops K (Oper.mk (some d) (.pick x y z) ty pos af none::rest) env O:=z7 (C8 hc hb hy) kk
theorem ak {k:IntKind} {a b:Int} (hx:aP env x=.int k a) (hy:aP env y=.int k b) (kk:ai P E ops K rest (bp env d (.bool (decide (a=b)))) O):ai P E ops K (Oper.mk (some d) (.binOp .eql t x y u) ty pos af none::rest) env O:=z7 (Gv.eqlI hx hy) kk
theorem ax {k:IntKind} {a b:Int} (hx:aP env x=.int k a) (hy:aP env y=.int k b) (kk:ai P E ops K rest (bp env d (.bool (decide (a<b)))) O):ai P E ops K (Oper.mk (some d) (.binOp .lss t x y u) ty pos af none::rest) env O:=z7 (Gv.lss hx hy) kk
theorem aM {b v:Bool} (hc:aP env x=.bool b) (hb:b=true) (hy:aP env y=.bool v) (kk:ai P E ops K rest (bp env d (.bool v)) O):ai P E ops K (Oper.mk (some d) (.pick x y z) ty pos af none::rest) env O:=z7 (Fh hc hb hy) kk
theorem aQ {u:TypeId} {a b:Int} (hx:aP env x=.int .i64 a) (hy:aP env y=.int .i64 b) (kk:ai P E ops K rest (bp env d (.int .i64 (a+b))) O) (hr:pq (a+b):=by unfold pq;omega):ai P E ops K (Oper.mk (some d) (.binOp .add t x y u) ty pos af none::rest) env O:=z7 (H6 hx hy hr) kk
theorem au {α:Type} {enc:α→List AV} {xs:List α} {k:Nat} (ht:P.underlying t=some (.slice e)) (hx:aP env x=.fro k (xs.map enc)) (kk:ai P E ops K rest (bp env d (.int .i64 xs.length)) O):ai P E ops K (Oper.mk (some d) (.call { callee:=.builtin .len,args:=#[x],argTypes:=#[t] }) ty pos af none::rest) env O:=z7 (Gv.lenM ht hx) kk
theorem bd {k:Nat} {a:List (List AV)} {cs:List AV} (ha:∀w,(isAgg t).run P w=.ok false w) (hx:aP env x=.pf (.fro k a::cs)) (kk:ai P E ops K rest (bp env d (.fro k a)) O):ai P E ops K (Oper.mk (some d) (.load t x) ty pos af none::rest) env O:=z7 (lA ha hx) kk
theorem bh {k:Nat} {a:List (List AV)} (hx:aP env x=.fro k a) (kk:ai P E ops K rest (bp env d (.fro k a)) O):ai P E ops K (Oper.mk (some d) (.move x) ty pos af none::rest) env O:=z7 (C7 hx) kk
end
set_option linter.defProp false
def jf:=@Tryz.sizeOf36
def jg:=@Tryz.isAgg36
def jh:=@Tryz.underlying24
def ji:=@Tryz.underlying36
def jj:=@Tryz.underlying58
def jk:=@Tryz.zeroValue36
def jm:=@Tryz.sizeOf3
def jo:=@Tryz.underlying43
def jp:=@Tryz.sizeOf2
def jq:=@Tryz.isAgg3
def jr:=@Tryz.sizeOf24
def js:=@Tryz.sizeOf27
def jt:=@Tryz.underlying27
def ju:=@Tryz.isAgg2
def jv:=@Tryz.isAgg24
def jw:=@Tryz.underlying25
def jx:=@Tryz.isAgg27
def jy:=@Tryz.underlying51
def Z0:=@Tryz.underlying48
def Z1:=@Tryz.underlying103
def Z2:=@Tryz.sizeOf51
def Z3:=@Tryz.underlying32
def Z4:=@Tryz.type24
def Z5:=@Tryz.underlying44
def Z6:=@Tryz.underlying57
def Z7:=@Tryz.underlying71
def Z8:=@Tryz.sizeOf43
def Z9:=@Tryz.underlying133
def Za:=@Tryz.underlying63
def Zb:=@Tryz.underlying46
def Zc:=@Tryz.underlying49
def Zd:=@Tryz.underlying23
def Ze:=@Tryz.underlying74
def Zf:=@Tryz.zeroValue51
def Zg:=@Tryz.sizeOf63
def Zh:=@Tryz.underlying105
def Zi:=@Tryz.sizeOf41
def Zj:=@Tryz.sizeOf25
def Zk:=@Tryz.underlying69
def Zl:=@Tryz.sizeOf74
def Zm:=@Tryz.isAgg41
def Zn:=@Tryz.isAgg25
def Zo:=@Tryz.underlying4
def Zp:=@Tryz.underlying226
def Zq:=@Tryz.underlying210
def Zr:=@Tryz.sizeOf4
def Zs:=@Tryz.sizeOf46
def Zt:=@Tryz.underlying59
def Zu:=@Tryz.sizeOf57
def Zv:=@Tryz.underlying158
def Zw:=@Tryz.underlying135
def Zx:=@Tryz.zeroValue43
def Zy:=@Tryz.underlying163
def Zz:=@Tryz.underlying157
def Y0:=@Tryz.underlying3
def Y1:=@Tryz.zeroValue3
def Y2:=@Tryz.sizeOf44
def Y3:=@Tryz.underlying40
def Y4:=@Tryz.sizeOf23
def Y5:=@Tryz.underlying9
def Y6:=@Tryz.isAgg51
def Y7:=@Tryz.sizeOf48
def Y8:=@Tryz.isAgg43
def Y9:=@Tryz.isAgg44
def Ya:=@Tryz.isAgg57
def Yb:=@Tryz.isAgg23
def Yc:=@Tryz.sizeOf49
def Yd:=@Tryz.sizeOf32
set_option linter.defProp false
def zb:=@aN.perm
def zc:=@aN.ops
def zf:=@ai.storeW
def zg:=@ai.callP
def zn:=@so.perm
def zq:=@ai.callA
def zr:=@ai.buildSliceFF
def zw:=@cO.regionDraw
def yh:=@aN.wp
def yp:=@ai.appendS
def yu:=@bt.writes
def yx:=@lW.done
def yz:=@lW.one
def qc:=@bQ.refl
def qj:=@List.getElem?_eq_getElem
def qk:=@List.take_succ_eq_append_getElem
def ql:=@List.append_assoc
def qm:=@Nat.zero_le
def qn:=@List.getElem_mem
def qo:=@List.take_length
def qp:=@List.length_append
def qq:=@List.length_map
def qr:=@List.getElem?_map
def qt:=@List.mem_of_getElem?
def qu:=@Bool.and_eq_true
def qv:=@decide_eq_true_eq
theorem Z {α:Sort _} {a:α}:a=a:=rfl
end
end Go.Proofs.YthphijnnbfjikaaGreatDoor
