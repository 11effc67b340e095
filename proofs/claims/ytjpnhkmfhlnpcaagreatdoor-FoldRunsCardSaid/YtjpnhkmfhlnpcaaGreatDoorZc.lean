/- When programs are the same: the printer's and the document's answer. No conditions but bounds. -/
import Derived.Test.YtjpnhkmfhlnpcaaGreatDoorZb
import Derived.Test.YtjpnhkmfhlnpcaaGreatDoorChecked
import Derived.Test.YtjpnhkmfhlnpcaaGreatDoorZa
set_option linter.unusedVariables false
set_option linter.unusedSimpArgs false
set_option linter.unusedSectionVars false
namespace Go.Proofs.YtjpnhkmfhlnpcaaGreatDoor
section
open Go.Proofs.Tryz
theorem RepR.flat {I:G} {k:Nat} {a:Option Addr}:∀{rows:List (List AV)} {j:Nat},RepR I k a j rows→rows≠[]→∃b off vs,a=some ⟨b,off,none⟩∧RepL I rows.flatten vs∧vs.length=rows.length*k∧∀(i:Nat) u,vs[i]?=some u→B3 I.k b (off+j*k+i) u
 |[],_,_,h=>absurd rfl h
 |[r],j,⟨⟨b,off,vs,e,h1,h2,h3⟩,_⟩,_=>⟨b,off,vs,e,by simpa using h2,by simpa using h1,h3⟩
 |r::r'::rows,j,⟨⟨b,off,vs,e,h1,h2,h3⟩,h4⟩,_=>by
  obtain ⟨b',off',us,e',h5,h6,h7⟩:=RepR.flat h4 (by simp)
  subst e
  cases e'
  refine ⟨b,off,vs++us,rfl,by simpa using h2.append h5,by simp only[List.length_append,h1,h6,List.length_cons,Nat.add_mul];omega,fun i u hu=>?_⟩
  by_cases hi:i<vs.length
  ·rw[List.getElem?_append_left hi] at hu;exact h3 i u hu
  ·rw[List.getElem?_append_right (by omega)] at hu
   have:=h7 _ u hu
   have e:off+(j+1)*k+(i - vs.length)=off+j*k+i:=by rw[Nat.add_mul,h1];omega
   rwa [e] at this
theorem F1 {I:G} {k:Nat} {rows:List (List AV)} {v:Value} (h:cf I (.fro k rows) v) (hc:rows.flatten.all AV.cell=true):∃a n c vs,v=.slice a n c∧n=rows.length∧RepL I rows.flatten vs∧(∀u∈vs,u.oneCell'=true)∧∀O,J4 I.k O k a n vs:=by
 obtain ⟨a,n,c,e,hn,hnc,hnil,hr⟩:=h
 cases rows with
 |nil=>
  refine ⟨a,n,c,[],e,hn,rfl,by simp,fun O=>⟨by simp[hn],by simp,?_⟩⟩
  cases a with
  |none=>exact .inl ⟨rfl,hn⟩
  |some p=>exact .inr ⟨p,rfl,by simp⟩
 |cons r rows=>
  obtain ⟨b,off,vs,e',h1,h2,h3⟩:=hr.flat (by simp)
  refine ⟨a,n,c,vs,e,hn,h1,h1.cell1 hc,fun O=>⟨by rw[h2,hn],h1.cell1 hc,.inr ⟨_,e',fun j u hj=>⟨b,off,rfl,?_⟩⟩⟩⟩
  have:=h3 j u hj
  rw[Nat.zero_mul,Nat.add_zero] at this
  exact .inl this
section
variable {E:World} {P:Program} {ops:Array Oper} {K:aO→OL→Prop} {env:aO} {O O':OL} {rest:List Oper}
variable {d ty:Nat} {pos:String} {af:Array Edge} {x y z:Operand} {t u e:TypeId}
theorem gC.split {I:G} {O1 O2:OL} {F:List (Nat × Obj)} {E w:World} (hO:O.Perm (O1++O2)) (h:gC I O F E w):∃L2,bS I O2 L2∧gC I O1 (L2++F) E w:=by
 obtain ⟨ht,L,hL,hS⟩:=h
 obtain ⟨L',h1,h2⟩:=hL.perm hO
 obtain ⟨A,B,rfl,h3,h4⟩:=bS.append.1 h1
 exact ⟨B,h4,ht,A,h3,hS.perm (by rw[←List.append_assoc];exact (h2.append_right F).symm)⟩
theorem gC.join {I J:G} {O1 O2:OL} {L2 F:List (Nat × Obj)} {E w:World} (hle:I.le J) (h2:bS I O2 L2) (h:gC J O1 (L2++F) E w):gC J (O1++O2) F E w:=by
 obtain ⟨ht,L,hL,hS⟩:=h
 exact ⟨ht,L++L2,bS.append.2 ⟨L,L2,rfl,hL,h2.mono hle⟩,by rw[List.append_assoc];exact hS⟩
theorem gC.drops {I:G} {O1:OL} {L2 F:List (Nat × Obj)} {E w:World} (h:gC I O1 (L2++F) E w):SL I.k (L2++F) E w:=by
 obtain ⟨ht,L,hL,hS⟩:=h
 exact hS.dropAll
theorem ao.callA {f:FuncId} {args:List Operand} {tys:Array TypeId} {as0:List AV} {O1 O2:OL} {R:AV→OL→Prop} (ha:args.map (bf env)=as0) (hO:O.Perm (O1++O2)) (hc:bY P E f as0 O1 R)
  (k:∀r O1',R r O1'→ao P E ops K rest (bD env d r) (O1'++O2)):ao P E ops K (Oper.mk (some d) (.call { callee:=.value (.func f),args:=args.toArray,argTypes:=tys }) ty pos af none::rest) env O:=fun I F ρ w h1 h2=>by
 obtain ⟨L2,hL2,h3⟩:=h2.split hO
 refine bL.callF (hc I (L2++F) w (args.map (ev ρ)) (ha▸h1.evs args) h3) ?_
 rintro v w' ⟨J,r,O1',hle,hr,hS,hR⟩
 exact q5 (fun _ _=>qo hle) _ _ _ (k r O1' hR J F _ _ ((h1.mono hle).upd d hr) (hS.join hle hL2))
theorem ao.callP {f:FuncId} {args:List Operand} {tys:Array TypeId} {as0:List AV} {r:AV} (hc:aZ P E f as0 r) (ha:args.map (bf env)=as0)
  (k:ao P E ops K rest (bD env d r) O):ao P E ops K (Oper.mk (some d) (.call { callee:=.value (.func f),args:=args.toArray,argTypes:=tys }) ty pos af none::rest) env O:=fun I F ρ w h1 h2=>by
 obtain ⟨L2,hL2,h3⟩:=h2.split (O1:=[]) (O2:=O) (.refl _)
 refine bL.callF (hc I (L2++F) w (args.map (ev ρ)) (ha▸h1.evs args) h3) ?_
 rintro v w' ⟨J,r',O1',hle,hr,hS,rfl⟩
 exact q5 (fun _ _=>qo hle) _ _ _ (k J F _ _ ((h1.mono hle).upd d hr) ⟨hS.1,L2,hL2.mono hle,hS.drops⟩)
theorem ao.callVP {f:FuncId} {args:List Operand} {tys:Array TypeId} {a c as0:List AV} {r:AV} (hx:bf env x=.fn f a c) (hc:aZ P E f as0 r) (ha:a++args.map (bf env)++c=as0)
  (k:ao P E ops K rest (bD env d r) O):ao P E ops K (Oper.mk (some d) (.call { callee:=.value x,args:=args.toArray,argTypes:=tys }) ty pos af none::rest) env O:=fun I F ρ w h1 h2=>by
 obtain ⟨L2,hL2,h3⟩:=h2.split (O1:=[]) (O2:=O) (.refl _)
 have h4:=h1.ev x
 rw[hx] at h4
 obtain ⟨vs,us,e,h5,h6⟩:=h4
 refine bL.callV e (hc I (L2++F) w (vs++args.map (ev ρ)++us) (ha▸(h5.append (h1.evs args)).append h6) h3) ?_
 rintro v w' ⟨J,r',O1',hle,hr,hS,rfl⟩
 exact q5 (fun _ _=>qo hle) _ _ _ (k J F _ _ ((h1.mono hle).upd d hr) ⟨hS.1,L2,hL2.mono hle,hS.drops⟩)
theorem Gv.func {f:FuncId} {l m:List Operand} {a c:List AV} (hl:l.map (bf env)=a) (hm:m.map (bf env)=c):Gv P env O (Oper.mk (some d) (.makeFunc (.func f) l.toArray m.toArray) ty pos af none) (.fn f a c):=Gv.ofEv fun I ρ h=>
 ⟨.func (.func f) (l.map (ev ρ)).toArray (m.map (ev ρ)).toArray,⟨_,_,rfl,hl▸h.evs l,hm▸h.evs m⟩,fun w=>by simp[execOp,Instr.makeFunc]⟩
def aX (E:World) (env:aO) (O:OL) (env':aO) (O':OL):Prop:=∀I F ρ w,dX I env ρ→gC I O F E w→∃J,I.le J∧dX J env' ρ∧gC J O' F E w
end
section
variable {E:World} {P:Program} {n:Nat} {os:Array Oper} {env env':aO} {O O':OL}
theorem aX.wp {c:Code} {Q:Exit→aO→OL→Prop} (g:aX E env O env' O') (h:cX P E n c Q env' O'):cX P E n c Q env O:=fun I F ρ w h1 h2=>by
 obtain ⟨J,hle,h3,h4⟩:=g I F ρ w h1 h2
 exact (h J F ρ w h3 h4).mono fun _ _ _=>mV.up hle
theorem aX.ops {K:aO→OL→Prop} {l:List Oper} (g:aX E env O env' O') (h:ao P E os K l env' O'):ao P E os K l env O:=fun I F ρ w h1 h2=>by
 obtain ⟨J,hle,h3,h4⟩:=g I F ρ w h1 h2
 exact q5 (fun _ _=>qo hle) _ _ _ (h J F ρ w h3 h4)
theorem aX.fin {rs:Array ResultVar} {R:AV→OL→Prop} (g:aX E env O env' O') (h:dh P E rs R .ret env' O'):dh P E rs R .ret env O:=fun I F ρ w h1 h2=>by
 obtain ⟨J,hle,h3,h4⟩:=g I F ρ w h1 h2
 obtain ⟨v,h5,K,x,O'',h6,h7⟩:=h J F ρ w h3 h4
 exact ⟨v,h5,K,x,O'',hle.trans h6,h7⟩
theorem aX.perm (h:O.Perm O'):aX E env O env O':=fun I F ρ w h1 h2=>by
 obtain ⟨L2,hL2,h3⟩:=h2.split (O1:=O') (O2:=[]) (by simpa using h)
 have:L2=[]:=hL2
 subst this
 exact ⟨I,.refl _,h1,h3⟩
theorem aX.drop {i:Nat} {o:bF} (h:dv O i o O'):aX E env O env O':=fun I F ρ w h1 h2=>by
 obtain ⟨ht,L,hL,hS⟩:=h2
 obtain ⟨A,B,hp,_,hB⟩:=h.rep hL
 exact ⟨I,.refl _,h1,ht,B,hB,(hS.perm (by rw[←List.append_assoc];exact (hp.append_right F).symm):SL I.k (A++(B++F)) E w).dropAll⟩
theorem aX.slot {t:Nat} {x y:AV} (hv:env t=x) (hi:∀I v,cf I x v→cf I y v):aX E env O (bD env t y) O:=fun I F ρ w h1 h2=>by
 refine ⟨I,.refl _,fun s=>?_,h2⟩
 unfold bD
 cases hb:Nat.beq s t with
 |false=>exact h1 s
 |true=>
  have:s=t:=Nat.eq_of_beq_eq_true hb
  subst this
  exact hi I _ (hv▸h1 s)
end
section
variable {E:World} {P:Program} {n:Nat} {ops:Array Oper} {env:aO} {O O':OL}
theorem jR {c:Code} {Q:Exit→aO→OL→Prop} {t k:Nat} {T:TypeId} (hv:env t=.raw (.slice none 0 0)) (h:∀i,cX P E n c Q (bD env t (.own i 0)) ((i,.grow k T [])::O)):cX P E n c Q env O:=fun I F ρ w h1 h2=>by
 obtain ⟨i,hi⟩:=h2.name
 obtain ⟨J,e1,hle,e2,htop⟩:=hi (none,0)
 obtain ⟨_,L,hL,hS⟩:=h2
 have h3:ρ t=.slice none 0 0:=by have:=h1 t;rw[hv] at this;exact this
 refine (h i J F ρ w (fun s=>?_) ⟨htop,_,⟨[],L,rfl,⟨none,0,0,[],e2,rfl,by simp,fD.nil k T⟩,hL.mono hle⟩,by rw[e1];exact hS⟩).mono fun _ _ _=>mV.up hle
 unfold bD
 cases hb:Nat.beq s t with
 |false=>exact cf.mono hle _ _ (h1 s)
 |true=>
  have:s=t:=Nat.eq_of_beq_eq_true hb
  subst this
  exact ⟨none,0,e2,h3⟩
theorem know {I:G} {F:List (Nat × Obj)} {E w:World} {i k m:Nat} {T:TypeId} {rows:List (List AV)} (hO:dv O i (.grow k T rows.flatten) O') (hk:∀r∈rows,r.length=k) (hk0:0<k) (hm:rows.length=m) (h:gC I O F E w) :
  ∃J,I.le J∧gC J O' F E w∧∀v,cf I (.own i m) v→cf J (.fro k rows) v:=by
 obtain ⟨ht,L,hL,hS⟩:=h
 obtain ⟨A,B,hp,⟨b,c,n,vs,e1,hvs,hvc,hown⟩,hB⟩:=hO.rep hL
 simp only at e1
 have hS2:SL I.k (A++(B++F)) E w:=hS.perm (by rw[←List.append_assoc];exact (hp.append_right F).symm)
 have hflat:rows.flatten.length=rows.length*k:=by
  clear hO hvs hm
  induction rows with
  |nil=>simp
  |cons r rows ih=>simp only[List.flatten_cons,List.length_append,List.length_cons,ih (fun r h=>hk r (by simp[h])),hk r (by simp),Nat.add_mul];omega
 have hnm:n=m:=by
  have h5:=hown.1
  have h6:=hvs.length
  have:n*k=m*k:=by rw[←hm];omega
  exact Nat.eq_of_mul_eq_mul_right hk0 this
 subst hnm
 obtain ⟨h5,h6,h7⟩:=hown
 rcases h7 with ⟨ea,rfl,rfl⟩|⟨b',junk,ea,rfl,hj⟩
 ·refine ⟨I,.refl _,⟨ht,B,hB,by simpa using hS2⟩,?_⟩
  rintro v ⟨b2,c2,e2,rfl⟩
  rw[e1] at e2
  simp only[Option.some.injEq,Prod.mk.injEq] at e2
  obtain ⟨rfl,rfl⟩:=e2
  have h0:rows=[]:=List.eq_nil_of_length_eq_zero (by omega)
  subst h0
  exact ⟨adr b,n,0,rfl,hm.symm,h6,fun _=>rfl,trivial⟩
 ·cases b with
  |none=>simp[adr] at ea
  |some b=>
   simp[adr] at ea
   subst ea
   obtain ⟨hl,hS3⟩:=SL.freeze (by simpa using hS2:SL I.k ((b,.cells (vs++junk).toArray T (0,0))::(B++F)) E w)
   let J:G:=⟨I.k.put b (.cells (vs++junk).toArray T (0,0)),I.h⟩
   have hle:I.le J:=⟨hl,fun _ _ h=>h⟩
   have hb:J.k b=some (.cells (vs++junk).toArray T (0,0)):=aP.put_same _ _ _
   refine ⟨J,hle,⟨ht,B,hB.mono hle,hS3⟩,?_⟩
   rintro v ⟨b2,c2,e2,rfl⟩
   rw[e1] at e2
   simp only[Option.some.injEq,Prod.mk.injEq] at e2
   obtain ⟨rfl,rfl⟩:=e2
   refine ⟨adr (some b),n,c,rfl,hm.symm,h6,fun h=>by simp[adr] at h,RepR.of_flat hb rows vs 0 hk (RepL.mono hle _ _ hvs) fun i u hu=>?_⟩
   rw[Nat.zero_mul,Nat.zero_add,List.getElem?_toArray,List.getElem?_append_left (List.getElem?_eq_some_iff.1 hu).1]
   exact hu
theorem aX.know {t i k m:Nat} {T:TypeId} {rows:List (List AV)} (hv:env t=.own i m) (hO:dv O i (.grow k T rows.flatten) O') (hk:∀r∈rows,r.length=k) (hk0:0<k) (hm:rows.length=m):aX E env O (bD env t (.fro k rows)) O':=fun I F ρ w h1 h2=>by
 obtain ⟨J,hle,h3,h4⟩:=Go.Proofs.YtjpnhkmfhlnpcaaGreatDoor.know hO hk hk0 hm h2
 refine ⟨J,hle,fun s=>?_,h3⟩
 unfold bD
 cases hb:Nat.beq s t with
 |false=>exact cf.mono hle _ _ (h1 s)
 |true=>
  have:s=t:=Nat.eq_of_beq_eq_true hb
  subst this
  exact h4 _ (hv▸h1 s)
end
end
section
open Go.Proofs.Tryz
theorem bR.mono {P:Program} {ops:Array Oper} {S0 S0' S S':World→Prop} {W:Nat→Bool} {Q Q':bU→World→Prop} (hS0:∀w,S0 w→S0' w) (hS:∀w,S w→S' w) (hQ:∀ρ w,Q ρ w→Q' ρ w):∀(fuel:Nat) (listed:Array Bool) (ρ:bU) (w:World),
  bR P ops S0 S W Q fuel listed ρ w→bR P ops S0' S' W Q' fuel listed ρ w
 |0,_,_,_,h=>⟨h.1,hQ _ _ h.2⟩
 |fuel+1,_,_,_,h=>⟨fun h0=>hQ _ _ (h.1 h0),fun i hi o ho=>q5 (fun _ _ ⟨a,b⟩=>⟨⟨hS0 _ a.1,a.2.imp id (hS _)⟩,bR.mono hS0 hS hQ fuel _ _ _ b⟩) _ _ _ (h.2 i hi o ho)⟩
def dD (J0:aP) (L:List (Nat × Obj)) (E:World) (w:World):Prop:=∃J L',J0.le J∧SL J L' E w∧∀y∈L,y∈L'
def bJ (P:Program) (E:World) (l:List Oper) (W:Nat→Bool) (Q:aO→OL→Prop) (fuel:Nat) (listed:Array Bool) (env:aO) (Os Om:OL):Prop:=
 ∀I F ρ w Ls,dX I env ρ→bS I Os Ls→gC I Om (Ls++F) E w→bR P l.toArray (dD I.k [] E) (dD I.k Ls E) W (eV I F E Q) fuel listed ρ w
def mW (P:Program) (E:World) (l:List Oper) (W:Nat→Bool) (Q:aO→OL→Prop) (fuel:Nat) (listed:Array Bool) (env:aO) (O:OL):Prop:=
 ∀I F ρ w,dX I env ρ→gC I O F E w→∀S,bR P l.toArray (dD I.k [] E) S W (eV I F E Q) fuel listed ρ w
theorem gC.here {I:G} {Om:OL} {Ls F:List (Nat × Obj)} {E w:World} (h:gC I Om (Ls++F) E w):dD I.k Ls E w:=by
 obtain ⟨_,L,_,hS⟩:=h
 exact ⟨I.k,_,.refl _,hS,fun y hy=>by simp[hy]⟩
theorem gC.together {I:G} {Os Om:OL} {Ls F:List (Nat × Obj)} {E w:World} (hs:bS I Os Ls) (h:gC I Om (Ls++F) E w):gC I (Os++Om) F E w:=by
 obtain ⟨ht,L,hL,hS⟩:=h
 refine ⟨ht,Ls++L,bS.append.2 ⟨Ls,L,rfl,hs,hL⟩,hS.perm ?_⟩
 rw[←List.append_assoc]
 exact (List.perm_append_comm).append_right F
theorem dD.less {J0:aP} {L:List (Nat × Obj)} {E w:World} (h:dD J0 L E w):dD J0 [] E w:=let ⟨J,L',a,b,_⟩:=h;⟨J,L',a,b,fun _ h=>(by cases h)⟩
section
variable {E:World} {P:Program} {n:Nat} {l:List Oper} {W:Nat→Bool} {Q:aO→OL→Prop} {fuel:Nat} {listed:Array Bool} {env:aO} {O Os Om:OL}
variable {d ty:Nat} {op:Op} {pos:String} {af:Array Edge}
theorem cX.regionDraw (W:Nat→Bool) {Q:Exit→aO→OL→Prop} {id:Nat} (hm:P.follows .mixedOrders=true) (hd:eX n l=true) (hO:O.Perm (Om++Os)) (h:bJ P E l W (Q .normal) l.length (Array.replicate l.length false) env Os Om):cX P E n (.region id l.toArray true) Q env O:=fun I F ρ w h1 h2=>by
 obtain ⟨Ls,hLs,h3⟩:=h2.split hO
 refine WP.regionDraw (dD I.k [] E) (dD I.k Ls E) W hm hd fun w' hw=>?_
 subst hw
 refine h I F ρ _ Ls h1 hLs ?_
 obtain ⟨ht,L,hL,hS⟩:=h3
 exact ⟨ht,L,hL,hS.drew⟩
theorem DH {i:Nat} (hr:Region.ready .any l.toArray listed=[i]) (hW:(W i||!eZ W listed)=true):dZ W (listed.setIfInBounds i true):=by
 have h1:=(mem_ready.1 (show i∈Region.ready .any l.toArray listed by rw[hr];exact .head _)).1
 have hi:i<listed.size:=by
  rcases Nat.lt_or_ge i listed.size with h|h
  ·exact h
  ·rw[Array.getD_eq_getD_getElem?,Array.getElem?_eq_none h] at h1;cases h1
 rcases Bool.or_eq_true_iff.1 hW with h|h
 ·refine ⟨i,?_,h⟩
  rw[Array.getD_eq_getD_getElem?,Array.getElem?_setIfInBounds,if_pos rfl,if_pos hi];rfl
 ·refine kZ ?_
  have h:eZ W listed=false:=by simpa using h
  unfold eZ at h
  obtain ⟨j,_,hj⟩:=List.all_eq_false.1 h
  simp only[Bool.not_eq_true,Bool.not_eq_false',Bool.and_eq_true] at hj
  exact ⟨j,by simpa using hj⟩
theorem bJ.takeK {i:Nat} {x:AV} (hi:l[i]?=some (Oper.mk (some d) op ty pos af none)) (hs:Region.noSelect l.toArray=true) (hf:Region.free .any l.toArray listed i=true)
  (hr:(Region.ready .any l.toArray listed).contains i=true) (hWi:W i=false) (hg:Gv P env [] (Oper.mk (some d) op ty pos af none) x)
  (h:bJ P E l W Q fuel (listed.setIfInBounds i true) (bD env d x) Os Om):bJ P E l W Q (fuel+1) listed env Os Om:=fun I F ρ w Ls h1 hLs h2=>by
 obtain ⟨v,hv,hrun⟩:=hg I [] E ρ h1 rfl
 exact bR.takeK hi hs hf hr hWi h2.here.less (.inr h2.here) (fun w ⟨J,L',a,b,c⟩=>hrun w J L' a b c) (h I F _ w Ls (h1.upd d hv) hLs h2)
theorem bJ.take {i:Nat} {x:AV} (hi:l[i]?=some (Oper.mk (some d) op ty pos af none)) (hs:Region.noSelect l.toArray=true) (hf:Region.free .any l.toArray listed i=true)
  (hr:(Region.ready .any l.toArray listed).contains i=true) (hW:fV l i W=true) (hWi:W i=false) (hcl:eZ W listed=true) (hg:Gv P env Os (Oper.mk (some d) op ty pos af none) x)
  (h:bJ P E l W Q fuel (listed.setIfInBounds i true) (bD env d x) Os Om):bJ P E l W Q (fuel+1) listed env Os Om:=fun I F ρ w Ls h1 hLs h2=>by
 obtain ⟨v,hv,hrun⟩:=hg I Ls E ρ h1 hLs
 exact bR.take hi hs hf hr hW hWi hcl h2.here.less h2.here (fun w ⟨J,L',a,b,c⟩=>hrun w J L' a b c) (h I F _ w Ls (h1.upd d hv) hLs h2)
theorem bJ.takeT {i j s:Nat} {b t:Bool} {x:AV} (hi:l[i]?=some (Oper.mk (some d) op ty pos af (some (j,b)))) (hg0:(l[j]?).bind (fun o:Oper=>o.dst)=some s) (hv0:env s=.bool t) (ht:t=b) (hs:Region.noSelect l.toArray=true) (hf:Region.free .any l.toArray listed i=true)
  (hr:(Region.ready .any l.toArray listed).contains i=true) (hW:fV l i W=true) (hWi:W i=false) (hcl:eZ W listed=true) (hg:Gv P env Os (Oper.mk (some d) op ty pos af none) x)
  (h:bJ P E l W Q fuel (listed.setIfInBounds i true) (bD env d x) Os Om):bJ P E l W Q (fuel+1) listed env Os Om:=fun I F ρ w Ls h1 hLs h2=>by
 obtain ⟨v,hv,hrun⟩:=hg I Ls E ρ h1 hLs
 exact bR.takeT hi hg0 (by have:=h1 s;rw[hv0] at this;exact this) ht hs hf hr hW hWi hcl h2.here.less h2.here (fun w ⟨J,L',a,b,c⟩=>hrun w J L' a b c) (h I F _ w Ls (h1.upd d hv) hLs h2)
theorem bJ.takeF {i j s:Nat} {b t:Bool} (hi:l[i]?=some (Oper.mk (some d) op ty pos af (some (j,b)))) (hg0:(l[j]?).bind (fun o:Oper=>o.dst)=some s) (hv0:env s=.bool t) (ht:t=!b) (hs:Region.noSelect l.toArray=true) (hf:Region.free .any l.toArray listed i=true)
  (hr:(Region.ready .any l.toArray listed).contains i=true) (hW:fV l i W=true) (hWi:W i=false) (hcl:eZ W listed=true)
  (h:bJ P E l W Q fuel (listed.setIfInBounds i true) (bD env d (.raw undef)) Os Om):bJ P E l W Q (fuel+1) listed env Os Om:=fun I F ρ w Ls h1 hLs h2=>
 bR.takeF hi hg0 (by have:=h1 s;rw[hv0] at this;exact this) ht hs hf hr hW hWi hcl h2.here.less h2.here (h I F _ w Ls (h1.upd d rfl) hLs h2)
theorem bJ.one {i:Nat} {o:Oper} (hi:l[i]?=some o) (hr:Region.ready .any l.toArray listed=[i])
  (h:ao P E l.toArray (fun env' Om'=>bJ P E l W Q fuel (listed.setIfInBounds i true) env' Os Om') [o] env Om):bJ P E l W Q (fuel+1) listed env Os Om:=fun I F ρ w Ls h1 hLs h2=>
 bR.one hi hr (q5 (fun ρ' w' ⟨J,env',Om',a,b,c,d⟩=>by
  have hst:dD I.k Ls E w':=by
   obtain ⟨J',L',h3,h4,h5⟩:=c.here
   exact ⟨J',L',a.k.trans h3,h4,h5⟩
  refine ⟨⟨hst.less,.inr hst⟩,bR.mono ?_ ?_ (fun _ _=>qo a) _ _ _ _ (d J F ρ' w' Ls b (hLs.mono a) c)⟩
  ·rintro w ⟨J',L',h3,h4⟩;exact ⟨J',L',a.k.trans h3,h4⟩
  ·rintro w ⟨J',L',h3,h4⟩;exact ⟨J',L',a.k.trans h3,h4⟩) _ _ _ (h I (Ls++F) ρ w h1 h2))
theorem bJ.done (hr:Region.ready .any l.toArray listed=[]) (h:Q env (Os++Om)):bJ P E l W Q fuel listed env Os Om:=fun I F ρ w Ls h1 hLs h2=>
 bR.done hr ⟨I,env,Os++Om,.refl _,h1,gC.together hLs h2,h⟩
theorem bJ.case {t:Bool} {s:Nat} (_:env s=.bool t) (h1:t=true→bJ P E l W Q fuel listed env Os Om) (h2:t=false→bJ P E l W Q fuel listed env Os Om):bJ P E l W Q fuel listed env Os Om:=by
 cases t
 ·exact h2 rfl
 ·exact h1 rfl
theorem bJ.writes (h:mW P E l W Q fuel listed env (Os++Om)):bJ P E l W Q fuel listed env Os Om:=fun I F ρ w Ls h1 hLs h2=>h I F ρ w h1 (gC.together hLs h2) _
theorem mW.one {i:Nat} {o:Oper} (hi:l[i]?=some o) (hr:Region.ready .any l.toArray listed=[i]) (hW:(W i||!eZ W listed)=true)
  (h:ao P E l.toArray (fun env' O'=>mW P E l W Q fuel (listed.setIfInBounds i true) env' O') [o] env O):mW P E l W Q (fuel+1) listed env O:=fun I F ρ w h1 h2 S=>
 bR.one hi hr (q5 (fun ρ' w' ⟨J,env',O',a,b,c,d⟩=>⟨⟨(by
  obtain ⟨_,L',_,h4⟩:=c
  exact ⟨J.k,_,a.k,h4,fun _ h=>(by cases h)⟩),.inl (DH hr hW)⟩,bR.mono (fun _ ⟨J',L',h3,h4⟩=>⟨J',L',a.k.trans h3,h4⟩) (fun _ h=>h) (fun _ _=>qo a) _ _ _ _ (d J F ρ' w' b c S)⟩) _ _ _ (h I F ρ w h1 h2))
theorem mW.done (hr:Region.ready .any l.toArray listed=[]) (h:Q env O):mW P E l W Q fuel listed env O:=fun I F ρ w h1 h2 S=>
 bR.done hr ⟨I,env,O,.refl _,h1,h2,h⟩
end
theorem RepL.same {I J:G} (hle:I.le J):∀{cs:List AV} {vs:List Value},RepL I cs vs→∀{off:Nat} {x y:AV},cs[off]?=some x→(∀v,cf I x v→cf J y v)→RepL J (cs.set off y) vs
 |[],_,_,_,_,_,h,_=>by simp at h
 |c::cs,_,⟨v,us,e,h1,h2⟩,off,x,y,h,hxy=>by
  subst e
  cases off with
  |zero=>simp at h;subst h;exact ⟨v,us,rfl,hxy v h1,RepL.mono hle _ _ h2⟩
  |succ off=>exact ⟨v,us,rfl,cf.mono hle _ _ h1,RepL.same hle h2 (by simpa using h) hxy⟩
section
variable {E:World} {P:Program} {n:Nat} {env:aO} {O O' O'':OL}
theorem gB.same {I J:G} {F:List (Nat × Obj)} {E w:World} {j off:Nat} {T:TypeId} {cs:List AV} {x y:AV} (hle:I.le J) (hk:J.k=I.k∨True) (hp:gB O j (.cells T cs) (.cells T (cs.set off y)) O') (hc:cs[off]?=some x) (hxy:∀v,cf I x v→cf J y v)
  {L:List (Nat × Obj)} (hL:bS I O L):∃L',bS J O' L'∧L.Perm L':=by
 obtain ⟨A,B,hp1,⟨b,c,vs,e1,hvs,hvc,rfl⟩,hback⟩:=hp.rep hL
 obtain ⟨L',h1,h2⟩:=hback hle (A':=[(b,.cells vs.toArray T (0,0))]) ⟨b,c,vs,hle.h _ _ e1,hvs.same hle hc hxy,hvc,rfl⟩
 exact ⟨L',h1,hp1.trans h2.symm⟩
theorem aX.knowC {j off i k m:Nat} {T T':TypeId} {cs:List AV} {rows:List (List AV)} (hO:dv O i (.grow k T rows.flatten) O') (hP:gB O' j (.cells T' cs) (.cells T' (cs.set off (.fro k rows))) O'') (hc:cs[off]?=some (.own i m))
  (hk:∀r∈rows,r.length=k) (hk0:0<k) (hm:rows.length=m):aX E env O env O'':=fun I F ρ w h1 h2=>by
 obtain ⟨J,hle,h3,h4⟩:=Go.Proofs.YtjpnhkmfhlnpcaaGreatDoor.know hO hk hk0 hm h2
 obtain ⟨ht,L,hL,hS⟩:=h3
 obtain ⟨_,L0,hL0,hS0⟩:=h2
 obtain ⟨A,B,hp,⟨b,c,vs,e1,hvs,hvc,rfl⟩,hback⟩:=hP.rep hL
 obtain ⟨A0,B0,hp0,_,hB0⟩:=hO.rep hL0
 obtain ⟨A1,B1,hp1,⟨b1,c1,vs1,e2,hvs1,hvc1,rfl⟩,_⟩:=hP.rep hB0
 have e3:=hle.h _ _ e2
 simp only at e1 e3
 rw[e1] at e3
 simp only[Option.some.injEq,Prod.mk.injEq] at e3
 obtain ⟨rfl,rfl⟩:=e3
 have hS1:SL I.k (A0++(B0++F)) E w:=hS0.perm (by rw[←List.append_assoc];exact (hp0.append_right F).symm)
 have hv1:=hS1.own (b,.cells vs1.toArray T' (0,0)) (by simp;right;left;exact hp1.mem_iff.2 (by simp))
 have hv:=hS.own (b,.cells vs.toArray T' (0,0)) (by simp;left;exact hp.mem_iff.2 (by simp))
 simp only at hv hv1
 rw[hv] at hv1
 simp only[Option.some.injEq,Obj.cells.injEq] at hv1
 have hvv:vs=vs1:=by have:=congrArg Array.toList hv1.1;simpa using this
 subst hvv
 obtain ⟨L',h5,h6⟩:=hback (G.le.refl J) (A':=[(b,.cells vs.toArray T' (0,0))]) ⟨b,c,vs,e1,hvs1.same hle hc h4,hvc,rfl⟩
 exact ⟨J,hle,h1.mono hle,ht,L',h5,hS.perm (((h6.trans hp.symm).append_right F))⟩
theorem di {j off k:Nat} {T T':TypeId} {cs:List AV} {c:Code} {Q:Exit→aO→OL→Prop} {f:Nat→OL} (hP:∀i,gB O j (.cells T' cs) (.cells T' (cs.set off (.own i 0))) (f i)) (hc:cs[off]?=some (.raw (.slice none 0 0)))
  (h:∀i,cX P E n c Q env ((i,.grow k T [])::f i)):cX P E n c Q env O:=fun I F ρ w h1 h2=>by
 obtain ⟨i,hi⟩:=h2.name
 obtain ⟨J,e1,hle,e2,htop⟩:=hi (none,0)
 obtain ⟨_,L,hL,hS⟩:=h2
 obtain ⟨L',h3,h4⟩:=gB.same (F:=F) (E:=E) (w:=w) hle (.inr trivial) (hP i) hc (fun v hv=>⟨none,0,e2,hv⟩) hL
 exact (h i J F ρ w (h1.mono hle) ⟨htop,_,⟨[],L',rfl,⟨none,0,0,[],e2,rfl,by simp,fD.nil k T⟩,h3⟩,by rw[e1];exact hS.perm (h4.symm.append_right F)⟩).mono fun _ _ _=>mV.up hle
end
def AV.plain:AV→Bool
 |.bool _ | .int _ _ | .str _=>true
 |_=>false
theorem AV.plain_rep {I J:G} {x:AV} {v:Value} (hp:x.plain=true) (h:cf I x v):cf J x v:=by
 cases x<;>first|exact h|cases hp
theorem DI {k:Nat} {rows:List (List AV)} (hk:∀r∈rows,r.length=k):rows.flatten.length=rows.length*k:=by
 induction rows with
 |nil=>simp
 |cons r rows ih=>simp only[List.flatten_cons,List.length_append,List.length_cons,ih (fun r h=>hk r (by simp[h])),hk r (by simp),Nat.add_mul];omega
end
section
open Go.Proofs.Tryz
inductive se:OL→OL→OL→Prop
 |rest (O):se O O []
 |l {x O A B}:se O A B→se (x::O) (x::A) B
 |r {x O A B}:se O A B→se (x::O) A (x::B)
theorem se.perm {O A B:OL} (h:se O A B):O.Perm (A++B):=by
 induction h with
 |rest=>simp
 |l _ ih=>exact ih.cons _
 |r _ ih=>exact (ih.cons _).trans List.perm_middle.symm
section
variable {E:World} {P:Program} {n:Nat} {ops:Array Oper} {K:aO→OL→Prop} {env:aO} {O O':OL} {rest:List Oper}
variable {d ty:Nat} {pos:String} {af:Array Edge} {x y z:Operand} {t u e:TypeId}
theorem ao.storeW {i m:Nat} {T:TypeId} {v:AV} {cs l:List AV} (hs:∀w,(sizeOf t).run P w=.ok m w) (hx:bf env x=.po i 0) (hy:bf env y=v) (hv:v.sto=true) (hl:v.cs=l) (hl1:l.all AV.cell=true) (hn:l.length=m)
  (hO:gB O i (.cells T cs) (.cells T l) O') (hb:cs.length=m) (k:ao P E ops K rest env O'):ao P E ops K (Oper.mk none (.store t x y) ty pos af none::rest) env O:=
 yg (off:=0) hs hx hy hv hl hl1 hn hO (by rw[hb];simp) (by rw[Nat.zero_add,List.drop_eq_nil_of_le (by omega)];simp) k
theorem ao.storeG {i off m k:Nat} {T:TypeId} {v:AV} {cs l new:List AV} (hs:∀w,(sizeOf t).run P w=.ok m w) (hx:bf env x=.po i off) (hy:bf env y=v) (hv:v.sto=true) (hl:v.cs=l) (hl1:l.all AV.cell=true) (hn:l.length=m)
  (hO:gB O i (.grow k T cs) (.grow k T new) O') (hb:off+m≤cs.length) (hm:0<m) (hnew:cs.take off++l++cs.drop (off+m)=new) (kk:ao P E ops K rest env O'):ao P E ops K (Oper.mk none (.store t x y) ty pos af none::rest) env O:=fun I F ρ w h1 h2=>by
 obtain ⟨htop,L,hL,hS⟩:=h2
 have h3:=h1.ev x
 rw[hx] at h3
 obtain ⟨b,c,e1,e⟩:=h3
 have h4:=h1.ev y
 rw[hy] at h4
 have h5:=AV.cs_rep h4 hv
 rw[hl] at h5
 obtain ⟨A,B,hp,⟨b',c',n',vs,e2,h6,h6c,hown⟩,hback⟩:=hO.rep hL
 simp only at e2
 rw[e1] at e2
 simp only[Option.some.injEq,Prod.mk.injEq] at e2
 obtain ⟨rfl,rfl⟩:=e2
 obtain ⟨g1,g2,g3⟩:=hown
 rcases g3 with ⟨g3,_,_⟩|⟨b'',junk,g3,rfl,g4⟩
 ·simp[adr] at g3
 simp[adr] at g3
 subst g3
 have hS2:SL I.k ((b,.cells (vs++junk).toArray T (0,0))::(B++F)) E w:=hS.perm ((hp.append_right F).symm)
 have hlen:=h6.length
 have hrun:=jQ (P:=P) (t:=t) (b:=b) (off:=off) (v:=ev ρ y) (vs:=(ev ρ y).cells.toList) (old:=vs++junk) (w:=w) hs (by simp) (by rw[h5.length,hn]) (h5.cell1 hl1) (by rw[List.length_append];omega) (hS2.own _ (.head _))
 have hre:(vs++junk).take off++(ev ρ y).cells.toList++(vs++junk).drop (off+m)=(vs.take off++(ev ρ y).cells.toList++vs.drop (off+m))++junk:=by
  rw[List.take_append_of_le_length (by omega),List.drop_append_of_le_length (by omega)];simp
 rw[hre] at hrun
 refine bL.step rfl ?_
 unfold ei
 have:(execOp (ev ρ) (Oper.mk none (.store t x y) ty pos af none)).run P w=.ok .skip (w.setRow b ((vs.take off++(ev ρ y).cells.toList++vs.drop (off+m))++junk).toArray):=by
  simp only[execOp,e]
  rw[Sem.run_bind,hrun];rfl
 rw[this]
 have hnr:RepL I new (vs.take off++(ev ρ y).cells.toList++vs.drop (off+m)):=hnew▸((h6.take off).append h5).append (h6.drop (off+m))
 have hnl:(vs.take off++(ev ρ y).cells.toList++vs.drop (off+m)).length=vs.length:=by
  have:=h5.length
  simp only[List.length_append,List.length_take,List.length_drop];omega
 obtain ⟨L',h7,h8⟩:=hback (G.le.refl I) (A':=[(b,.cells ((vs.take off++(ev ρ y).cells.toList++vs.drop (off+m))++junk).toArray T (0,0))]) ⟨some b,_,n',_,e1,hnr,by
  intro u hu
  simp only[List.mem_append] at hu
  rcases hu with (hu|hu)|hu
  ·exact h6c u (List.mem_of_mem_take hu)
  ·exact h5.cell1 hl1 u hu
  ·exact h6c u (List.mem_of_mem_drop hu),by rw[hnl];exact g1,g2,.inr ⟨b,junk,rfl,rfl,by
   simp only[List.length_append] at g4 ⊢
   simp only[List.length_append] at hnl
   omega⟩⟩
 exact kk I F ρ _ h1 ⟨htop,L',h7,(hS2.turn1).perm (h8.append_right F)⟩
theorem ao.storeG1 {i off k:Nat} {T:TypeId} {v:AV} {cs:List AV} (hs:∀w,(sizeOf t).run P w=.ok 1 w) (hx:bf env x=.po i off) (hy:bf env y=v) (hv:v.sto=true) (hl:v.cs=[v]) (hl1:v.cell=true)
  (hO:gB O i (.grow k T cs) (.grow k T (cs.set off v)) O') (hb:off<cs.length) (kk:ao P E ops K rest env O'):ao P E ops K (Oper.mk none (.store t x y) ty pos af none::rest) env O:=
 ao.storeG hs hx hy hv hl (by simp[hl1]) rfl hO (by omega) (by omega) (by rw[List.set_eq_take_append_cons_drop,if_pos hb];simp) kk
theorem Gv.field1 {fs:Array Field} {f:Field} {i:Nat} {cs:List AV} {v:AV} (ht:P.underlying t=some (.struct fs)) (hf:fs[i]?=some f) (ha:∀w,(isAgg f.type).run P w=.ok false w) (hx:bf env x=.agg cs) (hv:cs[f.offset]?=some v) :
  Gv P env O (Oper.mk (some d) (.field t x i) ty pos af none) v:=Gv.ofEv fun I ρ h=>by
 have h2:=h.ev x
 rw[hx] at h2
 obtain ⟨vs,e,hr⟩:=h2
 obtain ⟨u,hu,hru⟩:=hr.get hv
 exact ⟨u,hru,fun w=>by simp[execOp,e,Instr.field,run_underlying ht,hf,part,ha,hu,asAgg,Result.andThen]⟩
theorem Gv.idxAF {n k j:Nat} {i:Int} {cs cs':List AV} (ht:P.underlying t=some (.array n e)) (hs:∀w,(sizeOf e).run P w=.ok k w) (hx:bf env x=.pf cs) (hy:bf env y=.int .i64 i) (hi:i=(j:Int)) (hj:j<n) (hl:cs.drop (j*k)=cs') :
  Gv P env O (Oper.mk (some d) (.indexAddr t x y) ty pos af none) (.pf cs'):=fun I L E ρ h1 _=>by
 have h2:=h1.ev x
 rw[hx] at h2
 obtain ⟨b,off,vs,ex,h3,h5⟩:=h2
 refine ⟨.pointer (some ⟨b,off+j*k,none⟩),⟨b,_,vs.drop (j*k),rfl,hl▸h3.drop _,fun m u hu=>?_⟩,fun w J L' _ _ _=>?_⟩
 ·rw[List.getElem?_drop] at hu
  have:=h5 _ _ hu
  rwa [←Nat.add_assoc] at this
 ·subst hi
  simp[execOp,ex,gD h1 hy,Instr.indexAt,asIntOf,run_underlying ht,hs,hj,bK,Instr.sureAddr]
theorem Gv.idxAO {n k j id off:Nat} {i:Int} (ht:P.underlying t=some (.array n e)) (hs:∀w,(sizeOf e).run P w=.ok k w) (hx:bf env x=.po id off) (hy:bf env y=.int .i64 i) (hi:i=(j:Int)) (hj:j<n) {r:Nat} (hr:off+j*k=r) :
  Gv P env O (Oper.mk (some d) (.indexAddr t x y) ty pos af none) (.po id r):=fun I L E ρ h1 _=>by
 have h2:=h1.ev x
 rw[hx] at h2
 obtain ⟨b,c,e1,ex⟩:=h2
 refine ⟨.pointer (some ⟨b,r,none⟩),⟨b,c,e1,rfl⟩,fun w J L' _ _ _=>?_⟩
 subst hi hr
 simp[execOp,ex,gD h1 hy,Instr.indexAt,asIntOf,run_underlying ht,hs,hj,bK,Instr.sureAddr]
theorem Gv.indexA {n j k:Nat} {i:Int} {cs l:List AV} (ht:P.underlying t=some (.array n e)) (ha:∀w,(isAgg e).run P w=.ok true w) (hs:∀w,(sizeOf e).run P w=.ok k w) (hx:bf env x=.agg cs) (hy:bf env y=.int .i64 i) (hi:i=(j:Int)) (hj:j<n) (hl:(cs.drop (j*k)).take k=l) :
  Gv P env O (Oper.mk (some d) (.index t x y) ty pos af none) (.agg l):=Gv.ofEv fun I ρ h=>by
 have h2:=h.ev x
 rw[hx] at h2
 obtain ⟨vs,ex,hr⟩:=h2
 refine ⟨.agg ((vs.drop (j*k)).take k).toArray,⟨_,rfl,hl▸(hr.drop _).take _⟩,fun w=>?_⟩
 subst hi
 simp[execOp,ex,gD h hy,Instr.index,asIntOf,run_underlying ht,hj,hs,part,ha,Result.andThen]
theorem Gv.indexT {j:Nat} {i:Int} {s:ByteArray} {c:UInt8} (ht:P.underlying t=some .string) (hx:bf env x=.str s) (hy:bf env y=.int .i64 i) (hi:i=(j:Int)) (hv:s.data[j]?=some c) :
  Gv P env O (Oper.mk (some d) (.index t x y) ty pos af none) (.int .u8 c.toNat):=Gv.ofEv fun I ρ h=>by
 refine ⟨_,rfl,fun w=>?_⟩
 subst hi
 have hj:s[j]?=some c:=by
  have h1:=(Array.getElem?_eq_some_iff.1 hv)
  obtain ⟨h1,h2⟩:=h1
  show (if h:j<s.size then some s[j] else none)=some c
  rw[dif_pos (show j<s.size from h1)];exact congrArg some h2
 simp[execOp,F0 h hx,gD h hy,Instr.index,asIntOf,run_underlying ht,hj]
theorem ao.rangeT {s:ByteArray} (ht:P.underlying t=some .string) (hx:bf env x=.str s) (k:∀i,ao P E ops K rest (bD env d (.po i 0)) ((i,.iter s 0)::O)):ao P E ops K (Oper.mk (some d) (.range t x) ty pos af none::rest) env O:=fun I F ρ w h1 h2=>by
 obtain ⟨L,hL,hS⟩:=h2.2
 obtain ⟨i,hi⟩:=h2.name
 refine bL.rangeT ht hS (F0 h1 hx) fun b w' hS'=>?_
 obtain ⟨J,e1,hle,e2,htop⟩:=hi (some b,0)
 exact q5 (fun _ _=>qo hle) _ _ _ (k i J F _ _ ((h1.mono hle).upd d ⟨b,0,e2,rfl⟩) ⟨htop,_,⟨_,L,rfl,⟨b,0,e2,rfl⟩,hL.mono hle⟩,by rw[e1];exact hS'⟩)
theorem ao.nextT {i p:Nat} {s:ByteArray} (hx:bf env x=.po i 0) (hO:gB O i (.iter s p) (.iter s (p+(Utf8.decode s p).2)) O') (hp:p<s.size)
  (k:ao P E ops K rest (bD env d (.tup [.bool true,.int .i64 p,.int .i32 (Utf8.decode s p).1])) O'):ao P E ops K (Oper.mk (some d) (.next x true) ty pos af none::rest) env O:=fun I F ρ w h1 h2=>by
 obtain ⟨ht,L,hL,hS⟩:=h2
 have h3:=h1.ev x
 rw[hx] at h3
 obtain ⟨b,c,e1,e⟩:=h3
 obtain ⟨A,B,hp1,⟨b',c',e2,rfl⟩,hback⟩:=hO.rep hL
 simp only at e2
 rw[e1] at e2
 simp only[Option.some.injEq,Prod.mk.injEq] at e2
 obtain ⟨rfl,rfl⟩:=e2
 have hS2:SL I.k ((b,.stringIter s p)::(B++F)) E w:=hS.perm ((hp1.append_right F).symm)
 refine bL.nextT hS2 e hp fun w' hS'=>?_
 obtain ⟨L',h7,h8⟩:=hback (G.le.refl I) (A':=[(b,.stringIter s (p+(Utf8.decode s p).2))]) ⟨b,c,e1,rfl⟩
 exact k I F _ _ (h1.upd d ⟨[.bool true,.int .i64 p,.int .i32 (Utf8.decode s p).1],rfl,⟨_,_,rfl,rfl,⟨_,_,rfl,rfl,⟨_,_,rfl,rfl,rfl⟩⟩⟩⟩) ⟨ht,L',h7,hS'.perm (h8.append_right F)⟩
theorem ao.nextTover {i p:Nat} {s:ByteArray} (hx:bf env x=.po i 0) (hO:dv O i (.iter s p) O') (hp:¬p<s.size)
  (k:ao P E ops K rest (bD env d (.tup [.bool false])) O):ao P E ops K (Oper.mk (some d) (.next x true) ty pos af none::rest) env O:=fun I F ρ w h1 h2=>by
 obtain ⟨ht,L,hL,hS⟩:=id h2
 have h3:=h1.ev x
 rw[hx] at h3
 obtain ⟨b,c,e1,e⟩:=h3
 obtain ⟨A,B,hp1,⟨b',c',e2,rfl⟩,_⟩:=hO.rep hL
 simp only at e2
 rw[e1] at e2
 simp only[Option.some.injEq,Prod.mk.injEq] at e2
 obtain ⟨rfl,rfl⟩:=e2
 have hS2:SL I.k ((b,.stringIter s p)::(B++F)) E w:=hS.perm (by have:=(hp1.append_right F).symm;simpa using this)
 exact bL.nextTover hS2 e hp (k I F _ _ (h1.upd d ⟨[.bool false],rfl,⟨_,_,rfl,rfl,rfl⟩⟩) h2)
theorem ao.nextA {i p:Nat} {s:ByteArray} {c:UInt8} (hx:bf env x=.po i 0) (hc:s.data[p]?=some c) (hc2:c<128) (hO:gB O i (.iter s p) (.iter s (p+1)) O')
  (k:ao P E ops K rest (bD env d (.tup [.bool true,.int .i64 p,.int .i32 (c.toNat:Int)])) O'):ao P E ops K (Oper.mk (some d) (.next x true) ty pos af none::rest) env O:=by
 have hp:p<s.size:=by
  by_cases hp:p<s.data.size
  ·exact hp
  ·rw[Array.getElem?_eq_none (by omega)] at hc;cases hc
 have hd:=lH hc hc2
 exact ao.nextT hx (by rw[hd];exact hO) hp (by rw[hd];exact k)
end
end
section
open Go.Proofs.Tryz
theorem mr {k:Nat}:∀(xs:List (List AV)) (i:Nat) (pre zs:List AV),(∀x∈xs,x.length=k)→zs.length=xs.length*k→pre.length=i*k →
  iY (fun i=>some (i*k,k)) (pre++zs) ((xs.zipIdx i).map fun p=>(p.2,p.1))=some (pre++xs.flatten)
 |[],i,pre,zs,_,h,_=>by simp at h;subst h;simp[iY]
 |x::xs,i,pre,zs,hk,h,hp=>by
  have hx:=hk x (by simp)
  have e1:Nat.beq x.length k=true:=by rw[hx];exact Nat.beq_refl k
  have e2:Nat.ble (i*k+k) (pre++zs).length=true:=by
   rw[Nat.ble_eq,List.length_append,hp,h,List.length_cons,Nat.add_mul];omega
  simp only[List.zipIdx_cons,List.map_cons,iY,e1,e2,Bool.and_self,cond_true]
  have h1:(pre++zs).take (i*k)=pre:=by rw[←hp];simp
  have h2:(pre++zs).drop (i*k+k)=zs.drop k:=by rw[←hp,List.drop_append];simp
  rw[h1,h2,←List.append_assoc]
  rw[mr xs (i+1) (pre++x) (zs.drop k) (fun y hy=>hk y (by simp[hy])) (by rw[List.length_drop,h,List.length_cons,Nat.add_mul];omega) (by rw[List.length_append,hp,hx,Nat.add_mul];omega)]
  simp
theorem wZ {α:Type} {enc:α→List AV} {k:Nat} (hk:∀x,(enc x).length=k):∀(l:List α) (j:Nat) {x:α},l[j]?=some x→((l.flatMap enc).drop (j*k)).take k=enc x
 |[],j,x,h=>by simp at h
 |y::l,0,x,h=>by simp at h;subst h;simp[List.take_append_of_le_length,hk]
 |y::l,j+1,x,h=>by
  simp only[List.getElem?_cons_succ] at h
  rw[←wZ hk l j h,List.flatMap_cons,Nat.add_mul,Nat.one_mul,Nat.add_comm,←List.drop_drop]
  congr 2
  rw[←hk y];simp
section
variable {E:World} {P:Program} {env:aO} {O:OL} {d ty:Nat} {pos:String} {af:Array Edge} {t:TypeId}
theorem Gv.buildAF {k:Nat} {zs:List AV} {xs:List (List AV)} {l:List (Nat × Operand)} (hpl:nL P t k zs) (hs:l.all (fun p=>(bf env p.2).sto)=true) (hv:l.map (fun p=>(p.1,(bf env p.2).cs))=(xs.zipIdx 0).map fun p=>(p.2,p.1))
  (hk:xs.all (fun x=>Nat.beq x.length k)=true) (hz:zs.length=xs.length*k):Gv P env O (Oper.mk (some d) (.build t l.toArray) ty pos af none) (.agg xs.flatten):=
 Gv.buildA hpl hs hv (by
  have:=mr xs 0 [] zs (fun x hx=>Nat.eq_of_beq_eq_true (List.all_eq_true.1 hk x hx)) hz (by simp)
  simpa using this)
end
inductive nM:OL→Nat→bF→Nat→bF→OL→Prop
 |head {i o j o' O}:nM ((i,o)::O) i o j o' ((j,o')::O)
 |tail {x O i o j o' O'}:nM O i o j o' O'→nM (x::O) i o j o' (x::O')
theorem nM.rep {I:G} {O O':OL} {i j:Nat} {o o':bF} (h:nM O i o j o' O'):∀{L},bS I O L→∃A B,L.Perm (A++B)∧qC I (i,o) A ∧
  ∀{J:G} {A'},I.le J→qC J (j,o') A'→∃L',bS J O' L'∧L'.Perm (A'++B):=by
 induction h with
 |head=>rintro L ⟨A,B,e,h1,h2⟩;exact ⟨A,B,e▸.refl _,h1,fun {J A'} hl h=>⟨A'++B,⟨A',B,rfl,h,h2.mono hl⟩,.refl _⟩⟩
 |tail h ih=>
  rintro L ⟨A,B,e,h1,h2⟩
  obtain ⟨C,D,hp,h3,h4⟩:=ih h2
  refine ⟨C,A++D,?_,h3,fun {J A'} hl h=>?_⟩
  ·subst e
   refine (hp.append_left A).trans ?_
   rw[←List.append_assoc,←List.append_assoc]
   exact List.perm_append_comm.append_right D
  ·obtain ⟨L',h5,h6⟩:=h4 hl h
   refine ⟨A++L',⟨A,L',rfl,h1.mono hl,h5⟩,?_⟩
   refine (h6.append_left A).trans ?_
   rw[←List.append_assoc,←List.append_assoc]
   exact List.perm_append_comm.append_right D
section
variable {E:World} {P:Program} {ops:Array Oper} {K:aO→OL→Prop} {env:aO} {O O':OL} {rest:List Oper}
variable {d ty:Nat} {pos:String} {af:Array Edge} {x y z:Operand} {t u e:TypeId}
theorem ao.appendS {ti:TypeInfo} {zv:Value} {k n i:Nat} {cs:List AV} {rows:List (List AV)} {f:Nat→OL} (ht:P.underlying t=some (.slice e)) (hi:P.info? e=some ti) (hz:ti.zero=some zv) (hk:ti.size=k) (hzc:zv.cells.size=k)
  (hx:bf env x=.own i n) (hy:bf env y=.fro k rows) (hO:∀j,nM O i (.grow k e cs) j (.grow k e (cs++rows.flatten)) (f j)) (hn:cs.length=n*k) (hk0:0<k) (hc1:rows.flatten.all AV.cell=true) (hb:(n+rows.length)*ti.bytes≤140737488355328) (hb2:n+rows.length≤140737488355328)
  (kk:∀j,ao P E ops K rest (bD env d (.own j (n+rows.length))) (f j)) :
  ao P E ops K (Oper.mk (some d) (.call { callee:=.builtin .append,args:=#[x,y],argTypes:=#[t,t] }) ty pos af none::rest) env O:=fun I F ρ w h1 h2=>by
 obtain ⟨htop,L,hL,hS⟩:=id h2
 have h3:=h1.ev x
 rw[hx] at h3
 obtain ⟨b,cap,e1,ex⟩:=h3
 have h4:=h1.ev y
 rw[hy] at h4
 obtain ⟨sa,m,sc,vs,ey,hm,hvs,hvc,hsrc⟩:=F1 h4 hc1
 obtain ⟨j,hj⟩:=h2.name
 obtain ⟨A,B,hp,⟨b',cap',n',us,e2,hus,huc,hown⟩,hback⟩:=(hO j).rep hL
 simp only at e2
 rw[e1] at e2
 simp only[Option.some.injEq,Prod.mk.injEq] at e2
 obtain ⟨rfl,rfl⟩:=e2
 have hnn:n'=n:=by
  have h5:=hown.1
  have h6:=hus.length
  have:n'*k=n*k:=by omega
  exact Nat.eq_of_mul_eq_mul_right hk0 this
 subst hnn
 subst hm
 have hS2:SL I.k (A++(B++F)) E w:=hS.perm (by rw[←List.append_assoc];exact (hp.append_right F).symm)
 refine bL.append ht hi hz hk hzc ex ey hS2 hown (hsrc _) hb hb2 fun a' c' A' w' h5 h6 h7=>?_
 have hb':∃b'',a'=adr b'':=by
  rcases h5.2.2 with ⟨e,_⟩|⟨b'',junk,e,_⟩
  ·exact ⟨none,e⟩
  ·exact ⟨some b'',e⟩
 obtain ⟨b'',rfl⟩:=hb'
 obtain ⟨J,ek,hle,e3,htop'⟩:=hj (b'',c')
 obtain ⟨L',h8,h9⟩:=hback hle (A':=A') ⟨b'',c',_,us++vs,e3,RepL.mono hle _ _ (hus.append hvs),(by
  intro u hu
  rcases List.mem_append.1 hu with hu|hu
  ·exact huc u hu
  ·exact hvc u hu),h5⟩
 exact q5 (fun _ _=>qo hle) _ _ _ (kk j J F _ _ ((h1.mono hle).upd d ⟨b'',c',e3,rfl⟩) ⟨htop',L',h8,by rw[ek];exact h6.perm (by rw[←List.append_assoc];exact h9.append_right F)⟩)
end
theorem em {α:Type} {enc:α→List AV} {xs ys:List α} {x:α} (h:ys=xs++[x]):(xs.map enc).flatten++[enc x].flatten=(ys.map enc).flatten:=by subst h;simp
theorem dE {α:Type} {enc:α→List AV} {k:Nat} (hk:∀x,(enc x).length=k) (xs:List α):(xs.map enc).flatten.length=xs.length*k:=by
 rw[DI (k:=k) (by simp[hk]),List.length_map]
end
section
open Go.Proofs.Tryz
theorem IL {I:G} {x v:Value} (h:cf I (lit x) v):v=x:=by cases x<;>exact h
theorem lJ {I:G}:∀{xs vs:List Value},RepL I (xs.map lit) vs→vs=xs
 |[],_,h=>h
 |x::xs,_,⟨v,us,e,h1,h2⟩=>by rw[e,IL h1,lJ h2]
section
variable {E:World} {P:Program} {env:aO} {O:OL} {d ty:Nat} {pos:String} {af:Array Edge} {x y:Operand} {t u:TypeId}
theorem Gv.eqlP {xs ys:List Value} {r:Bool} (hg:P.eqGuardType P.depth t=false) (hx:bf env x=.agg (xs.map lit)) (hy:bf env y=.agg (ys.map lit)) (hr:∀w,(Op.equalIn 10000 t (.agg xs.toArray) (.agg ys.toArray)).run P w=.ok r w) :
  Gv P env O (Oper.mk (some d) (.binOp .eql t x y u) ty pos af none) (.bool r):=Gv.ofEv fun I ρ h=>by
 have h1:=h.ev x
 have h2:=h.ev y
 rw[hx] at h1
 rw[hy] at h2
 obtain ⟨vs,e1,hv⟩:=h1
 obtain ⟨us,e2,hu⟩:=h2
 rw[lJ hv] at e1
 rw[lJ hu] at e2
 exact ⟨_,rfl,fun w=>by simp only[execOp,e1,e2];simp[run_eqGuard_agg w .eql t x y xs.toArray ys.toArray hg,run_eql_struct,hr]⟩
end
theorem J5 {α:Type} {xs ys:List α} {k:Nat} (h1:k<xs.length) (h2:k<ys.length) (h:¬xs[k]=ys[k]):¬xs=ys:=fun e=>by subst e;exact h rfl
theorem B5 {α:Type} {xs ys:List α} {k:Nat} (h1:k<xs.length) (h2:k<ys.length) (he:xs.take k=ys.take k) (h:xs[k]=ys[k]):xs.take (k+1)=ys.take (k+1):=by
 rw[List.take_succ_eq_append_getElem h1,List.take_succ_eq_append_getElem h2,he,h]
theorem B6 {α:Type} {xs ys:List α} {k:Nat} (hl:xs.length=ys.length) (hk:xs.length≤k) (he:xs.take k=ys.take k):xs=ys:=by
 rwa [List.take_of_length_le hk,List.take_of_length_le (by omega)] at he
end
section
open Go.Proofs.Tryz
section
variable {E:World} {P:Program} {ops:Array Oper} {K:aO→OL→Prop} {env:aO} {O O':OL} {rest:List Oper}
variable {d ty:Nat} {pos:String} {af:Array Edge} {x y:Operand} {t u e:TypeId}
theorem ao.isNil {k:Nat} {rows:List (List AV)} (ht:P.underlying t=some (.slice e)) (hx:bf env x=.fro k rows) (hy:bf env y=.raw (.slice none 0 0)) (kt:rows=[]→ao P E ops K rest (bD env d (.bool true)) O) (kf:ao P E ops K rest (bD env d (.bool false)) O) :
  ao P E ops K (Oper.mk (some d) (.binOp .eql t x y u) ty pos af none::rest) env O:=fun I F ρ w h1 h2=>by
 have h3:=h1.ev x
 rw[hx] at h3
 obtain ⟨a,n,c,e1,hn,hnc,hnil,_⟩:=h3
 refine bL.eqNilS ht e1 (rj h1 hy) ?_
 cases a with
 |none=>
  have:rows=[]:=List.eq_nil_of_length_eq_zero (by have:=hnil rfl;omega)
  exact kt this I F _ w (h1.upd d rfl) h2
 |some p=>exact kf I F _ w (h1.upd d rfl) h2
theorem mu {rs:Array ResultVar} {R:AV→OL→Prop} {s k:Nat} {T:TypeId} (hv:env s=.raw (.slice none 0 0)) (h:∀i,dh P E rs R .ret (bD env s (.own i 0)) ((i,.grow k T [])::O)):dh P E rs R .ret env O:=fun I F ρ w h1 h2=>by
 obtain ⟨i,hi⟩:=h2.name
 obtain ⟨J,e1,hle,e2,htop⟩:=hi (none,0)
 obtain ⟨_,L,hL,hS⟩:=h2
 have h3:ρ s=.slice none 0 0:=by have:=h1 s;rw[hv] at this;exact this
 obtain ⟨v,g1,K,x,O',g2,g3⟩:=h i J F ρ w (fun q=>by
  unfold bD
  cases hb:Nat.beq q s with
  |false=>exact cf.mono hle _ _ (h1 q)
  |true=>
   have:q=s:=Nat.eq_of_beq_eq_true hb
   subst this
   exact ⟨none,0,e2,h3⟩) ⟨htop,_,⟨[],L,rfl,⟨none,0,0,[],e2,rfl,by simp,fD.nil k T⟩,hL.mono hle⟩,by rw[e1];exact hS⟩
 exact ⟨v,g1,K,x,O',hle.trans g2,g3⟩
end
theorem Left.refl (O:OL):Left O O:=⟨O,.refl _,rfl⟩
end
section
open Go.Proofs.Tryz
section
variable {E:World} {P:Program} {ops:Array Oper} {K:aO→OL→Prop} {env:aO} {O O':OL} {rest:List Oper}
variable {d ty:Nat} {pos:String} {af:Array Edge} {x y:Operand} {t u e:TypeId}
theorem B7 {k:Nat} {zs:List AV} {xs:List (List AV)} (hk:xs.all (fun x=>Nat.beq x.length k)=true) (hz:zs.length=xs.length*k):iY (fun i=>some (i*k,k)) zs ((xs.zipIdx 0).map fun p=>(p.2,p.1))=some xs.flatten:=by
 have:=mr xs 0 [] zs (fun x hx=>Nat.eq_of_beq_eq_true (List.all_eq_true.1 hk x hx)) hz (by simp)
 simpa using this
theorem ao.buildSliceFF {n k:Nat} {zs:List AV} {rows:List (List AV)} {l:List (Nat × Operand)} (hpl:dw P t e n k zs) (hs:l.all (fun p=>(bf env p.2).sto)=true) (hv:l.map (fun p=>(p.1,(bf env p.2).cs))=(rows.zipIdx 0).map fun p=>(p.2,p.1))
  (hk:rows.all (fun r=>Nat.beq r.length k)=true) (hn:rows.length=n) (hz:zs.length=n*k) (kk:ao P E ops K rest (bD env d (.fro k rows)) O) :
  ao P E ops K (Oper.mk (some d) (.buildSlice t n l.toArray) ty pos af none::rest) env O:=
 ao.buildSliceF hpl hs hv (B7 hk (by rw[hz,hn])) rfl hk hn kk
end
theorem SL.belowE {I:aP} {O:List (Nat × Obj)} {E w:World} (hS:SL I O E w):Go.RowKit.Below E.heap.size E w:=by
 have key:∀k,k<E.heap.size→w.heap[k]?=E.heap[k]?:=fun k hk=>by
  have h1:E.heap[k]?=some E.heap[k]:=Array.getElem?_eq_getElem hk
  rw[h1]
  exact hS.pers _ _ (hS.base k _ h1)
 refine ⟨hS.os,hS.tape,hS.output,?_,key⟩
 rcases Nat.lt_or_ge w.heap.size E.heap.size with h|h
 ·have:=key w.heap.size h
  rw[Array.getElem?_eq_none (Nat.le_refl _),Array.getElem?_eq_getElem h] at this
  cases this
 ·exact h
theorem aZ.ofBelow {E:World} {P:Program} {f:FuncId} {fn:Func} {c:Code} {as0:List AV} {vs:List Value} {r:Value} (hf:P.funcs[f]?=some fn) (hb:fn.body=some c) (hn:fn.name≠"runtime.NumGoroutine") (has:as0=vs.map lit)
  (h:∀w,Go.RowKit.Below E.heap.size E w→Calls P f vs.toArray w fun e w'=>e=.returned r∧Go.RowKit.Below w.heap.size w w'):aZ P E f as0 (lit r):=fun I F w us h1 h2=>by
 subst has
 rw[lJ h1]
 obtain ⟨ht,L,hL,hS⟩:=h2
 have hL:L=[]:=hL
 subst hL
 refine Fn.ofCalls hf hb hn ?_
 exact (h w hS.belowE).mono fun e w' ⟨he,hw⟩=>⟨_,he,I,lit r,[],.refl _,wY I r,⟨ht,[],rfl,hS.below hw⟩,rfl⟩
end
section
open Go.Proofs.Tryz
open Go.Proofs
theorem dc:iJ prog 220 #[(0,1),(1,1),(2,1)] [.str ⟨#[]⟩,.str ⟨#[]⟩,.str ⟨#[]⟩]:=⟨_,_,underlying220,zeroValue220,fun w=>by kernel_rfl,rfl⟩
theorem J6:nL prog 259 3 [.str ⟨#[]⟩,.str ⟨#[]⟩,.str ⟨#[]⟩,.str ⟨#[]⟩,.str ⟨#[]⟩,.str ⟨#[]⟩,.str ⟨#[]⟩,.str ⟨#[]⟩,.str ⟨#[]⟩,.str ⟨#[]⟩,.str ⟨#[]⟩,.str ⟨#[]⟩,.str ⟨#[]⟩,.str ⟨#[]⟩,.str ⟨#[]⟩,.str ⟨#[]⟩,.str ⟨#[]⟩,.str ⟨#[]⟩,.str ⟨#[]⟩,.str ⟨#[]⟩,.str ⟨#[]⟩,.str ⟨#[]⟩,.str ⟨#[]⟩,.str ⟨#[]⟩,.str ⟨#[]⟩,.str ⟨#[]⟩,.str ⟨#[]⟩,.str ⟨#[]⟩,.str ⟨#[]⟩,.str ⟨#[]⟩,.str ⟨#[]⟩,.str ⟨#[]⟩,.str ⟨#[]⟩,.str ⟨#[]⟩,.str ⟨#[]⟩,.str ⟨#[]⟩,.str ⟨#[]⟩,.str ⟨#[]⟩,.str ⟨#[]⟩,.str ⟨#[]⟩,.str ⟨#[]⟩,.str ⟨#[]⟩,.str ⟨#[]⟩,.str ⟨#[]⟩,.str ⟨#[]⟩,.str ⟨#[]⟩,.str ⟨#[]⟩,.str ⟨#[]⟩,.str ⟨#[]⟩,.str ⟨#[]⟩,.str ⟨#[]⟩,.str ⟨#[]⟩,.str ⟨#[]⟩,.str ⟨#[]⟩,.str ⟨#[]⟩,.str ⟨#[]⟩,.str ⟨#[]⟩,.str ⟨#[]⟩,.str ⟨#[]⟩,.str ⟨#[]⟩,.str ⟨#[]⟩,.str ⟨#[]⟩,.str ⟨#[]⟩,.str ⟨#[]⟩,.str ⟨#[]⟩,.str ⟨#[]⟩,.str ⟨#[]⟩,.str ⟨#[]⟩,.str ⟨#[]⟩,.str ⟨#[]⟩,.str ⟨#[]⟩,.str ⟨#[]⟩,.str ⟨#[]⟩,.str ⟨#[]⟩,.str ⟨#[]⟩,.str ⟨#[]⟩,.str ⟨#[]⟩,.str ⟨#[]⟩,.str ⟨#[]⟩,.str ⟨#[]⟩,.str ⟨#[]⟩]:=⟨_,_,_,underlying259,zeroValue259,sizeOf220,rfl⟩
variable {E:World}
set_option maxRecDepth 20000
def fI:List (ByteArray × ByteArray × ByteArray):=[(⟨#[99,111,110,115,116]⟩,⟨#[]⟩,⟨#[105]⟩),
 (⟨#[99,111,112,121]⟩,⟨#[105]⟩,⟨#[105]⟩),
 (⟨#[97,100,100]⟩,⟨#[105,105]⟩,⟨#[105]⟩),
 (⟨#[115,117,98]⟩,⟨#[105,105]⟩,⟨#[105]⟩),
 (⟨#[109,117,108]⟩,⟨#[105,105]⟩,⟨#[105]⟩),
 (⟨#[100,105,118]⟩,⟨#[105,105]⟩,⟨#[105]⟩),
 (⟨#[114,101,109]⟩,⟨#[105,105]⟩,⟨#[105]⟩),
 (⟨#[101,113]⟩,⟨#[105,105]⟩,⟨#[98]⟩),
 (⟨#[108,116]⟩,⟨#[105,105]⟩,⟨#[98]⟩),
 (⟨#[108,101]⟩,⟨#[105,105]⟩,⟨#[98]⟩),
 (⟨#[110,111,116]⟩,⟨#[98]⟩,⟨#[98]⟩),
 (⟨#[97,110,100]⟩,⟨#[98,98]⟩,⟨#[98]⟩),
 (⟨#[108,101,110]⟩,⟨#[97]⟩,⟨#[105]⟩),
 (⟨#[108,111,97,100]⟩,⟨#[97,105]⟩,⟨#[105]⟩),
 (⟨#[115,116,111,114,101]⟩,⟨#[97,105,105]⟩,⟨#[]⟩),
 (⟨#[110,101,119]⟩,⟨#[105]⟩,⟨#[97]⟩),
 (⟨#[110,105,108]⟩,⟨#[]⟩,⟨#[97]⟩),
 (⟨#[111,117,116]⟩,⟨#[105]⟩,⟨#[]⟩),
 (⟨#[99,104,107,105,100,120]⟩,⟨#[97,105]⟩,⟨#[]⟩),
 (⟨#[99,104,107,110,105,108]⟩,⟨#[97]⟩,⟨#[]⟩),
 (⟨#[99,104,107,100,105,118]⟩,⟨#[105]⟩,⟨#[]⟩),
 (⟨#[99,104,107,97,100,100]⟩,⟨#[105,105]⟩,⟨#[]⟩),
 (⟨#[99,104,107,115,117,98]⟩,⟨#[105,105]⟩,⟨#[]⟩),
 (⟨#[99,104,107,109,117,108]⟩,⟨#[105,105]⟩,⟨#[]⟩),
 (⟨#[99,104,107,108,101,110]⟩,⟨#[105]⟩,⟨#[]⟩),
 (⟨#[112,105]⟩,⟨#[105,105]⟩,⟨#[105]⟩),
 (⟨#[112,105,108,101,110]⟩,⟨#[105,97]⟩,⟨#[105]⟩)]
def bM (op:Int):ByteArray × ByteArray × ByteArray:=if 0≤op then fI[op.toNat]?.getD (⟨#[]⟩,⟨#[]⟩,⟨#[]⟩) else (⟨#[]⟩,⟨#[]⟩,⟨#[]⟩)
def qE (op:Int):Bool:=decide (0≤op)&&decide (op<27)
def qF (r:ByteArray × ByteArray × ByteArray):List AV:=[.str r.1,.str r.2.1,.str r.2.2]
theorem F2 (op:Int):aZ prog E 179 [.int .i64 op] (.bool (qE op)):=by
 refine zo func179 rfl (by decide) rfl ?_
 refine zb ?_
 refine y9 rfl ?_
 refine za (yd (v:=.bool _) rfl) ?_
 refine z7 ?_
 refine zb ?_
 refine y9 rfl ?_
 refine za (yh (v:=.int _ _) rfl) ?_
 refine za (ql rfl rfl) ?_
 refine za (yh (v:=.bool _) rfl) ?_
 refine zk (s:=5) rfl (fun c1=>?_) (fun c1=>?_)
 ·refine z8 rfl rfl c1 ?_
  refine za (yh (v:=.int _ _) rfl) ?_
  refine z8 rfl rfl c1 ?_
  refine za (Gv.lss rfl rfl) ?_
  refine za (Gv.pickT (v:=.bool _) rfl c1 rfl) ?_
  refine za (yd (v:=.bool _) rfl) ?_
  refine z7 ?_
  refine zf ?_
  repeat (first|refine bg ?_|refine aQ ?_)
  refine zh (x:=.bool _) rfl ?_
  simp_all[qE]<;>omega
 ·refine z6 rfl rfl c1 ?_
  refine z6 rfl rfl c1 ?_
  refine za (Gv.pickF (v:=.bool _) rfl c1 rfl) ?_
  refine za (yd (v:=.bool _) rfl) ?_
  refine z7 ?_
  refine zf ?_
  repeat (first|refine bg ?_|refine aQ ?_)
  refine zh (x:=.bool _) rfl ?_
  simp_all[qE]<;>omega
set_option maxHeartbeats 4000000 in
theorem vl:aZ prog E 180 [] (.agg (fI.flatMap qF)):=by
 refine zo func180 rfl (by decide) rfl ?_
 refine zb ?_
 refine y9 rfl ?_
 refine zy (cs:=[.str ⟨#[]⟩,.str ⟨#[]⟩,.str ⟨#[]⟩,.str ⟨#[]⟩,.str ⟨#[]⟩,.str ⟨#[]⟩,.str ⟨#[]⟩,.str ⟨#[]⟩,.str ⟨#[]⟩,.str ⟨#[]⟩,.str ⟨#[]⟩,.str ⟨#[]⟩,.str ⟨#[]⟩,.str ⟨#[]⟩,.str ⟨#[]⟩,.str ⟨#[]⟩,.str ⟨#[]⟩,.str ⟨#[]⟩,.str ⟨#[]⟩,.str ⟨#[]⟩,.str ⟨#[]⟩,.str ⟨#[]⟩,.str ⟨#[]⟩,.str ⟨#[]⟩,.str ⟨#[]⟩,.str ⟨#[]⟩,.str ⟨#[]⟩,.str ⟨#[]⟩,.str ⟨#[]⟩,.str ⟨#[]⟩,.str ⟨#[]⟩,.str ⟨#[]⟩,.str ⟨#[]⟩,.str ⟨#[]⟩,.str ⟨#[]⟩,.str ⟨#[]⟩,.str ⟨#[]⟩,.str ⟨#[]⟩,.str ⟨#[]⟩,.str ⟨#[]⟩,.str ⟨#[]⟩,.str ⟨#[]⟩,.str ⟨#[]⟩,.str ⟨#[]⟩,.str ⟨#[]⟩,.str ⟨#[]⟩,.str ⟨#[]⟩,.str ⟨#[]⟩,.str ⟨#[]⟩,.str ⟨#[]⟩,.str ⟨#[]⟩,.str ⟨#[]⟩,.str ⟨#[]⟩,.str ⟨#[]⟩,.str ⟨#[]⟩,.str ⟨#[]⟩,.str ⟨#[]⟩,.str ⟨#[]⟩,.str ⟨#[]⟩,.str ⟨#[]⟩,.str ⟨#[]⟩,.str ⟨#[]⟩,.str ⟨#[]⟩,.str ⟨#[]⟩,.str ⟨#[]⟩,.str ⟨#[]⟩,.str ⟨#[]⟩,.str ⟨#[]⟩,.str ⟨#[]⟩,.str ⟨#[]⟩,.str ⟨#[]⟩,.str ⟨#[]⟩,.str ⟨#[]⟩,.str ⟨#[]⟩,.str ⟨#[]⟩,.str ⟨#[]⟩,.str ⟨#[]⟩,.str ⟨#[]⟩,.str ⟨#[]⟩,.str ⟨#[]⟩,.str ⟨#[]⟩]) zeroValue259 rfl rfl ?_
 intro i0
 refine z7 ?_
 refine zb ?_
 refine y9 rfl ?_
 refine za (ya (cps:=[(0,[_]),(1,[_]),(2,[_])]) (rs:=[_,_,_]) dc rfl rfl rfl) ?_
 refine za (ya (cps:=[(0,[_]),(1,[_]),(2,[_])]) (rs:=[_,_,_]) dc rfl rfl rfl) ?_
 refine za (ya (cps:=[(0,[_]),(1,[_]),(2,[_])]) (rs:=[_,_,_]) dc rfl rfl rfl) ?_
 refine za (ya (cps:=[(0,[_]),(1,[_]),(2,[_])]) (rs:=[_,_,_]) dc rfl rfl rfl) ?_
 refine za (ya (cps:=[(0,[_]),(1,[_]),(2,[_])]) (rs:=[_,_,_]) dc rfl rfl rfl) ?_
 refine za (ya (cps:=[(0,[_]),(1,[_]),(2,[_])]) (rs:=[_,_,_]) dc rfl rfl rfl) ?_
 refine za (ya (cps:=[(0,[_]),(1,[_]),(2,[_])]) (rs:=[_,_,_]) dc rfl rfl rfl) ?_
 refine za (ya (cps:=[(0,[_]),(1,[_]),(2,[_])]) (rs:=[_,_,_]) dc rfl rfl rfl) ?_
 refine za (ya (cps:=[(0,[_]),(1,[_]),(2,[_])]) (rs:=[_,_,_]) dc rfl rfl rfl) ?_
 refine za (ya (cps:=[(0,[_]),(1,[_]),(2,[_])]) (rs:=[_,_,_]) dc rfl rfl rfl) ?_
 refine za (ya (cps:=[(0,[_]),(1,[_]),(2,[_])]) (rs:=[_,_,_]) dc rfl rfl rfl) ?_
 refine za (ya (cps:=[(0,[_]),(1,[_]),(2,[_])]) (rs:=[_,_,_]) dc rfl rfl rfl) ?_
 refine za (ya (cps:=[(0,[_]),(1,[_]),(2,[_])]) (rs:=[_,_,_]) dc rfl rfl rfl) ?_
 refine za (ya (cps:=[(0,[_]),(1,[_]),(2,[_])]) (rs:=[_,_,_]) dc rfl rfl rfl) ?_
 refine za (ya (cps:=[(0,[_]),(1,[_]),(2,[_])]) (rs:=[_,_,_]) dc rfl rfl rfl) ?_
 refine za (ya (cps:=[(0,[_]),(1,[_]),(2,[_])]) (rs:=[_,_,_]) dc rfl rfl rfl) ?_
 refine za (ya (cps:=[(0,[_]),(1,[_]),(2,[_])]) (rs:=[_,_,_]) dc rfl rfl rfl) ?_
 refine za (ya (cps:=[(0,[_]),(1,[_]),(2,[_])]) (rs:=[_,_,_]) dc rfl rfl rfl) ?_
 refine za (ya (cps:=[(0,[_]),(1,[_]),(2,[_])]) (rs:=[_,_,_]) dc rfl rfl rfl) ?_
 refine za (ya (cps:=[(0,[_]),(1,[_]),(2,[_])]) (rs:=[_,_,_]) dc rfl rfl rfl) ?_
 refine za (ya (cps:=[(0,[_]),(1,[_]),(2,[_])]) (rs:=[_,_,_]) dc rfl rfl rfl) ?_
 refine za (ya (cps:=[(0,[_]),(1,[_]),(2,[_])]) (rs:=[_,_,_]) dc rfl rfl rfl) ?_
 refine za (ya (cps:=[(0,[_]),(1,[_]),(2,[_])]) (rs:=[_,_,_]) dc rfl rfl rfl) ?_
 refine za (ya (cps:=[(0,[_]),(1,[_]),(2,[_])]) (rs:=[_,_,_]) dc rfl rfl rfl) ?_
 refine za (ya (cps:=[(0,[_]),(1,[_]),(2,[_])]) (rs:=[_,_,_]) dc rfl rfl rfl) ?_
 refine za (ya (cps:=[(0,[_]),(1,[_]),(2,[_])]) (rs:=[_,_,_]) dc rfl rfl rfl) ?_
 refine za (ya (cps:=[(0,[_]),(1,[_]),(2,[_])]) (rs:=[_,_,_]) dc rfl rfl rfl) ?_
 refine za (Gv.buildAF (xs:=[[_,_,_],[_,_,_],[_,_,_],[_,_,_],[_,_,_],[_,_,_],[_,_,_],[_,_,_],[_,_,_],[_,_,_],[_,_,_],[_,_,_],[_,_,_],[_,_,_],[_,_,_],[_,_,_],[_,_,_],[_,_,_],[_,_,_],[_,_,_],[_,_,_],[_,_,_],[_,_,_],[_,_,_],[_,_,_],[_,_,_],[_,_,_]]) J6 rfl rfl rfl rfl) ?_
 refine ao.storeW sizeOf259 rfl rfl rfl rfl rfl rfl .head rfl ?_
 refine z7 ?_
 refine zf ?_
 repeat (first|refine bg ?_|refine aQ ?_)
 refine dh.c1 rfl ⟨_,.head⟩ isAgg259 sizeOf259 rfl ?_
 rfl
theorem tz {op:Int} (h:qE op=false):bM op=(⟨#[]⟩,⟨#[]⟩,⟨#[]⟩):=by
 unfold qE at h
 unfold bM
 split
 ·rename_i h0
  have:¬op<27:=by simpa [h0] using h
  rw[List.getElem?_eq_none (by show 27≤_;omega)];rfl
 ·rfl
theorem F3 {op:Int} (h:qE op=true):∃j:Nat,op=(j:Int)∧j<27∧((fI.flatMap qF).drop (j*3)).take 3=qF (bM op):=by
 unfold qE at h
 simp at h
 obtain ⟨j,rfl⟩:∃j:Nat,op=j:=⟨op.toNat,by omega⟩
 have hj:j<27:=by omega
 refine ⟨j,rfl,hj,wZ (enc:=qF) (k:=3) (fun _=>rfl) _ _ ?_⟩
 unfold bM
 rw[if_pos h.1,Int.toNat_natCast,List.getElem?_eq_getElem (show j<fI.length from hj)];rfl
theorem nN (op:Int):aZ prog E 152 [.int .i64 op] (.agg (qF (bM op))):=by
 refine zo func152 rfl (by decide) rfl ?_
 refine zb ?_
 refine y9 rfl ?_
 refine zy (cs:=[.str ⟨#[]⟩,.str ⟨#[]⟩,.str ⟨#[]⟩]) zeroValue220 rfl rfl ?_
 intro i2
 refine z7 ?_
 refine zb ?_
 refine zb ?_
 refine y9 rfl ?_
 refine za (yh (v:=.int _ _) rfl) ?_
 refine ao.callP (F2 _) rfl ?_
 refine za (Gv.not rfl) ?_
 refine z7 ?_
 refine zr rfl (fun c=>?_) (fun c=>?_)
 ·have c:qE op=false:=by simpa using c
  rw[tz c]
  refine zb ?_
  refine y9 rfl ?_
  refine za (ya (cps:=[]) (rs:=[.str ⟨#[]⟩,.str ⟨#[]⟩,.str ⟨#[]⟩]) dc rfl rfl rfl) ?_
  refine ao.storeW sizeOf220 rfl rfl rfl rfl rfl rfl .head rfl ?_
  refine z7 ?_
  refine zf ?_
  repeat (first|refine bg ?_|refine aQ ?_)
  refine dh.c1 rfl ⟨_,.head⟩ isAgg220 sizeOf220 rfl ?_
  rfl
 ·have c:qE op=true:=by simpa using c
  obtain ⟨j,hj1,hj2,hj3⟩:=F3 c
  refine ze ?_
  refine zb ?_
  refine y9 rfl ?_
  refine ao.callP (vl) rfl ?_
  refine za (yh (v:=.int _ _) rfl) ?_
  refine za (Gv.indexA underlying259 isAgg220 sizeOf220 rfl rfl hj1 hj2 hj3) ?_
  refine ao.storeW sizeOf220 rfl rfl rfl rfl rfl rfl .head rfl ?_
  refine z7 ?_
  refine zf ?_
  repeat (first|refine bg ?_|refine aQ ?_)
  refine dh.c1 rfl ⟨_,.head⟩ isAgg220 sizeOf220 rfl ?_
  rfl
theorem B8 (op:Int):aZ prog E 150 [.int .i64 op] (.str (bM op).1):=by
 refine zo func150 rfl (by decide) rfl ?_
 refine zb ?_
 refine y9 rfl ?_
 refine za (yd (v:=.str _) rfl) ?_
 refine z7 ?_
 refine zb ?_
 refine y9 rfl ?_
 refine za (yh (v:=.int _ _) rfl) ?_
 refine ao.callP (nN _) rfl ?_
 refine za (Gv.field1 (v:=.str _) underlying220 rfl isAgg9 rfl rfl) ?_
 refine za (yd (v:=.str _) rfl) ?_
 refine z7 ?_
 refine zf ?_
 repeat (first|refine bg ?_|refine aQ ?_)
 refine zh (x:=.str _) rfl ?_
 rfl
def oB (op:Int):Bool:=decide (op=0)||decide (op=25)
theorem fk (op:Int):aZ prog E 151 [.int .i64 op] (.bool (oB op)):=by
 refine zo func151 rfl (by decide) rfl ?_
 refine zb ?_
 refine y9 rfl ?_
 refine za (yd (v:=.bool _) rfl) ?_
 refine z7 ?_
 refine zb ?_
 refine y9 rfl ?_
 refine za (yh (v:=.int _ _) rfl) ?_
 refine za (Gv.eqlI rfl rfl) ?_
 refine za (yh (v:=.bool _) rfl) ?_
 refine zk (s:=5) rfl (fun c2=>?_) (fun c2=>?_)
 ·refine z6 rfl rfl c2 ?_
  refine z6 rfl rfl c2 ?_
  refine za (Gv.pickT (v:=.bool _) rfl c2 rfl) ?_
  refine za (yd (v:=.bool _) rfl) ?_
  refine z7 ?_
  refine zf ?_
  repeat (first|refine bg ?_|refine aQ ?_)
  refine zh (x:=.bool _) rfl ?_
  simp_all[oB]
 ·refine z8 rfl rfl c2 ?_
  refine za (yh (v:=.int _ _) rfl) ?_
  refine z8 rfl rfl c2 ?_
  refine za (Gv.eqlI rfl rfl) ?_
  refine za (Gv.pickF (v:=.bool _) rfl c2 rfl) ?_
  refine za (yd (v:=.bool _) rfl) ?_
  refine z7 ?_
  refine zf ?_
  repeat (first|refine bg ?_|refine aQ ?_)
  refine zh (x:=.bool _) rfl ?_
  simp_all[oB]
def dx (c:Int):Int:=if c=98 then 1 else if c=97 then 2 else 0
theorem oC (c:Int):aZ prog E 153 [.int .i32 c] (.int .i64 (dx c)):=by
 refine zo func153 rfl (by decide) rfl ?_
 refine zb ?_
 refine y9 rfl ?_
 refine za (yd (v:=.int _ _) rfl) ?_
 refine z7 ?_
 refine zb ?_
 refine zb ?_
 refine y9 rfl ?_
 refine za (yh (v:=.int _ _) rfl) ?_
 refine z7 ?_
 refine zg ?_
 refine zb ?_
 refine y9 rfl ?_
 refine za (Gv.eqlI rfl rfl) ?_
 refine za (yd (v:=.bool _) rfl) ?_
 refine z7 ?_
 refine zr rfl (fun c3=>?_) (fun c3=>?_)
 ·refine zb ?_
  refine y9 rfl ?_
  refine za (yd (v:=.int _ _) rfl) ?_
  refine z7 ?_
  refine zf ?_
  repeat (first|refine bg ?_|refine aQ ?_)
  refine zh (x:=.int _ _) rfl ?_
  simp_all[dx]
 ·refine zb ?_
  refine y9 rfl ?_
  refine za (Gv.eqlI rfl rfl) ?_
  refine za (yd (v:=.bool _) rfl) ?_
  refine z7 ?_
  refine zr rfl (fun c4=>?_) (fun c4=>?_)
  ·refine zb ?_
   refine y9 rfl ?_
   refine za (yd (v:=.int _ _) rfl) ?_
   refine z7 ?_
   refine zf ?_
   repeat (first|refine bg ?_|refine aQ ?_)
   refine zh (x:=.int _ _) rfl ?_
   simp_all[dx]
  ·refine ze ?_
   refine zb ?_
   refine y9 rfl ?_
   refine za (yd (v:=.int _ _) rfl) ?_
   refine z7 ?_
   refine zf ?_
   repeat (first|refine bg ?_|refine aQ ?_)
   refine zh (x:=.int _ _) rfl ?_
   simp_all[dx]
theorem DJ:∀r∈fI,(∀b∈r.2.1.data.toList,b<128)∧(∀b∈r.2.2.data.toList,b<128):=by decide
theorem oD (op:Int):bM op=(⟨#[]⟩,⟨#[]⟩,⟨#[]⟩)∨bM op∈fI:=by
 unfold bM
 split
 ·cases h:fI[op.toNat]? with
  |none=>exact .inl rfl
  |some r=>exact .inr (List.mem_of_getElem? h)
 ·exact .inl rfl
theorem oE (op:Int):(∀b∈(bM op).2.1.data.toList,b<128)∧(∀b∈(bM op).2.2.data.toList,b<128):=by
 rcases oD op with h|h
 ·rw[h];simp
 ·exact DJ _ h
def bw (op:Int):List Int:=(bM op).2.1.data.toList.map fun b=>dx b.toNat
def jS (op:Int):Int:=((bM op).2.2.data.toList.head?.map fun b=>dx b.toNat).getD 0
def cQ (op:Int):Bool:=!(bM op).2.2.data.toList.isEmpty
end
section
open Go.Proofs.Tryz
open Go.Proofs
theorem F4:dw prog 182 64 1 1 [.int .i64 0]:=⟨_,underlying182,sizeOf64,zeroValue64,by decide,by decide,by kernel_rfl⟩
variable {E:World}
set_option maxRecDepth 20000
structure qH where
 name:ByteArray
 ty:Int
deriving DecidableEq
structure bu where
 dst:Int
 args:List Int
 from_:List Int
deriving DecidableEq
structure bc where
 op:Int
 dst:Int
 args:List Int
 num:Int
deriving DecidableEq
structure cC where
 kind:Int
 var:Int
 to0:Int
 to1:Int
deriving DecidableEq
structure aB where
 name:ByteArray
 phis:List bu
 insts:List bc
 term:cC
deriving DecidableEq
structure ab where
 vars:List qH
 params:List Int
 blocks:List aB
deriving DecidableEq
def b5 (x:Int):List AV:=[.int .i64 x]
def b7 (v:qH):List AV:=[.str v.name,.int .i64 v.ty]
def bd (p:bu):List AV:=[.int .i64 p.dst,.fro 1 (p.args.map b5),.fro 1 (p.from_.map b5)]
def bz (x:bc):List AV:=[.int .i64 x.op,.int .i64 x.dst,.fro 1 (x.args.map b5),.int .i64 x.num]
def nO (t:cC):List AV:=[.int .i64 t.kind,.int .i64 t.var,.int .i64 t.to0,.int .i64 t.to1]
def bk (b:aB):List AV:=[.str b.name,.fro 3 (b.phis.map bd),.fro 4 (b.insts.map bz),.int .i64 b.term.kind,.int .i64 b.term.var,.int .i64 b.term.to0,.int .i64 b.term.to1]
def bQ (f:ab):List AV:=[.fro 2 (f.vars.map b7),.fro 1 (f.params.map b5),.fro 7 (f.blocks.map bk)]
theorem oF (op:Int):aZ prog E 115 [.int .i64 op] (.fro 1 ((bw op).map b5)):=by
 obtain ⟨hasc,_⟩:=oE op
 have hl:(bw op).length=(bM op).2.1.size:=by unfold bw;rw[List.length_map];exact Array.length_toList
 have hlen:(bw op).length≤3:=by
  rcases oD op with h|h
  ·unfold bw;rw[h];decide
  ·have:∀r∈fI,r.2.1.data.toList.length≤3:=by decide
   have:=this _ h
   unfold bw;simpa using this
 refine zo func115 rfl (by decide) rfl ?_
 refine zb ?_
 refine y9 rfl ?_
 refine za (yd (v:=.raw _) rfl) ?_
 refine z7 ?_
 refine zb ?_
 refine y9 rfl ?_
 refine za (yd (v:=.raw _) rfl) ?_
 refine z7 ?_
 refine jR (t:=3) (k:=1) (T:=64) rfl ?_
 intro i3
 refine zb ?_
 refine zb ?_
 refine y9 rfl ?_
 refine za (yh (v:=.int _ _) rfl) ?_
 refine ao.callP (nN _) rfl ?_
 refine za (Gv.field1 (v:=.str _) underlying220 rfl isAgg9 rfl rfl) ?_
 refine ao.rangeT underlying9 rfl ?_
 intro i9
 refine z7 ?_
 refine zg ?_
 refine y7 (γ:=Nat × Nat) [9] (fun g=>[(3,.own g.2 g.1)]) (fun g=>[(i9,.iter (bM op).2.1 g.1),(g.2,.grow 1 64 (((bw op).take g.1).map b5).flatten)]) (fun g=>g.1≤(bw op).length) (fun g=>(bw op).length - g.1) (0,i3) ⟨rfl,trivial⟩ ⟨_,(.refl _),rfl⟩ (Nat.zero_le _) ?_
 rintro ⟨p,i⟩ hp
 try dsimp only at *
 try simp only at hp
 by_cases hlt:p<(bw op).length
 ·have hb:p<(bM op).2.1.data.toList.length:=by rw[hl] at hlt;exact hlt
  have hg:(bM op).2.1.data[p]?=some (bM op).2.1.data.toList[p]:=by rw[Array.getElem_toList];exact Array.getElem?_eq_getElem hb
  refine zb ?_
  refine y9 rfl ?_
  refine ao.nextA rfl hg (hasc _ (List.getElem_mem hb)) .head ?_
  refine za (Gv.extract (v:=.bool _) rfl rfl) ?_
  refine z7 ?_
  refine zb ?_
  refine yt rfl rfl ?_
  have ht:(bw op).take (p+1)=(bw op).take p++[dx ((bM op).2.1.data.toList[p]).toNat]:=by
   rw[List.take_succ_eq_append_getElem hlt]
   have:(bw op)[p]=dx ((bM op).2.1.data.toList[p]).toNat:=List.getElem_map _
   rw[this]
  refine ze ?_
  refine zg ?_
  refine zb ?_
  refine y9 rfl ?_
  refine za (Gv.extract (v:=.int _ _) rfl rfl) ?_
  refine za (yd (v:=.int _ _) rfl) ?_
  refine z7 ?_
  refine y9 rfl ?_
  refine za (yh (v:=.own _ _) rfl) ?_
  refine za (yh (v:=.int _ _) rfl) ?_
  refine ao.callP (oC _) rfl ?_
  refine ao.buildSliceFF (rows:=[[_]]) F4 rfl rfl rfl rfl rfl ?_
  refine ao.appendS (k:=1) underlying182 type64 rfl rfl rfl rfl rfl (fun _=>(.tail .head)) (by rw[dE (k:=1) (fun _=>rfl),List.length_take,Nat.min_eq_left hp]) (by decide) rfl (by show (_+_)*8≤_;simp<;>omega) (by simp<;>omega) ?_
  intro i17
  refine za (yd (v:=.own _ _) rfl) ?_
  refine z7 ?_
  exact ⟨(p+1,i17),⟨rfl,trivial⟩,⟨rfl,trivial⟩,⟨_,(.refl _),by rw[←em ht];rfl⟩,hlt,by simp only;omega⟩
 ·refine zb ?_
  refine y9 rfl ?_
  refine ao.nextTover rfl .head (by rw[←hl];exact hlt) ?_
  refine za (Gv.extract (v:=.bool _) rfl rfl) ?_
  refine z7 ?_
  refine zb ?_
  refine yp rfl rfl ?_
  have hkn:p=(bw op).length:=by omega
  subst hkn
  rw[List.take_length]
  refine zz ?_
  refine zb ?_
  refine y9 rfl ?_
  refine za (yh (v:=.own _ _) rfl) ?_
  refine za (yd (v:=.own _ _) rfl) ?_
  refine z7 ?_
  refine zf ?_
  repeat (first|refine bg ?_|refine aQ ?_)
  refine aX.fin (aX.know (t:=2) (rows:=(bw op).map b5) rfl (.tail .head) (by first|(intro r hr;obtain ⟨x,_,rfl⟩:=List.mem_map.1 hr;rfl)|simp[b5,b7,bd,bz,bk]) (by decide) (by simp)) ?_
  refine zh (x:=.fro _ _) rfl ?_
  rfl
theorem oG (op:Int):aZ prog E 116 [.int .i64 op] (.tup [.int .i64 (jS op),.bool (cQ op)]):=by
 obtain ⟨_,hasc⟩:=oE op
 refine zo func116 rfl (by decide) rfl ?_
 refine zb ?_
 refine y9 rfl ?_
 refine za (yd (v:=.int _ _) rfl) ?_
 refine za (yd (v:=.bool _) rfl) ?_
 refine z7 ?_
 refine zb ?_
 refine zb ?_
 refine y9 rfl ?_
 refine za (yh (v:=.int _ _) rfl) ?_
 refine ao.callP (nN _) rfl ?_
 refine za (Gv.field1 (v:=.str _) underlying220 rfl isAgg9 rfl rfl) ?_
 refine ao.rangeT underlying9 rfl ?_
 intro i9
 refine z7 ?_
 refine zg ?_
 refine y7 (γ:=Unit) [9] (fun g=>[]) (fun g=>[(i9,.iter (bM op).2.2 0)]) (fun g=>True) (fun g=>0) () trivial ⟨_,(.refl _),rfl⟩ (trivial) ?_
 rintro _ _
 by_cases hlt:∃c0 tl,(bM op).2.2.data.toList=c0::tl
 ·obtain ⟨c0,tl,hk⟩:=hlt
  have hg:(bM op).2.2.data[0]?=some c0:=by rw[←Array.getElem?_toList,hk];rfl
  refine zb ?_
  refine y9 rfl ?_
  refine ao.nextA rfl hg (hasc _ (by rw[hk];exact .head _)) .head ?_
  refine za (Gv.extract (v:=.bool _) rfl rfl) ?_
  refine z7 ?_
  refine zb ?_
  refine yt rfl rfl ?_
  refine ze ?_
  refine zg ?_
  refine zb ?_
  refine y9 rfl ?_
  refine za (Gv.extract (v:=.int _ _) rfl rfl) ?_
  refine za (yd (v:=.int _ _) rfl) ?_
  refine z7 ?_
  refine zb ?_
  refine y9 rfl ?_
  refine za (yh (v:=.int _ _) rfl) ?_
  refine ao.callP (oC _) rfl ?_
  refine za (yd (v:=.int _ _) rfl) ?_
  refine za (yd (v:=.bool _) rfl) ?_
  refine z7 ?_
  refine zf ?_
  repeat (first|refine bg ?_|refine aQ ?_)
  refine dh.t2 (x:=.int _ _) (y:=.bool _) rfl rfl ?_
  unfold jS cQ;rw[hk];rfl
 ·have hk:(bM op).2.2.data.toList=[]:=by
   cases h:(bM op).2.2.data.toList with
   |nil=>rfl
   |cons x l=>exact absurd ⟨x,l,h⟩ hlt
  refine zb ?_
  refine y9 rfl ?_
  refine ao.nextTover rfl .head (by show ¬0<(bM op).2.2.data.size;rw[←Array.length_toList,hk];decide) ?_
  refine za (Gv.extract (v:=.bool _) rfl rfl) ?_
  refine z7 ?_
  refine zb ?_
  refine yp rfl rfl ?_
  refine zz ?_
  refine zb ?_
  refine y9 rfl ?_
  refine za (yd (v:=.int _ _) rfl) ?_
  refine za (yd (v:=.bool _) rfl) ?_
  refine z7 ?_
  refine zf ?_
  repeat (first|refine bg ?_|refine aQ ?_)
  refine dh.t2 (x:=.int _ _) (y:=.bool _) rfl rfl ?_
  unfold jS cQ;rw[hk];rfl
def bl (f:ab) (v:Int):Bool:=decide (0≤v)&&decide (v<f.vars.length)
def du (f:ab) (b:Int):Bool:=decide (0≤b)&&decide (b<f.blocks.length)
theorem jT (f:ab) (v:Int):aZ prog E 146 [.agg (bQ f),.int .i64 v] (.bool (bl f v)):=by
 refine zo func146 rfl (by decide) rfl ?_
 refine zb ?_
 refine y9 rfl ?_
 refine yb (cs:=_) rfl rfl rfl ?_
 refine za (yd (v:=.bool _) rfl) ?_
 refine z7 ?_
 refine zb ?_
 refine y9 rfl ?_
 refine za (yh (v:=.int _ _) rfl) ?_
 refine za (ql rfl rfl) ?_
 refine za (yh (v:=.bool _) rfl) ?_
 refine zk (s:=7) rfl (fun c1=>?_) (fun c1=>?_)
 ·refine z8 rfl rfl c1 ?_
  refine za (yh (v:=.int _ _) rfl) ?_
  refine z8 rfl rfl c1 ?_
  refine za (Gv.fieldF underlying26 rfl sizeOf22 (by decide) rfl rfl) ?_
  refine z8 rfl rfl c1 ?_
  refine za (qg (c:=.fro _ _) isAgg22 rfl) ?_
  refine z8 rfl rfl c1 ?_
  refine za (Gv.lenM underlying22 rfl) ?_
  refine z8 rfl rfl c1 ?_
  refine za (Gv.lss rfl rfl) ?_
  refine za (Gv.pickT (v:=.bool _) rfl c1 rfl) ?_
  refine za (yd (v:=.bool _) rfl) ?_
  refine z7 ?_
  refine zf ?_
  repeat (first|refine bg ?_|refine aQ ?_)
  refine zh (x:=.bool _) rfl ?_
  simp_all[bl]<;>omega
 ·refine z6 rfl rfl c1 ?_
  refine z6 rfl rfl c1 ?_
  refine z6 rfl rfl c1 ?_
  refine z6 rfl rfl c1 ?_
  refine z6 rfl rfl c1 ?_
  refine za (Gv.pickF (v:=.bool _) rfl c1 rfl) ?_
  refine za (yd (v:=.bool _) rfl) ?_
  refine z7 ?_
  refine zf ?_
  repeat (first|refine bg ?_|refine aQ ?_)
  refine zh (x:=.bool _) rfl ?_
  simp_all[bl]<;>omega
theorem nP (f:ab) (v:Int):aZ prog E 149 [.agg (bQ f),.int .i64 v] (.bool (du f v)):=by
 refine zo func149 rfl (by decide) rfl ?_
 refine zb ?_
 refine y9 rfl ?_
 refine yb (cs:=_) rfl rfl rfl ?_
 refine za (yd (v:=.bool _) rfl) ?_
 refine z7 ?_
 refine zb ?_
 refine y9 rfl ?_
 refine za (yh (v:=.int _ _) rfl) ?_
 refine za (ql rfl rfl) ?_
 refine za (yh (v:=.bool _) rfl) ?_
 refine zk (s:=7) rfl (fun c2=>?_) (fun c2=>?_)
 ·refine z8 rfl rfl c2 ?_
  refine za (yh (v:=.int _ _) rfl) ?_
  refine z8 rfl rfl c2 ?_
  refine za (Gv.fieldF underlying26 rfl sizeOf24 (by decide) rfl rfl) ?_
  refine z8 rfl rfl c2 ?_
  refine za (qg (c:=.fro _ _) isAgg24 rfl) ?_
  refine z8 rfl rfl c2 ?_
  refine za (Gv.lenM underlying24 rfl) ?_
  refine z8 rfl rfl c2 ?_
  refine za (Gv.lss rfl rfl) ?_
  refine za (Gv.pickT (v:=.bool _) rfl c2 rfl) ?_
  refine za (yd (v:=.bool _) rfl) ?_
  refine z7 ?_
  refine zf ?_
  repeat (first|refine bg ?_|refine aQ ?_)
  refine zh (x:=.bool _) rfl ?_
  simp_all[du]<;>omega
 ·refine z6 rfl rfl c2 ?_
  refine z6 rfl rfl c2 ?_
  refine z6 rfl rfl c2 ?_
  refine z6 rfl rfl c2 ?_
  refine z6 rfl rfl c2 ?_
  refine za (Gv.pickF (v:=.bool _) rfl c2 rfl) ?_
  refine za (yd (v:=.bool _) rfl) ?_
  refine z7 ?_
  refine zf ?_
  repeat (first|refine bg ?_|refine aQ ?_)
  refine zh (x:=.bool _) rfl ?_
  simp_all[du]<;>omega
def cY {α:Type} (p:α→Bool):List α→Nat→Int
 |[],_=>-1
 |x::xs,k=>if p x then k else cY p xs (k+1)
theorem fO {α:Type} (p:α→Bool):∀(xs:List α) (k:Nat),decide (0≤cY p xs k)=xs.any p
 |[],k=>rfl
 |x::xs,k=>by
  unfold cY
  rw[List.any_cons]
  split
  ·rename_i h;rw[h];simp
  ·rename_i h;simp[h,fO p xs (k+1)]
theorem cA {α:Type} (p:α→Bool):∀(xs:List α) (k:Nat),k≤xs.length→(xs.take k).all (fun x=>!p x)=true→cY p xs 0=cY p (xs.drop k) k
 |_,0,_,_=>rfl
 |xs,k+1,h,hall=>by
  rw[List.take_succ_eq_append_getElem (by omega),List.all_append] at hall
  simp only[Bool.and_eq_true,List.all_cons,List.all_nil,Bool.and_true] at hall
  rw[cA p xs k (by omega) hall.1,List.drop_eq_getElem_cons (by omega)]
  rw[cY]
  rw[if_neg (by simpa using hall.2)]
theorem no {p:Int→Bool} {fn:FuncId} {c:List AV} (xs:List Int) (hl:xs.length≤281474976710656) (hp:∀x,aZ prog E fn ([.int .i64 x]++c) (.bool (p x))) :
  aZ prog E 132 [.fro 1 (xs.map b5),.fn fn [] c] (.int .i64 (cY p xs 0)):=by
 refine zo func132 rfl (by decide) rfl ?_
 refine zb ?_
 refine y9 rfl ?_
 refine za (yd (v:=.int _ _) rfl) ?_
 refine z7 ?_
 refine zb ?_
 refine zb ?_
 refine y9 rfl ?_
 refine za (yh (v:=.fro _ _) rfl) ?_
 refine za (Gv.lenM underlying23 rfl) ?_
 refine za (yh (v:=.int _ _) rfl) ?_
 refine z7 ?_
 refine zg ?_
 refine y7 (γ:=Nat) [0,1,7] (fun k=>[(8,.int .i64 k)]) (fun k=>[]) (fun k=>k≤xs.length∧(xs.take k).all (fun x=>!p x)) (fun k=>xs.length - k) 0 ⟨rfl,trivial⟩ ⟨_,(.refl _),rfl⟩ (⟨Nat.zero_le _,rfl⟩) ?_
 rintro k ⟨hk,hall⟩
 refine zb ?_
 refine y9 rfl ?_
 refine za (Gv.lss rfl rfl) ?_
 refine z7 ?_
 refine zb ?_
 refine zm rfl (fun ck=>?_) (fun ck=>?_)
 ·have hk2:k<xs.length:=by omega
  refine ze ?_
  refine zb ?_
  refine zg ?_
  refine zb ?_
  refine y9 rfl ?_
  refine za (yh (v:=.int _ _) rfl) ?_
  refine za (yd (v:=.int _ _) rfl) ?_
  refine z7 ?_
  refine zb ?_
  refine y9 rfl ?_
  refine za (yh (v:=.fn _ _ _) rfl) ?_
  refine za (yh (v:=.fro _ _) rfl) ?_
  refine za (yh (v:=.int _ _) rfl) ?_
  refine za (q9 underlying23 sizeOf3 rfl rfl rfl (List.getElem?_eq_getElem (by omega))) ?_
  refine za (qg (c:=.int _ _) isAgg3 rfl) ?_
  refine ao.callVP rfl (hp _) rfl ?_
  refine z7 ?_
  refine zr rfl (fun cp=>?_) (fun cp=>?_)
  ·refine zb ?_
   refine y9 rfl ?_
   refine za (yh (v:=.int _ _) rfl) ?_
   refine za (yd (v:=.int _ _) rfl) ?_
   refine z7 ?_
   refine zf ?_
   repeat (first|refine bg ?_|refine aQ ?_)
   refine zh (x:=.int _ _) rfl ?_
   rw[cA p xs k hk hall,List.drop_eq_getElem_cons hk2,cY,if_pos cp]
  ·refine ze ?_
   refine y9 rfl ?_
   refine za (Gv.add rfl rfl (by unfold ko;omega)) ?_
   refine za (yh (v:=.int _ _) rfl) ?_
   refine z7 ?_
   exact ⟨k+1,⟨rfl,rfl,rfl,trivial⟩,⟨rfl,trivial⟩,⟨_,(.refl _),rfl⟩,⟨hk2,by rw[List.take_succ_eq_append_getElem hk2,List.all_append,hall];simp[cp]⟩,by omega⟩
 ·have hkn:k=xs.length:=by omega
  refine zz ?_
  refine zb ?_
  refine y9 rfl ?_
  refine za (yd (v:=.int _ _) rfl) ?_
  refine z7 ?_
  refine zf ?_
  repeat (first|refine bg ?_|refine aQ ?_)
  refine zh (x:=.int _ _) rfl ?_
  rw[cA p xs k hk hall,hkn,List.drop_length,cY]
theorem fW {p:Int→Bool} {fn:FuncId} {c:List AV} (xs:List Int) (hl:xs.length≤281474976710656) (hp:∀x,aZ prog E fn ([.int .i64 x]++c) (.bool (p x))) :
  aZ prog E 100 [.fro 1 (xs.map b5),.fn fn [] c] (.bool (xs.any p)):=by
 refine zo func100 rfl (by decide) rfl ?_
 refine zb ?_
 refine y9 rfl ?_
 refine za (yd (v:=.bool _) rfl) ?_
 refine z7 ?_
 refine zb ?_
 refine y9 rfl ?_
 refine za (yh (v:=.fro _ _) rfl) ?_
 refine za (yh (v:=.fn _ _ _) rfl) ?_
 refine ao.callP (no xs hl hp) rfl ?_
 refine za (ql rfl rfl) ?_
 refine za (yd (v:=.bool _) rfl) ?_
 refine z7 ?_
 refine zf ?_
 repeat (first|refine bg ?_|refine aQ ?_)
 refine zh (x:=.bool _) rfl ?_
 rw[fO]
theorem vm (f:ab) (v:Int):aZ prog E 178 ([.int .i64 v]++[.pf (bQ f)]) (.bool (!bl f v)):=by
 refine zo func178 rfl (by decide) rfl ?_
 refine zb ?_
 refine y9 rfl ?_
 refine za (yd (v:=.bool _) rfl) ?_
 refine z7 ?_
 refine zb ?_
 refine y9 rfl ?_
 refine za (yv isAgg26 sizeOf26 rfl rfl) ?_
 refine za (yh (v:=.int _ _) rfl) ?_
 refine ao.callP (jT _ _) rfl ?_
 refine za (Gv.not rfl) ?_
 refine za (yd (v:=.bool _) rfl) ?_
 refine z7 ?_
 refine zf ?_
 repeat (first|refine bg ?_|refine aQ ?_)
 refine zh (x:=.bool _) rfl ?_
 rfl
theorem rl (f:ab) (l:List Int) (hl:l.length≤281474976710656):aZ prog E 147 [.agg (bQ f),.fro 1 (l.map b5)] (.bool (l.all (bl f))):=by
 refine zo func147 rfl (by decide) rfl ?_
 refine zb ?_
 refine y9 rfl ?_
 refine yb (cs:=_) rfl rfl rfl ?_
 refine za (yd (v:=.bool _) rfl) ?_
 refine z7 ?_
 refine zb ?_
 refine y9 rfl ?_
 refine za (yh (v:=.fro _ _) rfl) ?_
 refine za (Gv.func rfl rfl) ?_
 refine ao.callP (fW l hl (vm f)) rfl ?_
 refine za (Gv.not rfl) ?_
 refine za (yd (v:=.bool _) rfl) ?_
 refine z7 ?_
 refine zf ?_
 repeat (first|refine bg ?_|refine aQ ?_)
 refine zh (x:=.bool _) rfl ?_
 rw[List.any_eq_not_all_not];simp
end
section
open Go.Proofs.Tryz
def aU (t:cC):List Int:=if t.kind=0 then[t.to0] else if t.kind=1 then (if t.to0=t.to1 then[t.to0] else[t.to0,t.to1]) else[]
theorem mv (t:cC):(aU t).length≤2:=by unfold aU;split<;>(try split)<;>(try split)<;>simp
theorem tA (t:cC):(aU t).Nodup:=by
 unfold aU
 split
 ·simp
 ·split
  ·split<;>simp_all
  ·simp
def au (f:ab) (b:Int):List Int:=if 0≤b then ((f.blocks[b.toNat]?).map fun c=>aU c.term).getD [] else[]
theorem vn {f:ab} {k:Nat} (h:k<f.blocks.length):au f (k:Int)=aU f.blocks[k].term:=by
 unfold au;rw[if_pos (by omega)]
 rw[show ((k:Int).toNat)=k from rfl,List.getElem?_eq_getElem h];rfl
theorem k7 {f:ab} {b:Int} (h0:0≤b) (h:b.toNat<f.blocks.length):au f b=aU f.blocks[b.toNat].term:=by
 unfold au;rw[if_pos h0,List.getElem?_eq_getElem h];rfl
theorem vp {f:ab} {b:Int} (h:¬(0≤b∧b<f.blocks.length)):au f b=[]:=by
 unfold au
 split
 ·rw[List.getElem?_eq_none (by omega)];rfl
 ·rfl
theorem oH (f:ab) (b:Int):(au f b).length≤2:=by
 unfold au
 split
 ·cases f.blocks[b.toNat]? with
  |none=>simp
  |some c=>exact mv c.term
 ·simp
theorem cT (f:ab) (b:Int):(au f b).Nodup:=by
 unfold au
 split
 ·cases f.blocks[b.toNat]? with
  |none=>simp
  |some c=>exact tA c.term
 ·simp
structure br (f:ab):Prop where
 pos:0<f.blocks.length
 rng:∀b∈f.blocks,∀c∈aU b.term,0≤c∧c<f.blocks.length
theorem br.grph {f:ab} (h:br f):g6 (au f) f.blocks.length:=
 {npos:=h.pos
  rng:=fun b h0 h1 c hc=>by
   rw[k7 h0 (by omega)] at hc
   exact h.rng _ (List.getElem_mem (by omega)) c hc
  len:=oH f
  out:=fun _ hx=>vp hx }
theorem dy {E:Int→List Int} (hn:∀b,(E b).Nodup) (n:Nat) (b:Int):(bE E n b).Nodup∧(bE E n b).Pairwise (·<·):=by
 have key:(bE E n b).Pairwise (·<·):=by
  unfold bE
  rw[List.flatMap,List.pairwise_flatten]
  constructor
  ·intro l hl
   obtain ⟨i,_,rfl⟩:=List.mem_map.1 hl
   have h1:=hn i
   have h2:((E i).filter fun c=>decide (c=b)).length≤1:=by
    generalize E i=l at h1
    induction l with
    |nil=>simp
    |cons x l ih=>
     rw[List.nodup_cons] at h1
     rw[List.filter_cons]
     split
     ·rename_i hx
      have hx:x=b:=by simpa using hx
      have:l.filter (fun c=>decide (c=b))=[]:=List.filter_eq_nil_iff.2 fun y hy=>by
       intro e
       have:y=b:=by simpa using e
       rw[←hx] at this
       exact h1.1 (this▸hy)
      rw[this];simp
     ·exact ih h1.2
   match h3:((E i).filter fun c=>decide (c=b)) with
   |[]=>simp
   |[x]=>simp
   |x::y::r=>rw[h3] at h2;simp at h2
  ·rw[List.pairwise_map]
   unfold dJ
   rw[List.pairwise_map]
   refine List.Pairwise.imp ?_ List.pairwise_lt_range
   intro i j hij x hx y hy
   obtain ⟨_,_,rfl⟩:=List.mem_map.1 hx
   obtain ⟨_,_,rfl⟩:=List.mem_map.1 hy
   exact Int.ofNat_lt.2 hij
 exact ⟨key.imp fun h e=>by omega,key⟩
def fX (E:Int→List Int) (a shut b:Int):Prop:=a≠shut∧∃c,c∈E a∧gF E (fun x=>x≠shut) c b
theorem fX.step {E:Int→List Int} {a shut x y:Int} (h:(x=a∧a≠shut)∨fX E a shut x) (he:y∈E x) (hy:y≠shut):fX E a shut y:=by
 rcases h with ⟨rfl,h⟩|⟨h,c,hc,hw⟩
 ·exact ⟨h,y,he,.refl hy⟩
 ·exact ⟨h,c,hc,.step hw he hy⟩
theorem fX.closed {E:Int→List Int} {a shut:Int} {out:Int→Prop} (hc:∀x y,x≠shut→(x=a∨out x)→y∈E x→y≠shut→out y) {b:Int} (h:fX E a shut b):out b:=by
 obtain ⟨ha,c,hc1,hw⟩:=h
 induction hw with
 |refl h1=>exact hc a c ha (.inl rfl) hc1 h1
 |step h1 h2 h3 ih=>exact hc _ _ h1.end_ (.inr ih) h2 h3
theorem DK {E:Int→List Int} {shut b:Int}:((b=0∧shut≠0)∨(b≠0∧fX E 0 shut b))↔gF E (fun x=>x≠shut) 0 b:=by
 constructor
 ·rintro (⟨rfl,h⟩|⟨_,h,c,hc,hw⟩)
  ·exact .refl (fun e=>h e.symm)
  ·exact gF.trans (.step (.refl h) hc hw.start) hw
 ·intro h
  by_cases hb:b=0
  ·exact .inl ⟨hb,fun e=>h.start e.symm⟩
  ·refine .inr ⟨hb,h.start,?_⟩
   rcases h.last with e|⟨c,hc,hw⟩
   ·exact absurd e hb
   ·exact ⟨c,hc,hw.mono fun _ h=>h.1⟩
theorem xa {E:Int→List Int} {n:Nat} (hE:g6 E n) {b:Int}:gF E (fun x=>x≠-1) 0 b↔tj E b:=by
 constructor
 ·exact fun h=>h.mono fun _ _=>trivial
 ·intro h
  refine h.self.mono fun x hx e=>?_
  have:=bm hE.toEOk ((el hE.toEOk x).2 hx.2)
  omega
abbrev pZ:=Int × Int
def jU (v:Int) (i:Int) (b:aB):List pZ:=(b.phis.filter fun p=>decide (p.dst=v)).map (fun _=>(i,-1))++(b.insts.zipIdx.filter fun x=>decide (x.1.dst=v)).map fun x=>(i,(x.2:Int))
def bq (f:ab) (v:Int):List pZ:=f.blocks.zipIdx.flatMap fun b=>jU v (b.2:Int) b.1
def bx (f:ab) (v:Int):pZ:=(bq f v).head?.getD (-1,0)
def rm (f:ab):Prop:=∀v:Nat,v<f.vars.length→(bq f v).length≤1∧(bq f v≠[]→f.params.length≤v)
def gT (f:ab) (m:pZ) (b at_:Int):Prop:=m.1<0∨(m.1=b∧m.2<at_)∨(0≤m.1∧m.1≠b∧qV (au f) m.1 b)
def ep (f:ab):Prop:=∀i (h:i<f.blocks.length),∀p∈f.blocks[i].phis,p.from_.Perm (bE (au f) f.blocks.length i)
def xb (f:ab):Prop:=∀i:Nat,i<f.blocks.length→tj (au f) i
def g9 (f:ab) (b:Int):Int:=((f.blocks[b.toNat]?).map fun c=>(c.insts.length:Int)).getD 0
def nQ (f:ab) (i:Nat) (b:aB):Prop:=
 (∀p∈b.phis,∀q∈p.args.zip p.from_,gT f (bx f q.1) q.2 (g9 f q.2)) ∧
 (∀k (h:k<b.insts.length),∀v∈b.insts[k].args,gT f (bx f v) i k) ∧
 (b.term.kind=0∨gT f (bx f b.term.var) i b.insts.length)
def IM (f:ab):Prop:=∀i (h:i<f.blocks.length),nQ f i f.blocks[i]
def xc (f:ab):Prop:=ep f∧xb f∧rm f∧IM f
end
section
open Go.Proofs.Tryz
def mX (l:List Int):List Int:=l.mergeSort fun x y=>decide (x≤y)
theorem fY (l:List Int):(mX l).Perm l:=List.mergeSort_perm l _
theorem sf (l:List Int):(mX l).Pairwise (·≤·):=by
 have:=List.pairwise_mergeSort (le:=fun x y:Int=>decide (x≤y)) (fun a b c h1 h2=>by simp at *;omega) (fun a b=>by simp;omega) l
 exact this.imp fun h=>by simpa using h
theorem DL {l m:List Int} (hm:m.Pairwise (·<·)):mX l=m↔l.Perm m:=by
 constructor
 ·intro h;rw[←h];exact (fY l).symm
 ·intro h
  exact List.Perm.eq_of_pairwise (le:=fun a b:Int=>a≤b) (fun a b _ _ h1 h2=>Int.le_antisymm h1 h2) (sf l) (hm.imp fun h=>Int.le_of_lt h) ((fY l).trans h)
theorem oI {l m:List Int} (hn:l.Nodup) (hs:∀x∈l,x∈m) (hl:m.length≤l.length):l.Perm m:=by
 induction l generalizing m with
 |nil=>obtain rfl:m=[]:=List.eq_nil_of_length_eq_zero (by simpa using hl);exact .refl _
 |cons x l ih=>
  rw[List.nodup_cons] at hn
  have hx:=hs x (.head _)
  have h1:l.Perm (m.erase x):=ih hn.2 (fun y hy=>(List.mem_erase_of_ne (fun e=>hn.1 (by rw[←e];exact hy))).2 (hs y (.tail _ hy))) (by
   rw[List.length_erase_of_mem hx];simp at hl;omega)
  exact (List.Perm.cons x h1).trans (List.perm_cons_erase hx).symm
def xd (f:ab) (i:Nat) (l:List Int):Prop:=(bE (au f) f.blocks.length i).length=l.length∧∀k (h:k<l.length),(i:Int)∈au f l[k]∧l[k] ∉ l.take k
theorem oJ {l:List Int}:l.Nodup↔∀k (h:k<l.length),l[k] ∉ l.take k:=by
 induction l with
 |nil=>simp
 |cons x l ih=>
  rw[List.nodup_cons,ih]
  constructor
  ·rintro ⟨h1,h2⟩ k hk
   cases k with
   |zero=>simp
   |succ k=>
    simp only[List.getElem_cons_succ,List.take_succ_cons,List.mem_cons,not_or]
    have hk':k<l.length:=by simpa using hk
    exact ⟨fun e=>h1 (by rw[←e];exact List.getElem_mem hk'),h2 k hk'⟩
  ·intro h
   constructor
   ·intro hm
    obtain ⟨k,hk,e⟩:=List.mem_iff_getElem.1 hm
    have:=h (k+1) (by simpa using hk)
    simp[e] at this
   ·intro k hk
    have:=h (k+1) (by simpa using hk)
    simp only[List.getElem_cons_succ,List.take_succ_cons,List.mem_cons,not_or] at this
    exact this.2
theorem B9 {f:ab} (hE:br f) {i:Nat} {l:List Int}:xd f i l↔l.Perm (bE (au f) f.blocks.length i):=by
 have hg:=hE.grph
 have hp:=dy (cT f) f.blocks.length i
 unfold xd
 constructor
 ·rintro ⟨h1,h2⟩
  refine oI (oJ.2 fun k hk=>(h2 k hk).2) (fun x hx=>?_) (by omega)
  obtain ⟨k,hk,rfl⟩:=List.mem_iff_getElem.1 hx
  exact (bW hg.toEOk hg.out).2 (h2 k hk).1
 ·intro h
  have hn:=h.nodup_iff.2 hp.1
  exact ⟨h.length_eq.symm,fun k hk=>⟨(bW hg.toEOk hg.out).1 (h.mem_iff.1 (List.getElem_mem hk)),oJ.1 hn k hk⟩⟩
theorem mw {f:ab} {i:Nat} {l:List Int}:mX l=bE (au f) f.blocks.length i↔l.Perm (bE (au f) f.blocks.length i):=DL (dy (cT f) f.blocks.length i).2
end
section
open Go.Proofs.Tryz
def lK (l:List Bool) (bs:List Int):List Bool:=bs.foldl (fun l b=>l.set b.toNat true) l
theorem hU:∀(bs:List Int) (l:List Bool),(lK l bs).length=l.length
 |[],_=>rfl
 |b::bs,l=>by show (lK (l.set b.toNat true) bs).length=_;rw[hU bs,List.length_set]
theorem vq (l:List Bool) (bs:List Int) (b:Int):lK l (bs++[b])=(lK l bs).set b.toNat true:=by unfold lK;rw[List.foldl_append];rfl
theorem rn (k:Nat):∀(bs:List Int) (l:List Bool),(∀b∈bs,0≤b)→k<l.length→(lK l bs)[k]?=some (decide ((k:Int)∈bs)||(l[k]?).getD false)
 |[],l,_,hk=>by show l[k]?=_;rw[List.getElem?_eq_getElem hk];simp
 |b::bs,l,h,hk=>by
  show (lK (l.set b.toNat true) bs)[k]?=_
  rw[rn k bs _ (fun c hc=>h c (.tail _ hc)) (by rw[List.length_set];exact hk),List.getElem?_set]
  have h0:=h b (.head _)
  by_cases e:b.toNat=k
  ·have:(k:Int)=b:=by omega
   rw[if_pos e,if_pos (by omega),this];simp
  ·have:¬(k:Int)=b:=by omega
   rw[if_neg e];simp[this]
def fZ (E:Int→List Int) (n:Nat):List Bool:=lK (List.replicate n false) (aK E n)
theorem vt (E:Int→List Int) (n:Nat):(fZ E n).length=n:=by unfold fZ;rw[hU];simp
theorem iK {E:Int→List Int} {n:Nat} (hE:EOk E n) {k:Nat} (hk:k<n):(fZ E n)[k]?=some (decide ((k:Int)∈aK E n)):=by
 unfold fZ
 rw[rn k _ _ (fun b hb=>(bm hE hb).1) (by simp;exact hk)]
 simp[hk]
theorem k8 {f:ab} (hE:br f):(fZ (au f) f.blocks.length).contains false=false↔xb f:=by
 have hG:=hE.grph.toEOk
 constructor
 ·intro h i hi
  have hg:=iK hG hi
  apply (el hG _).1
  apply Classical.byContradiction
  intro hn
  rw[decide_eq_false hn] at hg
  have:=List.mem_of_getElem? hg
  rw[Bool.eq_false_iff] at h
  exact h (by simpa using this)
 ·intro h
  rw[Bool.eq_false_iff]
  intro hc
  have hc:false∈fZ (au f) f.blocks.length:=by simpa using hc
  obtain ⟨k,hk,e⟩:=List.getElem_of_mem hc
  have hk2:=hk
  rw[vt] at hk2
  have hg:=iK hG hk2
  rw[List.getElem?_eq_getElem hk,e] at hg
  have hm:=(el hG (k:Int)).2 (h k hk2)
  rw[decide_eq_true hm] at hg
  cases hg
def FW (f:ab) (i:Nat) (p:bu):Bool:=decide (mX p.from_=bE (au f) f.blocks.length i)
def DM (f:ab) (i:Nat):Bool:=((f.blocks[i]?).map fun b=>b.phis.all (FW f i)).getD true
def cO (f:ab):Bool:=(List.range f.blocks.length).all (DM f)
theorem kp {f:ab} {i:Nat} {b:aB} (h:f.blocks[i]?=some b):DM f i=b.phis.all (FW f i):=by unfold DM;rw[h];rfl
theorem gG (f:ab):cO f=true↔ep f:=by
 unfold cO ep
 rw[List.all_eq_true]
 constructor
 ·intro h i hi p hp
  have:=h i (List.mem_range.2 hi)
  rw[kp (List.getElem?_eq_getElem hi),List.all_eq_true] at this
  exact mw.1 (by simpa [FW] using this p hp)
 ·intro h i hi
  have hi:=List.mem_range.1 hi
  rw[kp (List.getElem?_eq_getElem hi),List.all_eq_true]
  intro p hp
  simpa [FW] using mw.2 (h i hi p hp)
theorem dk {p:Nat→Bool} {k:Nat} (h:(List.range k).all p=true) (hk:p k=true):(List.range (k+1)).all p=true:=by rw[List.range_succ,List.all_append,h];simp[hk]
theorem fm {p:Nat→Bool} {k n:Nat} (hk:k<n) (h:p k=false):(List.range n).all p=false:=by
 rw[Bool.eq_false_iff];intro ha
 have:=List.all_eq_true.1 ha k (List.mem_range.2 hk)
 rw[h] at this;cases this
def eD (i:Nat) (ps:List bu):List (Int × pZ):=ps.map fun p=>(p.dst,((i:Int),-1))
def iL (i:Nat) (xs:List bc):List (Int × pZ):=(xs.zipIdx.filter fun x=>decide (0≤x.1.dst)).map fun x=>(x.1.dst,((i:Int),(x.2:Int)))
def qI (i:Nat) (b:aB):List (Int × pZ):=eD i b.phis++iL i b.insts
def d8 (f:ab) (k:Nat):List (Int × pZ):=((f.blocks.take k).zipIdx).flatMap fun b=>qI b.2 b.1
theorem xe {α:Type} {l:List α} {k:Nat} (h:k<l.length):(l.take (k+1)).zipIdx=(l.take k).zipIdx++[(l[k],k)]:=by
 rw[List.take_succ_eq_append_getElem h,List.zipIdx_append,List.length_take,Nat.min_eq_left (by omega)]
 simp
theorem my (i:Nat) {ps:List bu} {j:Nat} (h:j<ps.length):eD i (ps.take (j+1))=eD i (ps.take j)++[(ps[j].dst,((i:Int),-1))]:=by
 unfold eD;rw[List.take_succ_eq_append_getElem h,List.map_append];rfl
theorem kq (i:Nat) {xs:List bc} {j:Nat} (h:j<xs.length):iL i (xs.take (j+1))=iL i (xs.take j)++if 0≤xs[j].dst then[(xs[j].dst,((i:Int),(j:Int)))] else[]:=by
 unfold iL;rw[xe h,List.filter_append,List.map_append]
 by_cases h0:0≤xs[j].dst
 ·simp[h0]
 ·simp[h0]
theorem fP {f:ab} {k:Nat} (h:k<f.blocks.length):d8 f (k+1)=d8 f k++qI k f.blocks[k]:=by
 unfold d8;rw[xe h,List.flatMap_append];simp
theorem tB (i:Nat) (xs:List bc):(iL i xs).length≤xs.length:=by
 unfold iL;rw[List.length_map];exact Nat.le_trans (List.length_filter_le _ _) (by simp)
theorem DN (i:Nat) (b:aB):(qI i b).length≤b.phis.length+b.insts.length:=by
 have:=tB i b.insts
 unfold qI eD;rw[List.length_append,List.length_map];omega
theorem tC {f:ab} {m:Nat} (h:∀b∈f.blocks,b.phis.length+b.insts.length≤m):∀k,k≤f.blocks.length→(d8 f k).length≤k*m
 |0,_=>by simp[d8]
 |k+1,hk=>by
  have h1:=tC h k (by omega)
  have h2:=DN k f.blocks[k]
  have h3:=h _ (List.getElem_mem (show k<f.blocks.length by omega))
  rw[fP (by omega),List.length_append,Nat.add_mul];omega
theorem F5 (i v:Nat) (b:aB):((qI i b).filter fun e=>decide (e.1=(v:Int))).map (·.2)=jU v i b:=by
 unfold qI eD iL jU
 rw[List.filter_append,List.map_append,List.filter_map,List.map_map,List.filter_map,List.map_map,List.filter_filter]
 congr 1
 congr 1
 apply List.filter_congr
 intro x _
 by_cases e:x.1.dst=(v:Int)
 ·have:0≤x.1.dst:=by omega
  simp[e]
 ·simp[e]
theorem sg (f:ab) (v:Nat):((d8 f f.blocks.length).filter fun e=>decide (e.1=(v:Int))).map (·.2)=bq f v:=by
 unfold d8 bq
 rw[List.take_length,List.filter_flatMap,List.map_flatMap]
 congr 1
 funext b
 exact F5 b.2 v b.1
def mY (f:ab) (v:Nat):Bool:=!(decide (1<(bq f v).length)||decide (0<(bq f v).length)&&decide (v<f.params.length))
def rp (f:ab):Bool:=(List.range f.vars.length).all (mY f)
theorem Ca (f:ab):rp f=true↔rm f:=by
 unfold rp rm mY
 rw[List.all_eq_true]
 constructor
 ·intro h v hv
  have:=h v (List.mem_range.2 hv)
  simp only[Bool.not_eq_true',Bool.or_eq_false_iff,Bool.and_eq_false_iff,decide_eq_false_iff_not] at this
  refine ⟨by omega,fun hne=>?_⟩
  have hl:=List.length_pos_iff.2 hne
  rcases this.2 with h1|h1<;>omega
 ·intro h v hv
  obtain ⟨h1,h2⟩:=h v (List.mem_range.1 hv)
  simp only[Bool.not_eq_true',Bool.or_eq_false_iff,Bool.and_eq_false_iff,decide_eq_false_iff_not]
  refine ⟨by omega,?_⟩
  by_cases e:bq f v=[]
  ·left;rw[e];simp
  ·right;have:=h2 e;omega
def mz (f:ab) (m:pZ) (b at_:Int):Bool:=if m.1<0 then true else if m.1=b then decide (m.2<at_) else IJ (au f) f.blocks.length m.1 b
theorem f0 {f:ab} (hE:br f) (m:pZ) (b at_:Int):mz f m b at_=true↔gT f m b at_:=by
 unfold mz gT
 by_cases h0:m.1<0
 ·rw[if_pos h0];simp[h0]
 ·rw[if_neg h0]
  by_cases h1:m.1=b
  ·rw[if_pos h1];simp[h1];omega
  ·rw[if_neg h1,hE.grph.domB_iff]
   constructor
   ·intro h;exact .inr (.inr ⟨by omega,h1,h⟩)
   ·rintro (h|h|h)
    ·exact absurd h h0
    ·exact absurd h.1 h1
    ·exact h.2.2
def Lh (f:ab) (p:bu):Bool:=(p.args.zip p.from_).all fun q=>mz f (bx f q.1) q.2 (g9 f q.2)
def J7 (f:ab) (i:Nat) (x:bc × Nat):Bool:=x.1.args.all fun v=>mz f (bx f v) i x.2
def Li (f:ab) (i:Nat) (b:aB):Bool:=decide (b.term.kind=0)||mz f (bx f b.term.var) i b.insts.length
def Cb (f:ab) (i:Nat) (b:aB):Bool:=b.phis.all (Lh f)&&b.insts.zipIdx.all (J7 f i)&&Li f i b
def Lm (f:ab) (i:Nat):Bool:=((f.blocks[i]?).map (Cb f i)).getD true
def DO (f:ab):Bool:=(List.range f.blocks.length).all (Lm f)
theorem si {f:ab} {i:Nat} {b:aB} (h:f.blocks[i]?=some b):Lm f i=Cb f i b:=by unfold Lm;rw[h];rfl
theorem tD {f:ab} (hE:br f) (i:Nat) (b:aB):Cb f i b=true↔nQ f i b:=by
 unfold Cb nQ
 rw[Bool.and_eq_true,Bool.and_eq_true,and_assoc]
 refine and_congr ?_ (and_congr ?_ ?_)
 ·rw[List.all_eq_true]
  refine forall_congr' fun p=>forall_congr' fun _=>?_
  unfold Lh
  rw[List.all_eq_true]
  exact forall_congr' fun q=>forall_congr' fun _=>f0 hE _ _ _
 ·rw[List.all_eq_true]
  constructor
  ·intro h k hk v hv
   have:=h (b.insts[k],k) (List.mem_zipIdx_iff_getElem?.2 (List.getElem?_eq_getElem hk))
   unfold J7 at this
   rw[List.all_eq_true] at this
   exact (f0 hE _ _ _).1 (this v hv)
  ·intro h x hx
   have hx:=List.mem_zipIdx_iff_getElem?.1 hx
   obtain ⟨hk,e⟩:=List.getElem?_eq_some_iff.1 hx
   unfold J7
   rw[List.all_eq_true]
   intro v hv
   exact (f0 hE _ _ _).2 (h x.2 hk v (by rw[e];exact hv))
 ·unfold Li
  rw[Bool.or_eq_true,decide_eq_true_eq,f0 hE]
theorem DP {f:ab} (hE:br f):DO f=true↔IM f:=by
 unfold DO IM
 rw[List.all_eq_true]
 constructor
 ·intro h i hi
  have:=h i (List.mem_range.2 hi)
  rw[si (List.getElem?_eq_getElem hi)] at this
  exact (tD hE _ _).1 this
 ·intro h i hi
  have hi:=List.mem_range.1 hi
  rw[si (List.getElem?_eq_getElem hi)]
  exact (tD hE _ _).2 (h i hi)
def rt (f:ab):Bool:=cO f&&(!(fZ (au f) f.blocks.length).contains false&&(rp f&&DO f))
theorem ru {f:ab} (hE:br f):rt f=true↔xc f:=by
 unfold rt xc
 rw[Bool.and_eq_true,Bool.and_eq_true,Bool.and_eq_true,Bool.not_eq_true',gG,k8 hE,Ca,DP hE]
end
section
open Go.Proofs.Tryz
open Go.Proofs
variable {E:World}
set_option maxRecDepth 20000
def p6 {α:Type} (l:List α):Prop:=l.length≤140737488355328
def xf (p:bu):Prop:=p6 p.args∧p6 p.from_
def J8 (b:aB):Prop:=p6 b.phis∧p6 b.insts∧(∀p∈b.phis,xf p)∧(∀x∈b.insts,p6 x.args)
def sj (f:ab):Prop:=p6 f.vars∧p6 f.params∧p6 f.blocks∧∀b∈f.blocks,J8 b
theorem p6.lt {α:Type} {l:List α} (h:p6 l):l.length≤140737488355328:=h
theorem jb {x y:Bool} (h:x=y):AV.bool x=AV.bool y:=congrArg AV.bool h
theorem IO (k:Nat):∀I v,cf I (.raw (.slice none 0 0)) v→cf I (.fro k []) v:=fun _ _ h=>⟨none,0,0,h,rfl,Nat.le_refl _,fun _=>rfl,trivial⟩
theorem IP (a b c d:Int) (w:World) (m:Nat):(Op.equalIn (m+2) 56 (.agg [.int .i64 a,.int .i64 b].toArray) (.agg [.int .i64 c,.int .i64 d].toArray)).run prog w=.ok (decide (a=c∧b=d)) w:=by
 rw[Op.equalIn]
 simp only[Sem.run_bind,run_underlying underlying56,Result.andThen_ok]
 simp only[Std.Legacy.Range.forIn_eq_forIn_range',Std.Legacy.Range.size,Nat.sub_zero,Nat.add_sub_cancel,Nat.div_one,List.range'_succ,List.range'_zero,List.forIn_cons,List.forIn_nil]
 simp[part,isAgg3,sizeOf3,run_equalIn_int,underlying3]
 by_cases h1:a=c<;>by_cases h2:b=d<;>simp[h1,h2]
theorem tE (xs ys:List Int) (hl:p6 xs):aZ prog E 66 [.fro 1 (xs.map b5),.fro 1 (ys.map b5)] (.bool (decide (xs=ys))):=by
 have hl:=hl.lt
 refine zo func66 rfl (by decide) rfl ?_
 refine zb ?_
 refine y9 rfl ?_
 refine za (yd (v:=.bool _) rfl) ?_
 refine z7 ?_
 refine zb ?_
 refine zb ?_
 refine y9 rfl ?_
 refine za (yh (v:=.fro _ _) rfl) ?_
 refine za (Gv.lenM underlying23 rfl) ?_
 refine za (yh (v:=.fro _ _) rfl) ?_
 refine za (Gv.lenM underlying23 rfl) ?_
 refine za (yn rfl rfl) ?_
 refine z7 ?_
 refine zr rfl (fun c0=>?_) (fun c0=>?_)
 ·have h:¬xs=ys:=fun e=>by subst e;simp at c0
  refine zb ?_
  refine y9 rfl ?_
  refine za (yd (v:=.bool _) rfl) ?_
  refine z7 ?_
  refine zf ?_
  repeat (first|refine bg ?_|refine aQ ?_)
  refine zh (x:=.bool _) rfl ?_
  rw[decide_eq_false h]
 ·have hl2:xs.length=ys.length:=by simp at c0;omega
  refine ze ?_
  refine zb ?_
  refine zb ?_
  refine y9 rfl ?_
  refine za (yh (v:=.fro _ _) rfl) ?_
  refine za (Gv.lenM underlying23 rfl) ?_
  refine za (yh (v:=.int _ _) rfl) ?_
  refine z7 ?_
  refine zg ?_
  refine y7 (γ:=Nat) [0,1,12] (fun k=>[(13,.int .i64 k)]) (fun k=>[]) (fun k=>k≤xs.length∧xs.take k=ys.take k) (fun k=>xs.length - k) 0 ⟨rfl,trivial⟩ ⟨_,(.refl _),rfl⟩ (⟨Nat.zero_le _,rfl⟩) ?_
  rintro k ⟨hk,he⟩
  refine zb ?_
  refine y9 rfl ?_
  refine za (Gv.lss rfl rfl) ?_
  refine z7 ?_
  refine zb ?_
  refine zm rfl (fun ck=>?_) (fun ck=>?_)
  ·have hk2:k<xs.length:=by omega
   have hk3:k<ys.length:=by omega
   refine ze ?_
   refine zb ?_
   refine zg ?_
   refine zb ?_
   refine y9 rfl ?_
   refine za (yh (v:=.int _ _) rfl) ?_
   refine za (yd (v:=.int _ _) rfl) ?_
   refine z7 ?_
   refine zb ?_
   refine cX.regionDraw (fun j=>false) (by kernel_rfl) rfl (se.perm (.rest _)) ?_
   refine bJ.take (i:=0) rfl (by kernel_rfl) (by kernel_rfl) (by kernel_rfl) (by kernel_rfl) (by kernel_rfl) (by kernel_rfl) (yh (v:=.fro _ _) rfl) ?_
   refine bJ.take (i:=1) rfl (by kernel_rfl) (by kernel_rfl) (by kernel_rfl) (by kernel_rfl) (by kernel_rfl) (by kernel_rfl) (yh (v:=.int _ _) rfl) ?_
   refine bJ.take (i:=2) rfl (by kernel_rfl) (by kernel_rfl) (by kernel_rfl) (by kernel_rfl) (by kernel_rfl) (by kernel_rfl) (q9 underlying23 sizeOf3 rfl rfl rfl (List.getElem?_eq_getElem (by omega))) ?_
   refine bJ.take (i:=3) rfl (by kernel_rfl) (by kernel_rfl) (by kernel_rfl) (by kernel_rfl) (by kernel_rfl) (by kernel_rfl) (qg (c:=.int _ _) isAgg3 rfl) ?_
   refine bJ.take (i:=4) rfl (by kernel_rfl) (by kernel_rfl) (by kernel_rfl) (by kernel_rfl) (by kernel_rfl) (by kernel_rfl) (yh (v:=.fro _ _) rfl) ?_
   refine bJ.take (i:=5) rfl (by kernel_rfl) (by kernel_rfl) (by kernel_rfl) (by kernel_rfl) (by kernel_rfl) (by kernel_rfl) (yh (v:=.int _ _) rfl) ?_
   refine bJ.take (i:=6) rfl (by kernel_rfl) (by kernel_rfl) (by kernel_rfl) (by kernel_rfl) (by kernel_rfl) (by kernel_rfl) (q9 underlying23 sizeOf3 rfl rfl rfl (List.getElem?_eq_getElem (by omega))) ?_
   refine bJ.take (i:=7) rfl (by kernel_rfl) (by kernel_rfl) (by kernel_rfl) (by kernel_rfl) (by kernel_rfl) (by kernel_rfl) (qg (c:=.int _ _) isAgg3 rfl) ?_
   refine bJ.take (i:=8) rfl (by kernel_rfl) (by kernel_rfl) (by kernel_rfl) (by kernel_rfl) (by kernel_rfl) (by kernel_rfl) (yn rfl rfl) ?_
   refine bJ.done (by kernel_rfl) ?_
   refine zr rfl (fun cd=>?_) (fun cd=>?_)
   ·refine zb ?_
    refine y9 rfl ?_
    refine za (yd (v:=.bool _) rfl) ?_
    refine z7 ?_
    refine zf ?_
    repeat (first|refine bg ?_|refine aQ ?_)
    refine zh (x:=.bool _) rfl ?_
    rw[decide_eq_false (J5 hk2 hk3 (by simpa using cd))]
   ·refine ze ?_
    refine y9 rfl ?_
    refine za (Gv.add rfl rfl (by unfold ko;omega)) ?_
    refine za (yh (v:=.int _ _) rfl) ?_
    refine z7 ?_
    exact ⟨k+1,⟨rfl,rfl,rfl,trivial⟩,⟨rfl,trivial⟩,⟨_,(.refl _),rfl⟩,⟨hk2,B5 hk2 hk3 he (by simpa using cd)⟩,by omega⟩
  ·refine zz ?_
   refine zb ?_
   refine y9 rfl ?_
   refine za (yd (v:=.bool _) rfl) ?_
   refine z7 ?_
   refine zf ?_
   repeat (first|refine bg ?_|refine aQ ?_)
   refine zh (x:=.bool _) rfl ?_
   rw[decide_eq_true (B6 hl2 (by omega) he)]
section
variable {P:Program} {E:World} {l:List Oper} {W:Nat→Bool} {fuel:Nat} {listed:Array Bool} {d ty:Nat} {op:Op} {pos:String} {af:Array Edge} {Q:aO→OL→Prop} {env:aO} {Os Om:OL}
def sk (l:List Oper) (W:Nat→Bool) (listed:Array Bool) (i:Nat):Bool:=Region.noSelect l.toArray&&(Region.free .any l.toArray listed i&&((Region.ready .any l.toArray listed).contains i&&(fV l i W&&(!W i&&eZ W listed))))
theorem sk.of {i:Nat} (h:sk l W listed i=true):Region.noSelect l.toArray=true∧Region.free .any l.toArray listed i=true∧(Region.ready .any l.toArray listed).contains i=true∧fV l i W=true∧W i=false∧eZ W listed=true:=by
 simpa only[sk,Bool.and_eq_true,Bool.not_eq_true'] using h
theorem ak (i:Nat) {x:AV} (hi:l[i]?=some (Oper.mk (some d) op ty pos af none)) (hg:Gv P env Os (Oper.mk (some d) op ty pos af none) x)
  (h:bJ P E l W Q fuel (listed.setIfInBounds i true) (bD env d x) Os Om) (hb:sk l W listed i=true:=by kernel_rfl):bJ P E l W Q (fuel+1) listed env Os Om:=
 have ⟨a,b,c,e,g,k⟩:=sk.of hb
 bJ.take hi a b c e g k hg h
theorem fJ (i:Nat) {j s:Nat} {b t:Bool} {x:AV} (hi:l[i]?=some (Oper.mk (some d) op ty pos af (some (j,b)))) (hg0:(l[j]?).bind (fun o:Oper=>o.dst)=some s) (hv0:env s=.bool t) (ht:t=b) (hg:Gv P env Os (Oper.mk (some d) op ty pos af none) x)
  (h:bJ P E l W Q fuel (listed.setIfInBounds i true) (bD env d x) Os Om) (hb:sk l W listed i=true:=by kernel_rfl):bJ P E l W Q (fuel+1) listed env Os Om:=
 have ⟨a,b,c,e,g,k⟩:=sk.of hb
 bJ.takeT hi hg0 hv0 ht a b c e g k hg h
theorem d5 (i:Nat) {j s:Nat} {b t:Bool} (hi:l[i]?=some (Oper.mk (some d) op ty pos af (some (j,b)))) (hg0:(l[j]?).bind (fun o:Oper=>o.dst)=some s) (hv0:env s=.bool t) (ht:t=!b)
  (h:bJ P E l W Q fuel (listed.setIfInBounds i true) (bD env d (.raw undef)) Os Om) (hb:sk l W listed i=true:=by kernel_rfl):bJ P E l W Q (fuel+1) listed env Os Om:=
 have ⟨a,b,c,e,g,k⟩:=sk.of hb
 bJ.takeF hi hg0 hv0 ht a b c e g k h
theorem bO (i:Nat) {o:Oper} (hi:l[i]?=some o) (h:ao P E l.toArray (fun env' Om'=>bJ P E l W Q fuel (listed.setIfInBounds i true) env' Os Om') [o] env Om) (hr:Region.ready .any l.toArray listed=[i]:=by kernel_rfl):bJ P E l W Q (fuel+1) listed env Os Om:=bJ.one hi hr h
theorem eG (h:Q env (Os++Om)) (hr:Region.ready .any l.toArray listed=[]:=by kernel_rfl):bJ P E l W Q fuel listed env Os Om:=bJ.done hr h
variable {x y z:Operand} {t:TypeId} {O:OL}
theorem d9 {k:IntKind} {a:Int} (hx:bf env x=.int k a):Gv P env O (Oper.mk (some d) (.move x) ty pos af none) (.int k a):=yh hx
theorem DQ {a:Bool} (hx:bf env x=.bool a):Gv P env O (Oper.mk (some d) (.move x) ty pos af none) (.bool a):=yh hx
theorem vu {k:Nat} {a:List (List AV)} (hx:bf env x=.fro k a):Gv P env O (Oper.mk (some d) (.move x) ty pos af none) (.fro k a):=yh hx
theorem Il {k:IntKind} {a:Int} (hx:bf env x=.int k a):Gv P env O (Oper.mk (some d) (.assign x) ty pos af none) (.int k a):=yd hx
theorem xg {a:Bool} (hx:bf env x=.bool a):Gv P env O (Oper.mk (some d) (.assign x) ty pos af none) (.bool a):=yd hx
theorem va {k:Nat} {a:List (List AV)} (hx:bf env x=.fro k a):Gv P env O (Oper.mk (some d) (.assign x) ty pos af none) (.fro k a):=yd hx
theorem gH {k:IntKind} {a:Int} {cs:List AV} (ha:∀w,(isAgg t).run P w=.ok false w) (hx:bf env x=.pf (.int k a::cs)):Gv P env O (Oper.mk (some d) (.load t x) ty pos af none) (.int k a):=qg ha hx
theorem lL {k:Nat} {a:List (List AV)} {cs:List AV} (ha:∀w,(isAgg t).run P w=.ok false w) (hx:bf env x=.pf (.fro k a::cs)):Gv P env O (Oper.mk (some d) (.load t x) ty pos af none) (.fro k a):=qg ha hx
theorem DR {b v:Bool} (hc:bf env x=.bool b) (hb:b=true) (hy:bf env y=.bool v):Gv P env O (Oper.mk (some d) (.pick x y z) ty pos af none) (.bool v):=Gv.pickT hc hb hy
theorem Ds {b v:Bool} (hc:bf env x=.bool b) (hb:b=false) (hy:bf env z=.bool v):Gv P env O (Oper.mk (some d) (.pick x y z) ty pos af none) (.bool v):=Gv.pickF hc hb hy
theorem kP {i m:Nat} (hx:bf env x=.own i m):Gv P env O (Oper.mk (some d) (.move x) ty pos af none) (.own i m):=yh hx
theorem eU {i m:Nat} (hx:bf env x=.po i m):Gv P env O (Oper.mk (some d) (.move x) ty pos af none) (.po i m):=yh hx
theorem LS {cs:List AV} (hx:bf env x=.pf cs):Gv P env O (Oper.mk (some d) (.move x) ty pos af none) (.pf cs):=yh hx
theorem J9 {cs:List AV} (hx:bf env x=.tup cs):Gv P env O (Oper.mk (some d) (.move x) ty pos af none) (.tup cs):=yh hx
theorem ef {i m:Nat} (hx:bf env x=.own i m):Gv P env O (Oper.mk (some d) (.assign x) ty pos af none) (.own i m):=yd hx
theorem DS {i m:Nat} (hx:bf env x=.po i m):Gv P env O (Oper.mk (some d) (.assign x) ty pos af none) (.po i m):=yd hx
theorem rv {a:Value} (hx:bf env x=.raw a):Gv P env O (Oper.mk (some d) (.assign x) ty pos af none) (.raw a):=yd hx
theorem DT {vs:List AV} {i:Nat} {k:IntKind} {a:Int} (hx:bf env x=.tup vs) (hv:vs[i]?=some (.int k a)):Gv P env O (Oper.mk (some d) (.extract x i) ty pos af none) (.int k a):=Gv.extract hx hv
theorem Im {vs:List AV} {i:Nat} {a:Bool} (hx:bf env x=.tup vs) (hv:vs[i]?=some (.bool a)):Gv P env O (Oper.mk (some d) (.extract x i) ty pos af none) (.bool a):=Gv.extract hx hv
theorem eK {fs:Array Field} {f:Field} {i sz:Nat} {cs cs':List AV} (ht:P.underlying t=some (.struct fs)) (hf:fs[i]?=some f) (hs:∀w,(sizeOf f.type).run P w=.ok sz w)
  (hx:bf env x=.pf cs) (hr:cs.drop f.offset=cs') (hz:sz≠0:=by decide):Gv P env O (Oper.mk (some d) (.fieldAddr t x i) ty pos af none) (.pf cs'):=Gv.fieldF ht hf hs hz hx hr
theorem Io {u:TypeId} {a b:Int} (hx:bf env x=.int .i64 a) (hy:bf env y=.int .i64 b) (hr:ko (a+b):=by unfold ko;omega):Gv P env O (Oper.mk (some d) (.binOp .add t x y u) ty pos af none) (.int .i64 (a+b)):=Gv.add hx hy hr
theorem ah {n id:Nat} {y:Code} {R:Exit→aO→OL→Prop} (h:ao P E l.toArray (oA (cX P E n y R) R .normal) l env O) (hd:eX n l=true:=by exact rfl):cX P E n (.seq (.region id l.toArray false) y) R env O:=zb (y9 hd h)
theorem bi {n id:Nat} {R:Exit→aO→OL→Prop} (h:ao P E l.toArray (R .normal) l env O) (hd:eX n l=true:=by exact rfl):cX P E n (.region id l.toArray false) R env O:=y9 hd h
theorem cH {α:Type} {enc:α→List AV} {xs:List α} {k:Nat} {e:TypeId} (j:Nat) {i:Int} {v:α} (ht:P.underlying t=some (.slice e)) (hs:∀w,(sizeOf e).run P w=.ok k w) (hx:bf env x=.fro k (xs.map enc)) (hy:bf env y=.int .i64 i) (hi:i=(j:Int)) (hj:xs[j]?=some v) :
  Gv P env O (Oper.mk (some d) (.indexAddr t x y) ty pos af none) (.pf (enc v)):=q9 ht hs hx hy hi hj
theorem aN {O:OL}:Left O O:=⟨_,.refl _,rfl⟩
theorem dv.t1 {x0:Nat × bF} {O:OL} {i:Nat} {o:bF}:dv (x0::(i,o)::O) i o (x0::O):=.tail .head
theorem gB.t1 {x0:Nat × bF} {O:OL} {i:Nat} {o o':bF}:gB (x0::(i,o)::O) i o o' (x0::(i,o')::O):=.tail .head
theorem nM.t1 {x0:Nat × bF} {O:OL} {i j:Nat} {o o':bF}:nM (x0::(i,o)::O) i o j o' (x0::(j,o')::O):=.tail .head
theorem dv.t2 {x0 x1:Nat × bF} {O:OL} {i:Nat} {o:bF}:dv (x0::x1::(i,o)::O) i o (x0::x1::O):=.tail .t1
theorem gB.t2 {x0 x1:Nat × bF} {O:OL} {i:Nat} {o o':bF}:gB (x0::x1::(i,o)::O) i o o' (x0::x1::(i,o')::O):=.tail .t1
theorem nM.t2 {x0 x1:Nat × bF} {O:OL} {i j:Nat} {o o':bF}:nM (x0::x1::(i,o)::O) i o j o' (x0::x1::(j,o')::O):=.tail .t1
theorem dv.t3 {x0 x1 x2:Nat × bF} {O:OL} {i:Nat} {o:bF}:dv (x0::x1::x2::(i,o)::O) i o (x0::x1::x2::O):=.tail .t2
theorem gB.t3 {x0 x1 x2:Nat × bF} {O:OL} {i:Nat} {o o':bF}:gB (x0::x1::x2::(i,o)::O) i o o' (x0::x1::x2::(i,o')::O):=.tail .t2
theorem nM.t3 {x0 x1 x2:Nat × bF} {O:OL} {i j:Nat} {o o':bF}:nM (x0::x1::x2::(i,o)::O) i o j o' (x0::x1::x2::(j,o')::O):=.tail .t2
theorem dv.t4 {x0 x1 x2 x3:Nat × bF} {O:OL} {i:Nat} {o:bF}:dv (x0::x1::x2::x3::(i,o)::O) i o (x0::x1::x2::x3::O):=.tail .t3
theorem gB.t4 {x0 x1 x2 x3:Nat × bF} {O:OL} {i:Nat} {o o':bF}:gB (x0::x1::x2::x3::(i,o)::O) i o o' (x0::x1::x2::x3::(i,o')::O):=.tail .t3
theorem nM.t4 {x0 x1 x2 x3:Nat × bF} {O:OL} {i j:Nat} {o o':bF}:nM (x0::x1::x2::x3::(i,o)::O) i o j o' (x0::x1::x2::x3::(j,o')::O):=.tail .t3
theorem dv.t5 {x0 x1 x2 x3 x4:Nat × bF} {O:OL} {i:Nat} {o:bF}:dv (x0::x1::x2::x3::x4::(i,o)::O) i o (x0::x1::x2::x3::x4::O):=.tail .t4
theorem gB.t5 {x0 x1 x2 x3 x4:Nat × bF} {O:OL} {i:Nat} {o o':bF}:gB (x0::x1::x2::x3::x4::(i,o)::O) i o o' (x0::x1::x2::x3::x4::(i,o')::O):=.tail .t4
theorem nM.t5 {x0 x1 x2 x3 x4:Nat × bF} {O:OL} {i j:Nat} {o o':bF}:nM (x0::x1::x2::x3::x4::(i,o)::O) i o j o' (x0::x1::x2::x3::x4::(j,o')::O):=.tail .t4
theorem dv.t6 {x0 x1 x2 x3 x4 x5:Nat × bF} {O:OL} {i:Nat} {o:bF}:dv (x0::x1::x2::x3::x4::x5::(i,o)::O) i o (x0::x1::x2::x3::x4::x5::O):=.tail .t5
theorem gB.t6 {x0 x1 x2 x3 x4 x5:Nat × bF} {O:OL} {i:Nat} {o o':bF}:gB (x0::x1::x2::x3::x4::x5::(i,o)::O) i o o' (x0::x1::x2::x3::x4::x5::(i,o')::O):=.tail .t5
theorem nM.t6 {x0 x1 x2 x3 x4 x5:Nat × bF} {O:OL} {i j:Nat} {o o':bF}:nM (x0::x1::x2::x3::x4::x5::(i,o)::O) i o j o' (x0::x1::x2::x3::x4::x5::(j,o')::O):=.tail .t5
theorem dv.t7 {x0 x1 x2 x3 x4 x5 x6:Nat × bF} {O:OL} {i:Nat} {o:bF}:dv (x0::x1::x2::x3::x4::x5::x6::(i,o)::O) i o (x0::x1::x2::x3::x4::x5::x6::O):=.tail .t6
theorem gB.t7 {x0 x1 x2 x3 x4 x5 x6:Nat × bF} {O:OL} {i:Nat} {o o':bF}:gB (x0::x1::x2::x3::x4::x5::x6::(i,o)::O) i o o' (x0::x1::x2::x3::x4::x5::x6::(i,o')::O):=.tail .t6
theorem nM.t7 {x0 x1 x2 x3 x4 x5 x6:Nat × bF} {O:OL} {i j:Nat} {o o':bF}:nM (x0::x1::x2::x3::x4::x5::x6::(i,o)::O) i o j o' (x0::x1::x2::x3::x4::x5::x6::(j,o')::O):=.tail .t6
theorem dv.t8 {x0 x1 x2 x3 x4 x5 x6 x7:Nat × bF} {O:OL} {i:Nat} {o:bF}:dv (x0::x1::x2::x3::x4::x5::x6::x7::(i,o)::O) i o (x0::x1::x2::x3::x4::x5::x6::x7::O):=.tail .t7
theorem gB.t8 {x0 x1 x2 x3 x4 x5 x6 x7:Nat × bF} {O:OL} {i:Nat} {o o':bF}:gB (x0::x1::x2::x3::x4::x5::x6::x7::(i,o)::O) i o o' (x0::x1::x2::x3::x4::x5::x6::x7::(i,o')::O):=.tail .t7
theorem nM.t8 {x0 x1 x2 x3 x4 x5 x6 x7:Nat × bF} {O:OL} {i j:Nat} {o o':bF}:nM (x0::x1::x2::x3::x4::x5::x6::x7::(i,o)::O) i o j o' (x0::x1::x2::x3::x4::x5::x6::x7::(j,o')::O):=.tail .t7
theorem aW {α0:Sort _} {a0:α0}:a0=a0∧True:=⟨rfl,trivial⟩
theorem eE {α0:Sort _} {a0:α0} {α1:Sort _} {a1:α1}:a0=a0∧a1=a1∧True:=⟨rfl,rfl,trivial⟩
theorem hZ {α0:Sort _} {a0:α0} {α1:Sort _} {a1:α1} {α2:Sort _} {a2:α2}:a0=a0∧a1=a1∧a2=a2∧True:=⟨rfl,rfl,rfl,trivial⟩
theorem gY {α0:Sort _} {a0:α0} {α1:Sort _} {a1:α1} {α2:Sort _} {a2:α2} {α3:Sort _} {a3:α3}:a0=a0∧a1=a1∧a2=a2∧a3=a3∧True:=⟨rfl,rfl,rfl,rfl,trivial⟩
theorem vv {α0:Sort _} {a0:α0} {α1:Sort _} {a1:α1} {α2:Sort _} {a2:α2} {α3:Sort _} {a3:α3} {α4:Sort _} {a4:α4}:a0=a0∧a1=a1∧a2=a2∧a3=a3∧a4=a4∧True:=⟨rfl,rfl,rfl,rfl,rfl,trivial⟩
theorem FX {α0:Sort _} {a0:α0} {α1:Sort _} {a1:α1} {α2:Sort _} {a2:α2} {α3:Sort _} {a3:α3} {α4:Sort _} {a4:α4} {α5:Sort _} {a5:α5}:a0=a0∧a1=a1∧a2=a2∧a3=a3∧a4=a4∧a5=a5∧True:=⟨rfl,rfl,rfl,rfl,rfl,rfl,trivial⟩
theorem iM {α0:Sort _} {a0:α0} {α1:Sort _} {a1:α1} {α2:Sort _} {a2:α2} {α3:Sort _} {a3:α3} {α4:Sort _} {a4:α4} {α5:Sort _} {a5:α5} {α6:Sort _} {a6:α6}:a0=a0∧a1=a1∧a2=a2∧a3=a3∧a4=a4∧a5=a5∧a6=a6∧True:=⟨rfl,rfl,rfl,rfl,rfl,rfl,rfl,trivial⟩
theorem vw {α0:Sort _} {a0:α0} {α1:Sort _} {a1:α1} {α2:Sort _} {a2:α2} {α3:Sort _} {a3:α3} {α4:Sort _} {a4:α4} {α5:Sort _} {a5:α5} {α6:Sort _} {a6:α6} {α7:Sort _} {a7:α7}:a0=a0∧a1=a1∧a2=a2∧a3=a3∧a4=a4∧a5=a5∧a6=a6∧a7=a7∧True:=⟨rfl,rfl,rfl,rfl,rfl,rfl,rfl,rfl,trivial⟩
theorem tF {α0:Sort _} {a0:α0} {α1:Sort _} {a1:α1} {α2:Sort _} {a2:α2} {α3:Sort _} {a3:α3} {α4:Sort _} {a4:α4} {α5:Sort _} {a5:α5} {α6:Sort _} {a6:α6} {α7:Sort _} {a7:α7} {α8:Sort _} {a8:α8}:a0=a0∧a1=a1∧a2=a2∧a3=a3∧a4=a4∧a5=a5∧a6=a6∧a7=a7∧a8=a8∧True:=⟨rfl,rfl,rfl,rfl,rfl,rfl,rfl,rfl,rfl,trivial⟩
theorem qJ {α0:Sort _} {a0:α0} {α1:Sort _} {a1:α1} {α2:Sort _} {a2:α2} {α3:Sort _} {a3:α3} {α4:Sort _} {a4:α4} {α5:Sort _} {a5:α5} {α6:Sort _} {a6:α6} {α7:Sort _} {a7:α7} {α8:Sort _} {a8:α8} {α9:Sort _} {a9:α9} {α10:Sort _} {a10:α10}:a0=a0∧a1=a1∧a2=a2∧a3=a3∧a4=a4∧a5=a5∧a6=a6∧a7=a7∧a8=a8∧a9=a9∧a10=a10∧True:=⟨rfl,rfl,rfl,rfl,rfl,rfl,rfl,rfl,rfl,rfl,rfl,trivial⟩
theorem kQ {α0:Sort _} {a0:α0} {α1:Sort _} {a1:α1} {α2:Sort _} {a2:α2} {α3:Sort _} {a3:α3} {α4:Sort _} {a4:α4} {α5:Sort _} {a5:α5} {α6:Sort _} {a6:α6} {α7:Sort _} {a7:α7} {α8:Sort _} {a8:α8} {α9:Sort _} {a9:α9} {α10:Sort _} {a10:α10} {α11:Sort _} {a11:α11}:a0=a0∧a1=a1∧a2=a2∧a3=a3∧a4=a4∧a5=a5∧a6=a6∧a7=a7∧a8=a8∧a9=a9∧a10=a10∧a11=a11∧True:=⟨rfl,rfl,rfl,rfl,rfl,rfl,rfl,rfl,rfl,rfl,rfl,rfl,trivial⟩
variable {ops:Array Oper} {K:aO→OL→Prop} {rest:List Oper} {u e:TypeId}
theorem aa {k:IntKind} {a:Int} (hx:bf env x=.int k a) (kk:ao P E ops K rest (bD env d (.int k a)) O):ao P E ops K (Oper.mk (some d) (.move x) ty pos af none::rest) env O:=za (d9 hx) kk
theorem ad {a:Bool} (hx:bf env x=.bool a) (kk:ao P E ops K rest (bD env d (.bool a)) O):ao P E ops K (Oper.mk (some d) (.assign x) ty pos af none::rest) env O:=za (xg hx) kk
theorem ai {a:Bool} (hx:bf env x=.bool a) (kk:ao P E ops K rest (bD env d (.bool a)) O):ao P E ops K (Oper.mk (some d) (.move x) ty pos af none::rest) env O:=za (DQ hx) kk
theorem al {b v:Bool} (hc:bf env x=.bool b) (hb:b=false) (hy:bf env z=.bool v) (kk:ao P E ops K rest (bD env d (.bool v)) O):ao P E ops K (Oper.mk (some d) (.pick x y z) ty pos af none::rest) env O:=za (Ds hc hb hy) kk
theorem ap {b v:Bool} (hc:bf env x=.bool b) (hb:b=true) (hy:bf env y=.bool v) (kk:ao P E ops K rest (bD env d (.bool v)) O):ao P E ops K (Oper.mk (some d) (.pick x y z) ty pos af none::rest) env O:=za (DR hc hb hy) kk
theorem aq {fs:Array Field} {f:Field} {i sz:Nat} {cs cs':List AV} (ht:P.underlying t=some (.struct fs)) (hf:fs[i]?=some f) (hs:∀w,(sizeOf f.type).run P w=.ok sz w) (hx:bf env x=.pf cs) (hr:cs.drop f.offset=cs') (kk:ao P E ops K rest (bD env d (.pf cs')) O) (hz:sz≠0:=by decide):ao P E ops K (Oper.mk (some d) (.fieldAddr t x i) ty pos af none::rest) env O:=za (eK ht hf hs hx hr hz) kk
theorem aw {k:IntKind} {a:Int} (hx:bf env x=.int k a) (kk:ao P E ops K rest (bD env d (.int k a)) O):ao P E ops K (Oper.mk (some d) (.assign x) ty pos af none::rest) env O:=za (Il hx) kk
theorem ae {α:Type} {enc:α→List AV} {xs:List α} {k:Nat} (ht:P.underlying t=some (.slice e)) (hx:bf env x=.fro k (xs.map enc)) (kk:ao P E ops K rest (bD env d (.int .i64 xs.length)) O):ao P E ops K (Oper.mk (some d) (.call { callee:=.builtin .len,args:=#[x],argTypes:=#[t] }) ty pos af none::rest) env O:=za (Gv.lenM ht hx) kk
theorem aC {u:TypeId} {a b:Int} (hx:bf env x=.int .i64 a) (hy:bf env y=.int .i64 b) (kk:ao P E ops K rest (bD env d (.int .i64 (a+b))) O) (hr:ko (a+b):=by unfold ko;omega):ao P E ops K (Oper.mk (some d) (.binOp .add t x y u) ty pos af none::rest) env O:=za (Io hx hy hr) kk
theorem ac {n:Nat} {cs:List AV} (ha:∀w,(isAgg t).run P w=.ok true w) (hs:∀w,(sizeOf t).run P w=.ok n w) (hx:bf env x=.pf cs) (hn:cs.length=n) (kk:ao P E ops K rest (bD env d (.agg cs)) O):ao P E ops K (Oper.mk (some d) (.load t x) ty pos af none::rest) env O:=za (yv ha hs hx hn) kk
theorem aE {k:IntKind} {a:Int} {cs:List AV} (ha:∀w,(isAgg t).run P w=.ok false w) (hx:bf env x=.pf (.int k a::cs)) (kk:ao P E ops K rest (bD env d (.int k a)) O):ao P E ops K (Oper.mk (some d) (.load t x) ty pos af none::rest) env O:=za (gH ha hx) kk
theorem ay {k:IntKind} {a b:Int} (hx:bf env x=.int k a) (hy:bf env y=.int k b) (kk:ao P E ops K rest (bD env d (.bool (decide (a<b)))) O):ao P E ops K (Oper.mk (some d) (.binOp .lss t x y u) ty pos af none::rest) env O:=za (Gv.lss hx hy) kk
theorem aM {k:Nat} {a:List (List AV)} {cs:List AV} (ha:∀w,(isAgg t).run P w=.ok false w) (hx:bf env x=.pf (.fro k a::cs)) (kk:ao P E ops K rest (bD env d (.fro k a)) O):ao P E ops K (Oper.mk (some d) (.load t x) ty pos af none::rest) env O:=za (lL ha hx) kk
theorem ax {k:IntKind} {a b:Int} (hx:bf env x=.int k a) (hy:bf env y=.int k b) (kk:ao P E ops K rest (bD env d (.bool (decide (a=b)))) O):ao P E ops K (Oper.mk (some d) (.binOp .eql t x y u) ty pos af none::rest) env O:=za (Gv.eqlI hx hy) kk
theorem aD {b:Bool} (hx:bf env x=.bool b) (kk:ao P E ops K rest (bD env d (.bool (!b))) O):ao P E ops K (Oper.mk (some d) (.unOp .not t x) ty pos af none::rest) env O:=za (Gv.not hx) kk
theorem bn {i m:Nat} (hx:bf env x=.po i m) (kk:ao P E ops K rest (bD env d (.po i m)) O):ao P E ops K (Oper.mk (some d) (.move x) ty pos af none::rest) env O:=za (eU hx) kk
theorem bC {k:Nat} {a:List (List AV)} (hx:bf env x=.fro k a) (kk:ao P E ops K rest (bD env d (.fro k a)) O):ao P E ops K (Oper.mk (some d) (.move x) ty pos af none::rest) env O:=za (vu hx) kk
theorem az {i off:Nat} (hx:bf env x=.po i off) (kk:ao P E ops K rest (bD env d (.po i off)) O):ao P E ops K (Oper.mk (some d) (.nilCheck x) ty pos af none::rest) env O:=za (zw hx) kk
end
set_option linter.defProp false
def jd:=@Tryz.underlying23
def je:=@Tryz.sizeOf3
def jf:=@Tryz.underlying52
def jg:=@Tryz.underlying58
def jh:=@Tryz.underlying60
def ji:=@Tryz.underlying26
def jj:=@Tryz.isAgg3
def jk:=@Tryz.sizeOf26
def jl:=@Tryz.underlying24
def jm:=@Tryz.sizeOf23
def jn:=@Tryz.underlying45
def jp:=@Tryz.underlying69
def jq:=@Tryz.underlying73
def jr:=@Tryz.underlying44
def js:=@Tryz.isAgg26
def ju:=@Tryz.underlying56
def jv:=@Tryz.sizeOf60
def jw:=@Tryz.isAgg23
def jx:=@Tryz.underlying53
def jy:=@Tryz.underlying50
def jz:=@Tryz.underlying54
def Z0:=@Tryz.sizeOf24
def Z1:=@Tryz.sizeOf73
def Z2:=@Tryz.sizeOf56
def Z3:=@Tryz.sizeOf4
def Z4:=@Tryz.sizeOf58
def Z5:=@Tryz.sizeOf69
def Z6:=@Tryz.isAgg24
def Z7:=@Tryz.sizeOf50
def Z8:=@Tryz.sizeOf2
def Z9:=@Tryz.underlying36
def Za:=@Tryz.sizeOf44
def Zb:=@Tryz.underlying22
def Zc:=@Tryz.zeroValue60
def Zd:=@Tryz.underlying130
def Ze:=@Tryz.zeroValue73
def Zf:=@Tryz.sizeOf53
def Zg:=@Tryz.underlying9
def Zh:=@Tryz.sizeOf9
def Zi:=@Tryz.sizeOf54
def Zj:=@Tryz.underlying48
def Zk:=@Tryz.isAgg44
def Zl:=@Tryz.underlying2
def Zm:=@Tryz.underlying66
def Zn:=@Tryz.sizeOf55
def Zo:=@Tryz.type3
def Zp:=@Tryz.underlying97
def Zq:=@Tryz.zeroValue26
def Zr:=@Tryz.isAgg9
def Zs:=@Tryz.isAgg55
def Zt:=@Tryz.sizeOf36
def Zu:=@Tryz.isAgg60
def Zv:=@Tryz.isAgg53
def Zw:=@Tryz.underlying38
def Zx:=@Tryz.sizeOf48
def Zy:=@Tryz.isAgg54
def Zz:=@Tryz.sizeOf67
def Y0:=@Tryz.isAgg73
def Y1:=@Tryz.underlying213
def Y2:=@Tryz.type4
def Y3:=@Tryz.zeroValue69
def Y4:=@Tryz.underlying163
def Y5:=@Tryz.isAgg67
def Y6:=@Tryz.sizeOf22
def Y7:=@Tryz.sizeOf66
def Y8:=@Tryz.sizeOf97
def Y9:=@Tryz.isAgg2
def Ya:=@Tryz.sizeOf45
def Yb:=@Tryz.underlying162
def Yc:=@Tryz.isAgg4
def Yd:=@Tryz.isAgg69
def Ye:=@Tryz.isAgg36
def Yf:=@Tryz.type2
def Yg:=@Tryz.isAgg22
def Yh:=@Tryz.underlying35
def Yi:=@Tryz.isAgg45
def Yj:=@Tryz.zeroValue3
def Yk:=@Tryz.underlying3
def Yl:=@Tryz.underlying4
def Ym:=@Tryz.underlying98
def Yn:=@Tryz.underlying80
def Yo:=@Tryz.isAgg58
set_option linter.defProp false
def zi:=@ao.callP
def zn:=@aX.perm
def zq:=@cX.regionDraw
def zt:=@ao.storeW
def zu:=@se.perm
def zx:=@aX.ops
def yc:=@aX.wp
def yf:=@ao.buildSliceFF
def yi:=@bJ.writes
def yk:=@mW.one
def yl:=@mW.done
def ym:=@ao.appendS
def yr:=@bJ.takeK
def yu:=@ao.callA
def yw:=@Gv.idxAF
def q7:=@aX.fin
def qb:=@Gv.idxAO
def qq:=@List.getElem?_eq_getElem
def qr:=@List.take_succ_eq_append_getElem
def qs:=@List.append_assoc
def qt:=@Nat.zero_le
def qu:=@List.getElem_mem
def qv:=@List.take_length
def qw:=@List.length_append
def qx:=@List.length_map
def qy:=@List.getElem?_map
def qz:=@Bool.eq_iff_iff
def w0:=@List.mem_of_getElem?
def w3:=@List.length_take
def w4:=@decide_eq_true
def w5:=@decide_eq_false
def w6:=@Bool.and_eq_true
def w7:=@List.all_eq_true
def w8:=@Int.toNat_of_nonneg
def w9:=@of_decide_eq_true
def wa:=@decide_eq_true_eq
theorem Z {α:Sort _} {a:α}:a=a:=rfl
end
end Go.Proofs.YtjpnhkmfhlnpcaaGreatDoor
