/- Reached blocks as truths; joined; where each variable is made, row by row; single as truths. No conditions. -/
import Derived.Test.YtbanfokidalbaaaGreatDoorJb
import Derived.Test.YtbanfokidalbaaaGreatDoorChecked
import Derived.Test.YtbanfokidalbaaaGreatDoorJa
set_option linter.unusedVariables false
set_option linter.unusedSimpArgs false
set_option linter.unusedSectionVars false
namespace Go.Proofs.YtbanfokidalbaaaGreatDoor
section
open Go.Proofs.Tryz
theorem RepR.flat {I:G} {k:Nat} {a:Option Addr}:∀{rows:List (List AV)} {j:Nat},RepR I k a j rows→rows≠[]→∃b off vs,a=some ⟨b,off,none⟩∧RepL I rows.flatten vs∧vs.length=rows.length*k∧∀(i:Nat) u,vs[i]?=some u→Bg I.k b (off+j*k+i) u
 |[],_,_,h=>absurd rfl h
 |[r],j,⟨⟨b,off,vs,e,h1,h2,h3⟩,_⟩,_=>⟨b,off,vs,e,by simpa using h2,by simpa using h1,h3⟩
 |r::r'::rows,j,⟨⟨b,off,vs,e,h1,h2,h3⟩,h4⟩,_=>by
  obtain ⟨b',off',us,e',h5,h6,h7⟩:=RepR.flat h4 (by simp)
  subst e
  cases e'
  refine ⟨b,off,vs++us,rfl,by simpa using h2.append h5,by simp only[List.length_append,h1,h6,List.length_cons,Nat.add_mul];omega,fun i u hu=>?_⟩
  by_cases hi:i<vs.length
  ·rw[List.getElem?_append_left hi] at hu;exact h3 i u hu
  ·rw[List.getElem?_append_right (by omega)] at hu
   have:=h7 _ u hu
   have e:off+(j+1)*k+(i - vs.length)=off+j*k+i:=by rw[Nat.add_mul,h1];omega
   rwa [e] at this
theorem HU {I:G} {k:Nat} {rows:List (List AV)} {v:Value} (h:bI I (.fro k rows) v) (hc:rows.flatten.all AV.cell=true):∃a n c vs,v=.slice a n c∧n=rows.length∧RepL I rows.flatten vs∧(∀u∈vs,u.oneCell'=true)∧∀O,M0 I.k O k a n vs:=by
 obtain ⟨a,n,c,e,hn,hnc,hnil,hr⟩:=h
 cases rows with
 |nil=>
  refine ⟨a,n,c,[],e,hn,rfl,by simp,fun O=>⟨by simp[hn],by simp,?_⟩⟩
  cases a with
  |none=>exact .inl ⟨rfl,hn⟩
  |some p=>exact .inr ⟨p,rfl,by simp⟩
 |cons r rows=>
  obtain ⟨b,off,vs,e',h1,h2,h3⟩:=hr.flat (by simp)
  refine ⟨a,n,c,vs,e,hn,h1,h1.cell1 hc,fun O=>⟨by rw[h2,hn],h1.cell1 hc,.inr ⟨_,e',fun j u hj=>⟨b,off,rfl,?_⟩⟩⟩⟩
  have:=h3 j u hj
  rw[Nat.zero_mul,Nat.add_zero] at this
  exact .inl this
section
variable {E:World} {P:Program} {ops:Array Oper} {K:aS→OL→Prop} {env:aS} {O O':OL} {rest:List Oper}
variable {d ty:Nat} {pos:String} {af:Array Edge} {x y z:Operand} {t u e:TypeId}
theorem g9.split {I:G} {O1 O2:OL} {F:List (Nat × Obj)} {E w:World} (hO:O.Perm (O1++O2)) (h:g9 I O F E w):∃L2,cM I O2 L2∧g9 I O1 (L2++F) E w:=by
 obtain ⟨ht,L,hL,hS⟩:=h
 obtain ⟨L',h1,h2⟩:=hL.perm hO
 obtain ⟨A,B,rfl,h3,h4⟩:=cM.append.1 h1
 exact ⟨B,h4,ht,A,h3,hS.perm (by rw[←List.append_assoc];exact (h2.append_right F).symm)⟩
theorem g9.join {I J:G} {O1 O2:OL} {L2 F:List (Nat × Obj)} {E w:World} (hle:I.le J) (h2:cM I O2 L2) (h:g9 J O1 (L2++F) E w):g9 J (O1++O2) F E w:=by
 obtain ⟨ht,L,hL,hS⟩:=h
 exact ⟨ht,L++L2,cM.append.2 ⟨L,L2,rfl,hL,h2.mono hle⟩,by rw[List.append_assoc];exact hS⟩
theorem g9.drops {I:G} {O1:OL} {L2 F:List (Nat × Obj)} {E w:World} (h:g9 I O1 (L2++F) E w):SL I.k (L2++F) E w:=by
 obtain ⟨ht,L,hL,hS⟩:=h
 exact hS.dropAll
theorem az.callA {f:FuncId} {args:List Operand} {tys:Array TypeId} {as0:List AV} {O1 O2:OL} {R:AV→OL→Prop} (ha:args.map (bb env)=as0) (hO:O.Perm (O1++O2)) (hc:ba P E f as0 O1 R)
  (k:∀r O1',R r O1'→az P E ops K rest (bC env d r) (O1'++O2)):az P E ops K (Oper.mk (some d) (.call { callee:=.value (.func f),args:=args.toArray,argTypes:=tys }) ty pos af none::rest) env O:=fun I F ρ w h1 h2=>by
 obtain ⟨L2,hL2,h3⟩:=h2.split hO
 refine bP.callF (hc I (L2++F) w (args.map (ev ρ)) (ha▸h1.evs args) h3) ?_
 rintro v w' ⟨J,r,O1',hle,hr,hS,hR⟩
 exact q3 (fun _ _=>qp hle) _ _ _ (k r O1' hR J F _ _ ((h1.mono hle).upd d hr) (hS.join hle hL2))
theorem az.callP {f:FuncId} {args:List Operand} {tys:Array TypeId} {as0:List AV} {r:AV} (hc:aJ P E f as0 r) (ha:args.map (bb env)=as0)
  (k:az P E ops K rest (bC env d r) O):az P E ops K (Oper.mk (some d) (.call { callee:=.value (.func f),args:=args.toArray,argTypes:=tys }) ty pos af none::rest) env O:=fun I F ρ w h1 h2=>by
 obtain ⟨L2,hL2,h3⟩:=h2.split (O1:=[]) (O2:=O) (.refl _)
 refine bP.callF (hc I (L2++F) w (args.map (ev ρ)) (ha▸h1.evs args) h3) ?_
 rintro v w' ⟨J,r',O1',hle,hr,hS,rfl⟩
 exact q3 (fun _ _=>qp hle) _ _ _ (k J F _ _ ((h1.mono hle).upd d hr) ⟨hS.1,L2,hL2.mono hle,hS.drops⟩)
theorem az.callVP {f:FuncId} {args:List Operand} {tys:Array TypeId} {a c as0:List AV} {r:AV} (hx:bb env x=.fn f a c) (hc:aJ P E f as0 r) (ha:a++args.map (bb env)++c=as0)
  (k:az P E ops K rest (bC env d r) O):az P E ops K (Oper.mk (some d) (.call { callee:=.value x,args:=args.toArray,argTypes:=tys }) ty pos af none::rest) env O:=fun I F ρ w h1 h2=>by
 obtain ⟨L2,hL2,h3⟩:=h2.split (O1:=[]) (O2:=O) (.refl _)
 have h4:=h1.ev x
 rw[hx] at h4
 obtain ⟨vs,us,e,h5,h6⟩:=h4
 refine bP.callV e (hc I (L2++F) w (vs++args.map (ev ρ)++us) (ha▸(h5.append (h1.evs args)).append h6) h3) ?_
 rintro v w' ⟨J,r',O1',hle,hr,hS,rfl⟩
 exact q3 (fun _ _=>qp hle) _ _ _ (k J F _ _ ((h1.mono hle).upd d hr) ⟨hS.1,L2,hL2.mono hle,hS.drops⟩)
theorem Gv.func {f:FuncId} {l m:List Operand} {a c:List AV} (hl:l.map (bb env)=a) (hm:m.map (bb env)=c):Gv P env O (Oper.mk (some d) (.makeFunc (.func f) l.toArray m.toArray) ty pos af none) (.fn f a c):=qm fun I ρ h=>
 ⟨.func (.func f) (l.map (ev ρ)).toArray (m.map (ev ρ)).toArray,⟨_,_,rfl,hl▸h.evs l,hm▸h.evs m⟩,fun w=>by simp[execOp,Instr.makeFunc]⟩
def aK (E:World) (env:aS) (O:OL) (env':aS) (O':OL):Prop:=∀I F ρ w,eH I env ρ→g9 I O F E w→∃J,I.le J∧eH J env' ρ∧g9 J O' F E w
end
section
variable {E:World} {P:Program} {n:Nat} {os:Array Oper} {env env':aS} {O O':OL}
theorem aK.wp {c:Code} {Q:Exit→aS→OL→Prop} (g:aK E env O env' O') (h:dQ P E n c Q env' O'):dQ P E n c Q env O:=fun I F ρ w h1 h2=>by
 obtain ⟨J,hle,h3,h4⟩:=g I F ρ w h1 h2
 exact (h J F ρ w h3 h4).mono fun _ _ _=>mW.up hle
theorem aK.ops {K:aS→OL→Prop} {l:List Oper} (g:aK E env O env' O') (h:az P E os K l env' O'):az P E os K l env O:=fun I F ρ w h1 h2=>by
 obtain ⟨J,hle,h3,h4⟩:=g I F ρ w h1 h2
 exact q3 (fun _ _=>qp hle) _ _ _ (h J F ρ w h3 h4)
theorem aK.fin {rs:Array ResultVar} {R:AV→OL→Prop} (g:aK E env O env' O') (h:fU P E rs R .ret env' O'):fU P E rs R .ret env O:=fun I F ρ w h1 h2=>by
 obtain ⟨J,hle,h3,h4⟩:=g I F ρ w h1 h2
 obtain ⟨v,h5,K,x,O'',h6,h7⟩:=h J F ρ w h3 h4
 exact ⟨v,h5,K,x,O'',hle.trans h6,h7⟩
theorem aK.perm (h:O.Perm O'):aK E env O env O':=fun I F ρ w h1 h2=>by
 obtain ⟨L2,hL2,h3⟩:=h2.split (O1:=O') (O2:=[]) (by simpa using h)
 have:L2=[]:=hL2
 subst this
 exact ⟨I,.refl _,h1,h3⟩
theorem aK.drop {i:Nat} {o:bQ} (h:dw O i o O'):aK E env O env O':=fun I F ρ w h1 h2=>by
 obtain ⟨ht,L,hL,hS⟩:=h2
 obtain ⟨A,B,hp,_,hB⟩:=h.rep hL
 exact ⟨I,.refl _,h1,ht,B,hB,(hS.perm (by rw[←List.append_assoc];exact (hp.append_right F).symm):SL I.k (A++(B++F)) E w).dropAll⟩
theorem aK.slot {t:Nat} {x y:AV} (hv:env t=x) (hi:∀I v,bI I x v→bI I y v):aK E env O (bC env t y) O:=fun I F ρ w h1 h2=>by
 refine ⟨I,.refl _,fun s=>?_,h2⟩
 unfold bC
 cases hb:Nat.beq s t with
 |false=>exact h1 s
 |true=>
  have:s=t:=Nat.eq_of_beq_eq_true hb
  subst this
  exact hi I _ (hv▸h1 s)
end
section
variable {E:World} {P:Program} {n:Nat} {ops:Array Oper} {env:aS} {O O':OL}
theorem dh {c:Code} {Q:Exit→aS→OL→Prop} {t k:Nat} {T:TypeId} (hv:env t=.raw (.slice none 0 0)) (h:∀i,dQ P E n c Q (bC env t (.own i 0)) ((i,.grow k T [])::O)):dQ P E n c Q env O:=fun I F ρ w h1 h2=>by
 obtain ⟨i,hi⟩:=h2.name
 obtain ⟨J,e1,hle,e2,htop⟩:=hi (none,0)
 obtain ⟨_,L,hL,hS⟩:=h2
 have h3:ρ t=.slice none 0 0:=by have:=h1 t;rw[hv] at this;exact this
 refine (h i J F ρ w (fun s=>?_) ⟨htop,_,⟨[],L,rfl,⟨none,0,0,[],e2,rfl,by simp,fT.nil k T⟩,hL.mono hle⟩,by rw[e1];exact hS⟩).mono fun _ _ _=>mW.up hle
 unfold bC
 cases hb:Nat.beq s t with
 |false=>exact bI.mono hle _ _ (h1 s)
 |true=>
  have:s=t:=Nat.eq_of_beq_eq_true hb
  subst this
  exact ⟨none,0,e2,h3⟩
theorem know {I:G} {F:List (Nat × Obj)} {E w:World} {i k m:Nat} {T:TypeId} {rows:List (List AV)} (hO:dw O i (.grow k T rows.flatten) O') (hk:∀r∈rows,r.length=k) (hk0:0<k) (hm:rows.length=m) (h:g9 I O F E w) :
  ∃J,I.le J∧g9 J O' F E w∧∀v,bI I (.own i m) v→bI J (.fro k rows) v:=by
 obtain ⟨ht,L,hL,hS⟩:=h
 obtain ⟨A,B,hp,⟨b,c,n,vs,e1,hvs,hvc,hown⟩,hB⟩:=hO.rep hL
 simp only at e1
 have hS2:SL I.k (A++(B++F)) E w:=hS.perm (by rw[←List.append_assoc];exact (hp.append_right F).symm)
 have hflat:rows.flatten.length=rows.length*k:=by
  clear hO hvs hm
  induction rows with
  |nil=>simp
  |cons r rows ih=>simp only[List.flatten_cons,List.length_append,List.length_cons,ih (fun r h=>hk r (by simp[h])),hk r (by simp),Nat.add_mul];omega
 have hnm:n=m:=by
  have h5:=hown.1
  have h6:=hvs.length
  have:n*k=m*k:=by rw[←hm];omega
  exact Nat.eq_of_mul_eq_mul_right hk0 this
 subst hnm
 obtain ⟨h5,h6,h7⟩:=hown
 rcases h7 with ⟨ea,rfl,rfl⟩|⟨b',junk,ea,rfl,hj⟩
 ·refine ⟨I,.refl _,⟨ht,B,hB,by simpa using hS2⟩,?_⟩
  rintro v ⟨b2,c2,e2,rfl⟩
  rw[e1] at e2
  simp only[Option.some.injEq,Prod.mk.injEq] at e2
  obtain ⟨rfl,rfl⟩:=e2
  have h0:rows=[]:=List.eq_nil_of_length_eq_zero (by omega)
  subst h0
  exact ⟨adr b,n,0,rfl,hm.symm,h6,fun _=>rfl,trivial⟩
 ·cases b with
  |none=>simp[adr] at ea
  |some b=>
   simp[adr] at ea
   subst ea
   obtain ⟨hl,hS3⟩:=SL.freeze (by simpa using hS2:SL I.k ((b,.cells (vs++junk).toArray T (0,0))::(B++F)) E w)
   let J:G:=⟨I.k.put b (.cells (vs++junk).toArray T (0,0)),I.h⟩
   have hle:I.le J:=⟨hl,fun _ _ h=>h⟩
   have hb:J.k b=some (.cells (vs++junk).toArray T (0,0)):=aT.put_same _ _ _
   refine ⟨J,hle,⟨ht,B,hB.mono hle,hS3⟩,?_⟩
   rintro v ⟨b2,c2,e2,rfl⟩
   rw[e1] at e2
   simp only[Option.some.injEq,Prod.mk.injEq] at e2
   obtain ⟨rfl,rfl⟩:=e2
   refine ⟨adr (some b),n,c,rfl,hm.symm,h6,fun h=>by simp[adr] at h,RepR.of_flat hb rows vs 0 hk (RepL.mono hle _ _ hvs) fun i u hu=>?_⟩
   rw[Nat.zero_mul,Nat.zero_add,List.getElem?_toArray,List.getElem?_append_left (List.getElem?_eq_some_iff.1 hu).1]
   exact hu
theorem aK.know {t i k m:Nat} {T:TypeId} {rows:List (List AV)} (hv:env t=.own i m) (hO:dw O i (.grow k T rows.flatten) O') (hk:∀r∈rows,r.length=k) (hk0:0<k) (hm:rows.length=m):aK E env O (bC env t (.fro k rows)) O':=fun I F ρ w h1 h2=>by
 obtain ⟨J,hle,h3,h4⟩:=Go.Proofs.YtbanfokidalbaaaGreatDoor.know hO hk hk0 hm h2
 refine ⟨J,hle,fun s=>?_,h3⟩
 unfold bC
 cases hb:Nat.beq s t with
 |false=>exact bI.mono hle _ _ (h1 s)
 |true=>
  have:s=t:=Nat.eq_of_beq_eq_true hb
  subst this
  exact h4 _ (hv▸h1 s)
end
end
section
open Go.Proofs.Tryz
theorem cL.mono {P:Program} {ops:Array Oper} {S0 S0' S S':World→Prop} {W:Nat→Bool} {Q Q':cO→World→Prop} (hS0:∀w,S0 w→S0' w) (hS:∀w,S w→S' w) (hQ:∀ρ w,Q ρ w→Q' ρ w):∀(fuel:Nat) (listed:Array Bool) (ρ:cO) (w:World),
  cL P ops S0 S W Q fuel listed ρ w→cL P ops S0' S' W Q' fuel listed ρ w
 |0,_,_,_,h=>⟨h.1,hQ _ _ h.2⟩
 |fuel+1,_,_,_,h=>⟨fun h0=>hQ _ _ (h.1 h0),fun i hi o ho=>q3 (fun _ _ ⟨a,b⟩=>⟨⟨hS0 _ a.1,a.2.imp id (hS _)⟩,cL.mono hS0 hS hQ fuel _ _ _ b⟩) _ _ _ (h.2 i hi o ho)⟩
def e9 (J0:aT) (L:List (Nat × Obj)) (E:World) (w:World):Prop:=∃J L',J0.le J∧SL J L' E w∧∀y∈L,y∈L'
def bK (P:Program) (E:World) (l:List Oper) (W:Nat→Bool) (Q:aS→OL→Prop) (fuel:Nat) (listed:Array Bool) (env:aS) (Os Om:OL):Prop:=
 ∀I F ρ w Ls,eH I env ρ→cM I Os Ls→g9 I Om (Ls++F) E w→cL P l.toArray (e9 I.k [] E) (e9 I.k Ls E) W (fX I F E Q) fuel listed ρ w
def oA (P:Program) (E:World) (l:List Oper) (W:Nat→Bool) (Q:aS→OL→Prop) (fuel:Nat) (listed:Array Bool) (env:aS) (O:OL):Prop:=
 ∀I F ρ w,eH I env ρ→g9 I O F E w→∀S,cL P l.toArray (e9 I.k [] E) S W (fX I F E Q) fuel listed ρ w
theorem g9.here {I:G} {Om:OL} {Ls F:List (Nat × Obj)} {E w:World} (h:g9 I Om (Ls++F) E w):e9 I.k Ls E w:=by
 obtain ⟨_,L,_,hS⟩:=h
 exact ⟨I.k,_,.refl _,hS,fun y hy=>by simp[hy]⟩
theorem g9.together {I:G} {Os Om:OL} {Ls F:List (Nat × Obj)} {E w:World} (hs:cM I Os Ls) (h:g9 I Om (Ls++F) E w):g9 I (Os++Om) F E w:=by
 obtain ⟨ht,L,hL,hS⟩:=h
 refine ⟨ht,Ls++L,cM.append.2 ⟨Ls,L,rfl,hs,hL⟩,hS.perm ?_⟩
 rw[←List.append_assoc]
 exact (List.perm_append_comm).append_right F
theorem e9.less {J0:aT} {L:List (Nat × Obj)} {E w:World} (h:e9 J0 L E w):e9 J0 [] E w:=let ⟨J,L',a,b,_⟩:=h;⟨J,L',a,b,fun _ h=>(by cases h)⟩
section
variable {E:World} {P:Program} {n:Nat} {l:List Oper} {W:Nat→Bool} {Q:aS→OL→Prop} {fuel:Nat} {listed:Array Bool} {env:aS} {O Os Om:OL}
variable {d ty:Nat} {op:Op} {pos:String} {af:Array Edge}
theorem dQ.regionDraw (W:Nat→Bool) {Q:Exit→aS→OL→Prop} {id:Nat} (hm:P.follows .mixedOrders=true) (hd:gJ n l=true) (hO:O.Perm (Om++Os)) (h:bK P E l W (Q .normal) l.length (Array.replicate l.length false) env Os Om):dQ P E n (.region id l.toArray true) Q env O:=fun I F ρ w h1 h2=>by
 obtain ⟨Ls,hLs,h3⟩:=h2.split hO
 refine WP.regionDraw (e9 I.k [] E) (e9 I.k Ls E) W hm hd fun w' hw=>?_
 subst hw
 refine h I F ρ _ Ls h1 hLs ?_
 obtain ⟨ht,L,hL,hS⟩:=h3
 exact ⟨ht,L,hL,hS.drew⟩
theorem EZ {i:Nat} (hr:Region.ready .any l.toArray listed=[i]) (hW:(W i||!ft W listed)=true):eW W (listed.setIfInBounds i true):=by
 have h1:=(mem_ready.1 (show i∈Region.ready .any l.toArray listed by rw[hr];exact .head _)).1
 have hi:i<listed.size:=by
  rcases Nat.lt_or_ge i listed.size with h|h
  ·exact h
  ·rw[Array.getD_eq_getD_getElem?,Array.getElem?_eq_none h] at h1;cases h1
 rcases Bool.or_eq_true_iff.1 hW with h|h
 ·refine ⟨i,?_,h⟩
  rw[Array.getD_eq_getD_getElem?,Array.getElem?_setIfInBounds,if_pos rfl,if_pos hi];rfl
 ·refine ml ?_
  have h:ft W listed=false:=by simpa using h
  unfold ft at h
  obtain ⟨j,_,hj⟩:=List.all_eq_false.1 h
  simp only[Bool.not_eq_true,Bool.not_eq_false',Bool.and_eq_true] at hj
  exact ⟨j,by simpa using hj⟩
theorem bK.takeK {i:Nat} {x:AV} (hi:l[i]?=some (Oper.mk (some d) op ty pos af none)) (hs:Region.noSelect l.toArray=true) (hf:Region.free .any l.toArray listed i=true)
  (hr:(Region.ready .any l.toArray listed).contains i=true) (hWi:W i=false) (hg:Gv P env [] (Oper.mk (some d) op ty pos af none) x)
  (h:bK P E l W Q fuel (listed.setIfInBounds i true) (bC env d x) Os Om):bK P E l W Q (fuel+1) listed env Os Om:=fun I F ρ w Ls h1 hLs h2=>by
 obtain ⟨v,hv,hrun⟩:=hg I [] E ρ h1 rfl
 exact cL.takeK hi hs hf hr hWi h2.here.less (.inr h2.here) (fun w ⟨J,L',a,b,c⟩=>hrun w J L' a b c) (h I F _ w Ls (h1.upd d hv) hLs h2)
theorem bK.take {i:Nat} {x:AV} (hi:l[i]?=some (Oper.mk (some d) op ty pos af none)) (hs:Region.noSelect l.toArray=true) (hf:Region.free .any l.toArray listed i=true)
  (hr:(Region.ready .any l.toArray listed).contains i=true) (hW:f9 l i W=true) (hWi:W i=false) (hcl:ft W listed=true) (hg:Gv P env Os (Oper.mk (some d) op ty pos af none) x)
  (h:bK P E l W Q fuel (listed.setIfInBounds i true) (bC env d x) Os Om):bK P E l W Q (fuel+1) listed env Os Om:=fun I F ρ w Ls h1 hLs h2=>by
 obtain ⟨v,hv,hrun⟩:=hg I Ls E ρ h1 hLs
 exact cL.take hi hs hf hr hW hWi hcl h2.here.less h2.here (fun w ⟨J,L',a,b,c⟩=>hrun w J L' a b c) (h I F _ w Ls (h1.upd d hv) hLs h2)
theorem bK.takeT {i j s:Nat} {b t:Bool} {x:AV} (hi:l[i]?=some (Oper.mk (some d) op ty pos af (some (j,b)))) (hg0:(l[j]?).bind (fun o:Oper=>o.dst)=some s) (hv0:env s=.bool t) (ht:t=b) (hs:Region.noSelect l.toArray=true) (hf:Region.free .any l.toArray listed i=true)
  (hr:(Region.ready .any l.toArray listed).contains i=true) (hW:f9 l i W=true) (hWi:W i=false) (hcl:ft W listed=true) (hg:Gv P env Os (Oper.mk (some d) op ty pos af none) x)
  (h:bK P E l W Q fuel (listed.setIfInBounds i true) (bC env d x) Os Om):bK P E l W Q (fuel+1) listed env Os Om:=fun I F ρ w Ls h1 hLs h2=>by
 obtain ⟨v,hv,hrun⟩:=hg I Ls E ρ h1 hLs
 exact cL.takeT hi hg0 (by have:=h1 s;rw[hv0] at this;exact this) ht hs hf hr hW hWi hcl h2.here.less h2.here (fun w ⟨J,L',a,b,c⟩=>hrun w J L' a b c) (h I F _ w Ls (h1.upd d hv) hLs h2)
theorem bK.takeF {i j s:Nat} {b t:Bool} (hi:l[i]?=some (Oper.mk (some d) op ty pos af (some (j,b)))) (hg0:(l[j]?).bind (fun o:Oper=>o.dst)=some s) (hv0:env s=.bool t) (ht:t=!b) (hs:Region.noSelect l.toArray=true) (hf:Region.free .any l.toArray listed i=true)
  (hr:(Region.ready .any l.toArray listed).contains i=true) (hW:f9 l i W=true) (hWi:W i=false) (hcl:ft W listed=true)
  (h:bK P E l W Q fuel (listed.setIfInBounds i true) (bC env d (.raw undef)) Os Om):bK P E l W Q (fuel+1) listed env Os Om:=fun I F ρ w Ls h1 hLs h2=>
 cL.takeF hi hg0 (by have:=h1 s;rw[hv0] at this;exact this) ht hs hf hr hW hWi hcl h2.here.less h2.here (h I F _ w Ls (h1.upd d rfl) hLs h2)
theorem bK.one {i:Nat} {o:Oper} (hi:l[i]?=some o) (hr:Region.ready .any l.toArray listed=[i])
  (h:az P E l.toArray (fun env' Om'=>bK P E l W Q fuel (listed.setIfInBounds i true) env' Os Om') [o] env Om):bK P E l W Q (fuel+1) listed env Os Om:=fun I F ρ w Ls h1 hLs h2=>
 cL.one hi hr (q3 (fun ρ' w' ⟨J,env',Om',a,b,c,d⟩=>by
  have hst:e9 I.k Ls E w':=by
   obtain ⟨J',L',h3,h4,h5⟩:=c.here
   exact ⟨J',L',a.k.trans h3,h4,h5⟩
  refine ⟨⟨hst.less,.inr hst⟩,cL.mono ?_ ?_ (fun _ _=>qp a) _ _ _ _ (d J F ρ' w' Ls b (hLs.mono a) c)⟩
  ·rintro w ⟨J',L',h3,h4⟩;exact ⟨J',L',a.k.trans h3,h4⟩
  ·rintro w ⟨J',L',h3,h4⟩;exact ⟨J',L',a.k.trans h3,h4⟩) _ _ _ (h I (Ls++F) ρ w h1 h2))
theorem bK.done (hr:Region.ready .any l.toArray listed=[]) (h:Q env (Os++Om)):bK P E l W Q fuel listed env Os Om:=fun I F ρ w Ls h1 hLs h2=>
 cL.done hr ⟨I,env,Os++Om,.refl _,h1,g9.together hLs h2,h⟩
theorem bK.case {t:Bool} {s:Nat} (_:env s=.bool t) (h1:t=true→bK P E l W Q fuel listed env Os Om) (h2:t=false→bK P E l W Q fuel listed env Os Om):bK P E l W Q fuel listed env Os Om:=by
 cases t
 ·exact h2 rfl
 ·exact h1 rfl
theorem bK.writes (h:oA P E l W Q fuel listed env (Os++Om)):bK P E l W Q fuel listed env Os Om:=fun I F ρ w Ls h1 hLs h2=>h I F ρ w h1 (g9.together hLs h2) _
theorem oA.one {i:Nat} {o:Oper} (hi:l[i]?=some o) (hr:Region.ready .any l.toArray listed=[i]) (hW:(W i||!ft W listed)=true)
  (h:az P E l.toArray (fun env' O'=>oA P E l W Q fuel (listed.setIfInBounds i true) env' O') [o] env O):oA P E l W Q (fuel+1) listed env O:=fun I F ρ w h1 h2 S=>
 cL.one hi hr (q3 (fun ρ' w' ⟨J,env',O',a,b,c,d⟩=>⟨⟨(by
  obtain ⟨_,L',_,h4⟩:=c
  exact ⟨J.k,_,a.k,h4,fun _ h=>(by cases h)⟩),.inl (EZ hr hW)⟩,cL.mono (fun _ ⟨J',L',h3,h4⟩=>⟨J',L',a.k.trans h3,h4⟩) (fun _ h=>h) (fun _ _=>qp a) _ _ _ _ (d J F ρ' w' b c S)⟩) _ _ _ (h I F ρ w h1 h2))
theorem oA.done (hr:Region.ready .any l.toArray listed=[]) (h:Q env O):oA P E l W Q fuel listed env O:=fun I F ρ w h1 h2 S=>
 cL.done hr ⟨I,env,O,.refl _,h1,h2,h⟩
end
theorem RepL.same {I J:G} (hle:I.le J):∀{cs:List AV} {vs:List Value},RepL I cs vs→∀{off:Nat} {x y:AV},cs[off]?=some x→(∀v,bI I x v→bI J y v)→RepL J (cs.set off y) vs
 |[],_,_,_,_,_,h,_=>by simp at h
 |c::cs,_,⟨v,us,e,h1,h2⟩,off,x,y,h,hxy=>by
  subst e
  cases off with
  |zero=>simp at h;subst h;exact ⟨v,us,rfl,hxy v h1,RepL.mono hle _ _ h2⟩
  |succ off=>exact ⟨v,us,rfl,bI.mono hle _ _ h1,RepL.same hle h2 (by simpa using h) hxy⟩
section
variable {E:World} {P:Program} {n:Nat} {env:aS} {O O' O'':OL}
theorem gr.same {I J:G} {F:List (Nat × Obj)} {E w:World} {j off:Nat} {T:TypeId} {cs:List AV} {x y:AV} (hle:I.le J) (hk:J.k=I.k∨True) (hp:gr O j (.cells T cs) (.cells T (cs.set off y)) O') (hc:cs[off]?=some x) (hxy:∀v,bI I x v→bI J y v)
  {L:List (Nat × Obj)} (hL:cM I O L):∃L',cM J O' L'∧L.Perm L':=by
 obtain ⟨A,B,hp1,⟨b,c,vs,e1,hvs,hvc,rfl⟩,hback⟩:=hp.rep hL
 obtain ⟨L',h1,h2⟩:=hback hle (A':=[(b,.cells vs.toArray T (0,0))]) ⟨b,c,vs,hle.h _ _ e1,hvs.same hle hc hxy,hvc,rfl⟩
 exact ⟨L',h1,hp1.trans h2.symm⟩
theorem aK.knowC {j off i k m:Nat} {T T':TypeId} {cs:List AV} {rows:List (List AV)} (hO:dw O i (.grow k T rows.flatten) O') (hP:gr O' j (.cells T' cs) (.cells T' (cs.set off (.fro k rows))) O'') (hc:cs[off]?=some (.own i m))
  (hk:∀r∈rows,r.length=k) (hk0:0<k) (hm:rows.length=m):aK E env O env O'':=fun I F ρ w h1 h2=>by
 obtain ⟨J,hle,h3,h4⟩:=Go.Proofs.YtbanfokidalbaaaGreatDoor.know hO hk hk0 hm h2
 obtain ⟨ht,L,hL,hS⟩:=h3
 obtain ⟨_,L0,hL0,hS0⟩:=h2
 obtain ⟨A,B,hp,⟨b,c,vs,e1,hvs,hvc,rfl⟩,hback⟩:=hP.rep hL
 obtain ⟨A0,B0,hp0,_,hB0⟩:=hO.rep hL0
 obtain ⟨A1,B1,hp1,⟨b1,c1,vs1,e2,hvs1,hvc1,rfl⟩,_⟩:=hP.rep hB0
 have e3:=hle.h _ _ e2
 simp only at e1 e3
 rw[e1] at e3
 simp only[Option.some.injEq,Prod.mk.injEq] at e3
 obtain ⟨rfl,rfl⟩:=e3
 have hS1:SL I.k (A0++(B0++F)) E w:=hS0.perm (by rw[←List.append_assoc];exact (hp0.append_right F).symm)
 have hv1:=hS1.own (b,.cells vs1.toArray T' (0,0)) (by simp;right;left;exact hp1.mem_iff.2 (by simp))
 have hv:=hS.own (b,.cells vs.toArray T' (0,0)) (by simp;left;exact hp.mem_iff.2 (by simp))
 simp only at hv hv1
 rw[hv] at hv1
 simp only[Option.some.injEq,Obj.cells.injEq] at hv1
 have hvv:vs=vs1:=by have:=congrArg Array.toList hv1.1;simpa using this
 subst hvv
 obtain ⟨L',h5,h6⟩:=hback (G.le.refl J) (A':=[(b,.cells vs.toArray T' (0,0))]) ⟨b,c,vs,e1,hvs1.same hle hc h4,hvc,rfl⟩
 exact ⟨J,hle,h1.mono hle,ht,L',h5,hS.perm (((h6.trans hp.symm).append_right F))⟩
theorem C8 {j off k:Nat} {T T':TypeId} {cs:List AV} {c:Code} {Q:Exit→aS→OL→Prop} {f:Nat→OL} (hP:∀i,gr O j (.cells T' cs) (.cells T' (cs.set off (.own i 0))) (f i)) (hc:cs[off]?=some (.raw (.slice none 0 0)))
  (h:∀i,dQ P E n c Q env ((i,.grow k T [])::f i)):dQ P E n c Q env O:=fun I F ρ w h1 h2=>by
 obtain ⟨i,hi⟩:=h2.name
 obtain ⟨J,e1,hle,e2,htop⟩:=hi (none,0)
 obtain ⟨_,L,hL,hS⟩:=h2
 obtain ⟨L',h3,h4⟩:=gr.same (F:=F) (E:=E) (w:=w) hle (.inr trivial) (hP i) hc (fun v hv=>⟨none,0,e2,hv⟩) hL
 exact (h i J F ρ w (h1.mono hle) ⟨htop,_,⟨[],L',rfl,⟨none,0,0,[],e2,rfl,by simp,fT.nil k T⟩,h3⟩,by rw[e1];exact hS.perm (h4.symm.append_right F)⟩).mono fun _ _ _=>mW.up hle
end
def AV.plain:AV→Bool
 |.bool _ | .int _ _ | .str _=>true
 |_=>false
theorem AV.plain_rep {I J:G} {x:AV} {v:Value} (hp:x.plain=true) (h:bI I x v):bI J x v:=by
 cases x<;>first|exact h|cases hp
theorem E0 {k:Nat} {rows:List (List AV)} (hk:∀r∈rows,r.length=k):rows.flatten.length=rows.length*k:=by
 induction rows with
 |nil=>simp
 |cons r rows ih=>simp only[List.flatten_cons,List.length_append,List.length_cons,ih (fun r h=>hk r (by simp[h])),hk r (by simp),Nat.add_mul];omega
end
section
open Go.Proofs.Tryz
inductive vH:OL→OL→OL→Prop
 |rest (O):vH O O []
 |l {x O A B}:vH O A B→vH (x::O) (x::A) B
 |r {x O A B}:vH O A B→vH (x::O) A (x::B)
theorem vH.perm {O A B:OL} (h:vH O A B):O.Perm (A++B):=by
 induction h with
 |rest=>simp
 |l _ ih=>exact ih.cons _
 |r _ ih=>exact (ih.cons _).trans List.perm_middle.symm
section
variable {E:World} {P:Program} {n:Nat} {ops:Array Oper} {K:aS→OL→Prop} {env:aS} {O O':OL} {rest:List Oper}
variable {d ty:Nat} {pos:String} {af:Array Edge} {x y z:Operand} {t u e:TypeId}
theorem az.storeW {i m:Nat} {T:TypeId} {v:AV} {cs l:List AV} (hs:∀w,(sizeOf t).run P w=.ok m w) (hx:bb env x=.po i 0) (hy:bb env y=v) (hv:v.sto=true) (hl:v.cs=l) (hl1:l.all AV.cell=true) (hn:l.length=m)
  (hO:gr O i (.cells T cs) (.cells T l) O') (hb:cs.length=m) (k:az P E ops K rest env O'):az P E ops K (Oper.mk none (.store t x y) ty pos af none::rest) env O:=
 qg (off:=0) hs hx hy hv hl hl1 hn hO (by rw[hb];simp) (by rw[Nat.zero_add,List.drop_eq_nil_of_le (by omega)];simp) k
theorem az.storeG {i off m k:Nat} {T:TypeId} {v:AV} {cs l new:List AV} (hs:∀w,(sizeOf t).run P w=.ok m w) (hx:bb env x=.po i off) (hy:bb env y=v) (hv:v.sto=true) (hl:v.cs=l) (hl1:l.all AV.cell=true) (hn:l.length=m)
  (hO:gr O i (.grow k T cs) (.grow k T new) O') (hb:off+m≤cs.length) (hm:0<m) (hnew:cs.take off++l++cs.drop (off+m)=new) (kk:az P E ops K rest env O'):az P E ops K (Oper.mk none (.store t x y) ty pos af none::rest) env O:=fun I F ρ w h1 h2=>by
 obtain ⟨htop,L,hL,hS⟩:=h2
 have h3:=h1.ev x
 rw[hx] at h3
 obtain ⟨b,c,e1,e⟩:=h3
 have h4:=h1.ev y
 rw[hy] at h4
 have h5:=AV.cs_rep h4 hv
 rw[hl] at h5
 obtain ⟨A,B,hp,⟨b',c',n',vs,e2,h6,h6c,hown⟩,hback⟩:=hO.rep hL
 simp only at e2
 rw[e1] at e2
 simp only[Option.some.injEq,Prod.mk.injEq] at e2
 obtain ⟨rfl,rfl⟩:=e2
 obtain ⟨g1,g2,g3⟩:=hown
 rcases g3 with ⟨g3,_,_⟩|⟨b'',junk,g3,rfl,g4⟩
 ·simp[adr] at g3
 simp[adr] at g3
 subst g3
 have hS2:SL I.k ((b,.cells (vs++junk).toArray T (0,0))::(B++F)) E w:=hS.perm ((hp.append_right F).symm)
 have hlen:=h6.length
 have hrun:=k7 (P:=P) (t:=t) (b:=b) (off:=off) (v:=ev ρ y) (vs:=(ev ρ y).cells.toList) (old:=vs++junk) (w:=w) hs (by simp) (by rw[h5.length,hn]) (h5.cell1 hl1) (by rw[List.length_append];omega) (hS2.own _ (.head _))
 have hre:(vs++junk).take off++(ev ρ y).cells.toList++(vs++junk).drop (off+m)=(vs.take off++(ev ρ y).cells.toList++vs.drop (off+m))++junk:=by
  rw[List.take_append_of_le_length (by omega),List.drop_append_of_le_length (by omega)];simp
 rw[hre] at hrun
 refine bP.step rfl ?_
 unfold eY
 have:(execOp (ev ρ) (Oper.mk none (.store t x y) ty pos af none)).run P w=.ok .skip (w.setRow b ((vs.take off++(ev ρ y).cells.toList++vs.drop (off+m))++junk).toArray):=by
  simp only[execOp,e]
  rw[Sem.run_bind,hrun];rfl
 rw[this]
 have hnr:RepL I new (vs.take off++(ev ρ y).cells.toList++vs.drop (off+m)):=hnew▸((h6.take off).append h5).append (h6.drop (off+m))
 have hnl:(vs.take off++(ev ρ y).cells.toList++vs.drop (off+m)).length=vs.length:=by
  have:=h5.length
  simp only[List.length_append,List.length_take,List.length_drop];omega
 obtain ⟨L',h7,h8⟩:=hback (G.le.refl I) (A':=[(b,.cells ((vs.take off++(ev ρ y).cells.toList++vs.drop (off+m))++junk).toArray T (0,0))]) ⟨some b,_,n',_,e1,hnr,by
  intro u hu
  simp only[List.mem_append] at hu
  rcases hu with (hu|hu)|hu
  ·exact h6c u (List.mem_of_mem_take hu)
  ·exact h5.cell1 hl1 u hu
  ·exact h6c u (List.mem_of_mem_drop hu),by rw[hnl];exact g1,g2,.inr ⟨b,junk,rfl,rfl,by
   simp only[List.length_append] at g4 ⊢
   simp only[List.length_append] at hnl
   omega⟩⟩
 exact kk I F ρ _ h1 ⟨htop,L',h7,(hS2.turn1).perm (h8.append_right F)⟩
theorem az.storeG1 {i off k:Nat} {T:TypeId} {v:AV} {cs:List AV} (hs:∀w,(sizeOf t).run P w=.ok 1 w) (hx:bb env x=.po i off) (hy:bb env y=v) (hv:v.sto=true) (hl:v.cs=[v]) (hl1:v.cell=true)
  (hO:gr O i (.grow k T cs) (.grow k T (cs.set off v)) O') (hb:off<cs.length) (kk:az P E ops K rest env O'):az P E ops K (Oper.mk none (.store t x y) ty pos af none::rest) env O:=
 az.storeG hs hx hy hv hl (by simp[hl1]) rfl hO (by omega) (by omega) (by rw[List.set_eq_take_append_cons_drop,if_pos hb];simp) kk
theorem Gv.field1 {fs:Array Field} {f:Field} {i:Nat} {cs:List AV} {v:AV} (ht:P.underlying t=some (.struct fs)) (hf:fs[i]?=some f) (ha:∀w,(isAgg f.type).run P w=.ok false w) (hx:bb env x=.agg cs) (hv:cs[f.offset]?=some v) :
  Gv P env O (Oper.mk (some d) (.field t x i) ty pos af none) v:=qm fun I ρ h=>by
 have h2:=h.ev x
 rw[hx] at h2
 obtain ⟨vs,e,hr⟩:=h2
 obtain ⟨u,hu,hru⟩:=hr.get hv
 exact ⟨u,hru,fun w=>by simp[execOp,e,Instr.field,run_underlying ht,hf,part,ha,hu,asAgg,Result.andThen]⟩
theorem Gv.idxAF {n k j:Nat} {i:Int} {cs cs':List AV} (ht:P.underlying t=some (.array n e)) (hs:∀w,(sizeOf e).run P w=.ok k w) (hx:bb env x=.pf cs) (hy:bb env y=.int .i64 i) (hi:i=(j:Int)) (hj:j<n) (hl:cs.drop (j*k)=cs') :
  Gv P env O (Oper.mk (some d) (.indexAddr t x y) ty pos af none) (.pf cs'):=fun I L E ρ h1 _=>by
 have h2:=h1.ev x
 rw[hx] at h2
 obtain ⟨b,off,vs,ex,h3,h5⟩:=h2
 refine ⟨.pointer (some ⟨b,off+j*k,none⟩),⟨b,_,vs.drop (j*k),rfl,hl▸h3.drop _,fun m u hu=>?_⟩,fun w J L' _ _ _=>?_⟩
 ·rw[List.getElem?_drop] at hu
  have:=h5 _ _ hu
  rwa [←Nat.add_assoc] at this
 ·subst hi
  simp[execOp,ex,fY h1 hy,Instr.indexAt,asIntOf,run_underlying ht,hs,hj,bE,Instr.sureAddr]
theorem Gv.idxAO {n k j id off:Nat} {i:Int} (ht:P.underlying t=some (.array n e)) (hs:∀w,(sizeOf e).run P w=.ok k w) (hx:bb env x=.po id off) (hy:bb env y=.int .i64 i) (hi:i=(j:Int)) (hj:j<n) {r:Nat} (hr:off+j*k=r) :
  Gv P env O (Oper.mk (some d) (.indexAddr t x y) ty pos af none) (.po id r):=fun I L E ρ h1 _=>by
 have h2:=h1.ev x
 rw[hx] at h2
 obtain ⟨b,c,e1,ex⟩:=h2
 refine ⟨.pointer (some ⟨b,r,none⟩),⟨b,c,e1,rfl⟩,fun w J L' _ _ _=>?_⟩
 subst hi hr
 simp[execOp,ex,fY h1 hy,Instr.indexAt,asIntOf,run_underlying ht,hs,hj,bE,Instr.sureAddr]
theorem Gv.index1 {n j:Nat} {i:Int} {cs:List AV} {v:AV} (ht:P.underlying t=some (.array n e)) (ha:∀w,(isAgg e).run P w=.ok false w) (hs:∀w,(sizeOf e).run P w=.ok 1 w) (hx:bb env x=.agg cs) (hy:bb env y=.int .i64 i) (hi:i=(j:Int)) (hj:j<n) (hv:cs[j]?=some v) :
  Gv P env O (Oper.mk (some d) (.index t x y) ty pos af none) v:=qm fun I ρ h=>by
 have h2:=h.ev x
 rw[hx] at h2
 obtain ⟨vs,ex,hr⟩:=h2
 obtain ⟨u,hu,hru⟩:=hr.get hv
 refine ⟨u,hru,fun w=>?_⟩
 subst hi
 simp[execOp,ex,fY h hy,Instr.index,asIntOf,run_underlying ht,hj,hs,part,ha,hu,Result.andThen]
theorem Gv.indexA {n j k:Nat} {i:Int} {cs l:List AV} (ht:P.underlying t=some (.array n e)) (ha:∀w,(isAgg e).run P w=.ok true w) (hs:∀w,(sizeOf e).run P w=.ok k w) (hx:bb env x=.agg cs) (hy:bb env y=.int .i64 i) (hi:i=(j:Int)) (hj:j<n) (hl:(cs.drop (j*k)).take k=l) :
  Gv P env O (Oper.mk (some d) (.index t x y) ty pos af none) (.agg l):=qm fun I ρ h=>by
 have h2:=h.ev x
 rw[hx] at h2
 obtain ⟨vs,ex,hr⟩:=h2
 refine ⟨.agg ((vs.drop (j*k)).take k).toArray,⟨_,rfl,hl▸(hr.drop _).take _⟩,fun w=>?_⟩
 subst hi
 simp[execOp,ex,fY h hy,Instr.index,asIntOf,run_underlying ht,hj,hs,part,ha,Result.andThen]
theorem Gv.indexT {j:Nat} {i:Int} {s:ByteArray} {c:UInt8} (ht:P.underlying t=some .string) (hx:bb env x=.str s) (hy:bb env y=.int .i64 i) (hi:i=(j:Int)) (hv:s.data[j]?=some c) :
  Gv P env O (Oper.mk (some d) (.index t x y) ty pos af none) (.int .u8 c.toNat):=qm fun I ρ h=>by
 refine ⟨_,rfl,fun w=>?_⟩
 subst hi
 have hj:s[j]?=some c:=by
  have h1:=(Array.getElem?_eq_some_iff.1 hv)
  obtain ⟨h1,h2⟩:=h1
  show (if h:j<s.size then some s[j] else none)=some c
  rw[dif_pos (show j<s.size from h1)];exact congrArg some h2
 simp[execOp,HO h hx,fY h hy,Instr.index,asIntOf,run_underlying ht,hj]
theorem az.rangeT {s:ByteArray} (ht:P.underlying t=some .string) (hx:bb env x=.str s) (k:∀i,az P E ops K rest (bC env d (.po i 0)) ((i,.iter s 0)::O)):az P E ops K (Oper.mk (some d) (.range t x) ty pos af none::rest) env O:=fun I F ρ w h1 h2=>by
 obtain ⟨L,hL,hS⟩:=h2.2
 obtain ⟨i,hi⟩:=h2.name
 refine bP.rangeT ht hS (HO h1 hx) fun b w' hS'=>?_
 obtain ⟨J,e1,hle,e2,htop⟩:=hi (some b,0)
 exact q3 (fun _ _=>qp hle) _ _ _ (k i J F _ _ ((h1.mono hle).upd d ⟨b,0,e2,rfl⟩) ⟨htop,_,⟨_,L,rfl,⟨b,0,e2,rfl⟩,hL.mono hle⟩,by rw[e1];exact hS'⟩)
theorem az.nextT {i p:Nat} {s:ByteArray} (hx:bb env x=.po i 0) (hO:gr O i (.iter s p) (.iter s (p+(Utf8.decode s p).2)) O') (hp:p<s.size)
  (k:az P E ops K rest (bC env d (.tup [.bool true,.int .i64 p,.int .i32 (Utf8.decode s p).1])) O'):az P E ops K (Oper.mk (some d) (.next x true) ty pos af none::rest) env O:=fun I F ρ w h1 h2=>by
 obtain ⟨ht,L,hL,hS⟩:=h2
 have h3:=h1.ev x
 rw[hx] at h3
 obtain ⟨b,c,e1,e⟩:=h3
 obtain ⟨A,B,hp1,⟨b',c',e2,rfl⟩,hback⟩:=hO.rep hL
 simp only at e2
 rw[e1] at e2
 simp only[Option.some.injEq,Prod.mk.injEq] at e2
 obtain ⟨rfl,rfl⟩:=e2
 have hS2:SL I.k ((b,.stringIter s p)::(B++F)) E w:=hS.perm ((hp1.append_right F).symm)
 refine bP.nextT hS2 e hp fun w' hS'=>?_
 obtain ⟨L',h7,h8⟩:=hback (G.le.refl I) (A':=[(b,.stringIter s (p+(Utf8.decode s p).2))]) ⟨b,c,e1,rfl⟩
 exact k I F _ _ (h1.upd d ⟨[.bool true,.int .i64 p,.int .i32 (Utf8.decode s p).1],rfl,⟨_,_,rfl,rfl,⟨_,_,rfl,rfl,⟨_,_,rfl,rfl,rfl⟩⟩⟩⟩) ⟨ht,L',h7,hS'.perm (h8.append_right F)⟩
theorem az.nextTover {i p:Nat} {s:ByteArray} (hx:bb env x=.po i 0) (hO:dw O i (.iter s p) O') (hp:¬p<s.size)
  (k:az P E ops K rest (bC env d (.tup [.bool false])) O):az P E ops K (Oper.mk (some d) (.next x true) ty pos af none::rest) env O:=fun I F ρ w h1 h2=>by
 obtain ⟨ht,L,hL,hS⟩:=id h2
 have h3:=h1.ev x
 rw[hx] at h3
 obtain ⟨b,c,e1,e⟩:=h3
 obtain ⟨A,B,hp1,⟨b',c',e2,rfl⟩,_⟩:=hO.rep hL
 simp only at e2
 rw[e1] at e2
 simp only[Option.some.injEq,Prod.mk.injEq] at e2
 obtain ⟨rfl,rfl⟩:=e2
 have hS2:SL I.k ((b,.stringIter s p)::(B++F)) E w:=hS.perm (by have:=(hp1.append_right F).symm;simpa using this)
 exact bP.nextTover hS2 e hp (k I F _ _ (h1.upd d ⟨[.bool false],rfl,⟨_,_,rfl,rfl,rfl⟩⟩) h2)
theorem az.nextA {i p:Nat} {s:ByteArray} {c:UInt8} (hx:bb env x=.po i 0) (hc:s.data[p]?=some c) (hc2:c<128) (hO:gr O i (.iter s p) (.iter s (p+1)) O')
  (k:az P E ops K rest (bC env d (.tup [.bool true,.int .i64 p,.int .i32 (c.toNat:Int)])) O'):az P E ops K (Oper.mk (some d) (.next x true) ty pos af none::rest) env O:=by
 have hp:p<s.size:=by
  by_cases hp:p<s.data.size
  ·exact hp
  ·rw[Array.getElem?_eq_none (by omega)] at hc;cases hc
 have hd:=mV hc hc2
 exact az.nextT hx (by rw[hd];exact hO) hp (by rw[hd];exact k)
end
end
section
open Go.Proofs.Tryz
theorem nP {k:Nat}:∀(xs:List (List AV)) (i:Nat) (pre zs:List AV),(∀x∈xs,x.length=k)→zs.length=xs.length*k→pre.length=i*k →
  kI (fun i=>some (i*k,k)) (pre++zs) ((xs.zipIdx i).map fun p=>(p.2,p.1))=some (pre++xs.flatten)
 |[],i,pre,zs,_,h,_=>by simp at h;subst h;simp[kI]
 |x::xs,i,pre,zs,hk,h,hp=>by
  have hx:=hk x (by simp)
  have e1:Nat.beq x.length k=true:=by rw[hx];exact Nat.beq_refl k
  have e2:Nat.ble (i*k+k) (pre++zs).length=true:=by
   rw[Nat.ble_eq,List.length_append,hp,h,List.length_cons,Nat.add_mul];omega
  simp only[List.zipIdx_cons,List.map_cons,kI,e1,e2,Bool.and_self,cond_true]
  have h1:(pre++zs).take (i*k)=pre:=by rw[←hp];simp
  have h2:(pre++zs).drop (i*k+k)=zs.drop k:=by rw[←hp,List.drop_append];simp
  rw[h1,h2,←List.append_assoc]
  rw[nP xs (i+1) (pre++x) (zs.drop k) (fun y hy=>hk y (by simp[hy])) (by rw[List.length_drop,h,List.length_cons,Nat.add_mul];omega) (by rw[List.length_append,hp,hx,Nat.add_mul];omega)]
  simp
theorem Bj {α:Type} {enc:α→List AV} {k:Nat} (hk:∀x,(enc x).length=k):∀(l:List α) (j:Nat) {x:α},l[j]?=some x→((l.flatMap enc).drop (j*k)).take k=enc x
 |[],j,x,h=>by simp at h
 |y::l,0,x,h=>by simp at h;subst h;simp[List.take_append_of_le_length,hk]
 |y::l,j+1,x,h=>by
  simp only[List.getElem?_cons_succ] at h
  rw[←Bj hk l j h,List.flatMap_cons,Nat.add_mul,Nat.one_mul,Nat.add_comm,←List.drop_drop]
  congr 2
  rw[←hk y];simp
section
variable {E:World} {P:Program} {env:aS} {O:OL} {d ty:Nat} {pos:String} {af:Array Edge} {t:TypeId}
theorem Gv.buildAF {k:Nat} {zs:List AV} {xs:List (List AV)} {l:List (Nat × Operand)} (hpl:mY P t k zs) (hs:l.all (fun p=>(bb env p.2).sto)=true) (hv:l.map (fun p=>(p.1,(bb env p.2).cs))=(xs.zipIdx 0).map fun p=>(p.2,p.1))
  (hk:xs.all (fun x=>Nat.beq x.length k)=true) (hz:zs.length=xs.length*k):Gv P env O (Oper.mk (some d) (.build t l.toArray) ty pos af none) (.agg xs.flatten):=
 Gv.buildA hpl hs hv (by
  have:=nP xs 0 [] zs (fun x hx=>Nat.eq_of_beq_eq_true (List.all_eq_true.1 hk x hx)) hz (by simp)
  simpa using this)
end
inductive su:OL→Nat→bQ→Nat→bQ→OL→Prop
 |head {i o j o' O}:su ((i,o)::O) i o j o' ((j,o')::O)
 |tail {x O i o j o' O'}:su O i o j o' O'→su (x::O) i o j o' (x::O')
theorem su.rep {I:G} {O O':OL} {i j:Nat} {o o':bQ} (h:su O i o j o' O'):∀{L},cM I O L→∃A B,L.Perm (A++B)∧sC I (i,o) A ∧
  ∀{J:G} {A'},I.le J→sC J (j,o') A'→∃L',cM J O' L'∧L'.Perm (A'++B):=by
 induction h with
 |head=>rintro L ⟨A,B,e,h1,h2⟩;exact ⟨A,B,e▸.refl _,h1,fun {J A'} hl h=>⟨A'++B,⟨A',B,rfl,h,h2.mono hl⟩,.refl _⟩⟩
 |tail h ih=>
  rintro L ⟨A,B,e,h1,h2⟩
  obtain ⟨C,D,hp,h3,h4⟩:=ih h2
  refine ⟨C,A++D,?_,h3,fun {J A'} hl h=>?_⟩
  ·subst e
   refine (hp.append_left A).trans ?_
   rw[←List.append_assoc,←List.append_assoc]
   exact List.perm_append_comm.append_right D
  ·obtain ⟨L',h5,h6⟩:=h4 hl h
   refine ⟨A++L',⟨A,L',rfl,h1.mono hl,h5⟩,?_⟩
   refine (h6.append_left A).trans ?_
   rw[←List.append_assoc,←List.append_assoc]
   exact List.perm_append_comm.append_right D
section
variable {E:World} {P:Program} {ops:Array Oper} {K:aS→OL→Prop} {env:aS} {O O':OL} {rest:List Oper}
variable {d ty:Nat} {pos:String} {af:Array Edge} {x y z:Operand} {t u e:TypeId}
theorem az.appendS {ti:TypeInfo} {zv:Value} {k n i:Nat} {cs:List AV} {rows:List (List AV)} {f:Nat→OL} (ht:P.underlying t=some (.slice e)) (hi:P.info? e=some ti) (hz:ti.zero=some zv) (hk:ti.size=k) (hzc:zv.cells.size=k)
  (hx:bb env x=.own i n) (hy:bb env y=.fro k rows) (hO:∀j,su O i (.grow k e cs) j (.grow k e (cs++rows.flatten)) (f j)) (hn:cs.length=n*k) (hk0:0<k) (hc1:rows.flatten.all AV.cell=true) (hb:(n+rows.length)*ti.bytes≤140737488355328) (hb2:n+rows.length≤140737488355328)
  (kk:∀j,az P E ops K rest (bC env d (.own j (n+rows.length))) (f j)) :
  az P E ops K (Oper.mk (some d) (.call { callee:=.builtin .append,args:=#[x,y],argTypes:=#[t,t] }) ty pos af none::rest) env O:=fun I F ρ w h1 h2=>by
 obtain ⟨htop,L,hL,hS⟩:=id h2
 have h3:=h1.ev x
 rw[hx] at h3
 obtain ⟨b,cap,e1,ex⟩:=h3
 have h4:=h1.ev y
 rw[hy] at h4
 obtain ⟨sa,m,sc,vs,ey,hm,hvs,hvc,hsrc⟩:=HU h4 hc1
 obtain ⟨j,hj⟩:=h2.name
 obtain ⟨A,B,hp,⟨b',cap',n',us,e2,hus,huc,hown⟩,hback⟩:=(hO j).rep hL
 simp only at e2
 rw[e1] at e2
 simp only[Option.some.injEq,Prod.mk.injEq] at e2
 obtain ⟨rfl,rfl⟩:=e2
 have hnn:n'=n:=by
  have h5:=hown.1
  have h6:=hus.length
  have:n'*k=n*k:=by omega
  exact Nat.eq_of_mul_eq_mul_right hk0 this
 subst hnn
 subst hm
 have hS2:SL I.k (A++(B++F)) E w:=hS.perm (by rw[←List.append_assoc];exact (hp.append_right F).symm)
 refine bP.append ht hi hz hk hzc ex ey hS2 hown (hsrc _) hb hb2 fun a' c' A' w' h5 h6 h7=>?_
 have hb':∃b'',a'=adr b'':=by
  rcases h5.2.2 with ⟨e,_⟩|⟨b'',junk,e,_⟩
  ·exact ⟨none,e⟩
  ·exact ⟨some b'',e⟩
 obtain ⟨b'',rfl⟩:=hb'
 obtain ⟨J,ek,hle,e3,htop'⟩:=hj (b'',c')
 obtain ⟨L',h8,h9⟩:=hback hle (A':=A') ⟨b'',c',_,us++vs,e3,RepL.mono hle _ _ (hus.append hvs),(by
  intro u hu
  rcases List.mem_append.1 hu with hu|hu
  ·exact huc u hu
  ·exact hvc u hu),h5⟩
 exact q3 (fun _ _=>qp hle) _ _ _ (kk j J F _ _ ((h1.mono hle).upd d ⟨b'',c',e3,rfl⟩) ⟨htop',L',h8,by rw[ek];exact h6.perm (by rw[←List.append_assoc];exact h9.append_right F)⟩)
end
theorem lE {α:Type} {enc:α→List AV} {xs ys:List α} {x:α} (h:ys=xs++[x]):(xs.map enc).flatten++[enc x].flatten=(ys.map enc).flatten:=by subst h;simp
theorem mZ {α:Type} {enc:α→List AV} {k:Nat} (hk:∀x,(enc x).length=k) (xs:List α):(xs.map enc).flatten.length=xs.length*k:=by
 rw[E0 (k:=k) (by simp[hk]),List.length_map]
end
section
open Go.Proofs.Tryz
theorem Ke {I:G} {x v:Value} (h:bI I (lit x) v):v=x:=by cases x<;>exact h
theorem lF {I:G}:∀{xs vs:List Value},RepL I (xs.map lit) vs→vs=xs
 |[],_,h=>h
 |x::xs,_,⟨v,us,e,h1,h2⟩=>by rw[e,Ke h1,lF h2]
section
variable {E:World} {P:Program} {env:aS} {O:OL} {d ty:Nat} {pos:String} {af:Array Edge} {x y:Operand} {t u:TypeId}
theorem Gv.eqlP {xs ys:List Value} {r:Bool} (hg:P.eqGuardType P.depth t=false) (hx:bb env x=.agg (xs.map lit)) (hy:bb env y=.agg (ys.map lit)) (hr:∀w,(Op.equalIn 10000 t (.agg xs.toArray) (.agg ys.toArray)).run P w=.ok r w) :
  Gv P env O (Oper.mk (some d) (.binOp .eql t x y u) ty pos af none) (.bool r):=qm fun I ρ h=>by
 have h1:=h.ev x
 have h2:=h.ev y
 rw[hx] at h1
 rw[hy] at h2
 obtain ⟨vs,e1,hv⟩:=h1
 obtain ⟨us,e2,hu⟩:=h2
 rw[lF hv] at e1
 rw[lF hu] at e2
 exact ⟨_,rfl,fun w=>by simp only[execOp,e1,e2];simp[run_eqGuard_agg w .eql t x y xs.toArray ys.toArray hg,run_eql_struct,hr]⟩
end
theorem LH {α:Type} {xs ys:List α} {k:Nat} (h1:k<xs.length) (h2:k<ys.length) (h:¬xs[k]=ys[k]):¬xs=ys:=fun e=>by subst e;exact h rfl
theorem C9 {α:Type} {xs ys:List α} {k:Nat} (h1:k<xs.length) (h2:k<ys.length) (he:xs.take k=ys.take k) (h:xs[k]=ys[k]):xs.take (k+1)=ys.take (k+1):=by
 rw[List.take_succ_eq_append_getElem h1,List.take_succ_eq_append_getElem h2,he,h]
theorem Da {α:Type} {xs ys:List α} {k:Nat} (hl:xs.length=ys.length) (hk:xs.length≤k) (he:xs.take k=ys.take k):xs=ys:=by
 rwa [List.take_of_length_le hk,List.take_of_length_le (by omega)] at he
end
section
open Go.Proofs.Tryz
section
variable {E:World} {P:Program} {ops:Array Oper} {K:aS→OL→Prop} {env:aS} {O O':OL} {rest:List Oper}
variable {d ty:Nat} {pos:String} {af:Array Edge} {x y:Operand} {t u e:TypeId}
theorem az.isNil {k:Nat} {rows:List (List AV)} (ht:P.underlying t=some (.slice e)) (hx:bb env x=.fro k rows) (hy:bb env y=.raw (.slice none 0 0)) (kt:rows=[]→az P E ops K rest (bC env d (.bool true)) O) (kf:az P E ops K rest (bC env d (.bool false)) O) :
  az P E ops K (Oper.mk (some d) (.binOp .eql t x y u) ty pos af none::rest) env O:=fun I F ρ w h1 h2=>by
 have h3:=h1.ev x
 rw[hx] at h3
 obtain ⟨a,n,c,e1,hn,hnc,hnil,_⟩:=h3
 refine bP.eqNilS ht e1 (gy h1 hy) ?_
 cases a with
 |none=>
  have:rows=[]:=List.eq_nil_of_length_eq_zero (by have:=hnil rfl;omega)
  exact kt this I F _ w (h1.upd d rfl) h2
 |some p=>exact kf I F _ w (h1.upd d rfl) h2
theorem Db {rs:Array ResultVar} {R:AV→OL→Prop} {s k:Nat} {T:TypeId} (hv:env s=.raw (.slice none 0 0)) (h:∀i,fU P E rs R .ret (bC env s (.own i 0)) ((i,.grow k T [])::O)):fU P E rs R .ret env O:=fun I F ρ w h1 h2=>by
 obtain ⟨i,hi⟩:=h2.name
 obtain ⟨J,e1,hle,e2,htop⟩:=hi (none,0)
 obtain ⟨_,L,hL,hS⟩:=h2
 have h3:ρ s=.slice none 0 0:=by have:=h1 s;rw[hv] at this;exact this
 obtain ⟨v,g1,K,x,O',g2,g3⟩:=h i J F ρ w (fun q=>by
  unfold bC
  cases hb:Nat.beq q s with
  |false=>exact bI.mono hle _ _ (h1 q)
  |true=>
   have:q=s:=Nat.eq_of_beq_eq_true hb
   subst this
   exact ⟨none,0,e2,h3⟩) ⟨htop,_,⟨[],L,rfl,⟨none,0,0,[],e2,rfl,by simp,fT.nil k T⟩,hL.mono hle⟩,by rw[e1];exact hS⟩
 exact ⟨v,g1,K,x,O',hle.trans g2,g3⟩
end
theorem Left.refl (O:OL):Left O O:=⟨O,.refl _,rfl⟩
end
section
open Go.Proofs.Tryz
section
variable {E:World} {P:Program} {ops:Array Oper} {K:aS→OL→Prop} {env:aS} {O O':OL} {rest:List Oper}
variable {d ty:Nat} {pos:String} {af:Array Edge} {x y:Operand} {t u e:TypeId}
theorem Dc {k:Nat} {zs:List AV} {xs:List (List AV)} (hk:xs.all (fun x=>Nat.beq x.length k)=true) (hz:zs.length=xs.length*k):kI (fun i=>some (i*k,k)) zs ((xs.zipIdx 0).map fun p=>(p.2,p.1))=some xs.flatten:=by
 have:=nP xs 0 [] zs (fun x hx=>Nat.eq_of_beq_eq_true (List.all_eq_true.1 hk x hx)) hz (by simp)
 simpa using this
theorem az.buildSliceFF {n k:Nat} {zs:List AV} {rows:List (List AV)} {l:List (Nat × Operand)} (hpl:dM P t e n k zs) (hs:l.all (fun p=>(bb env p.2).sto)=true) (hv:l.map (fun p=>(p.1,(bb env p.2).cs))=(rows.zipIdx 0).map fun p=>(p.2,p.1))
  (hk:rows.all (fun r=>Nat.beq r.length k)=true) (hn:rows.length=n) (hz:zs.length=n*k) (kk:az P E ops K rest (bC env d (.fro k rows)) O) :
  az P E ops K (Oper.mk (some d) (.buildSlice t n l.toArray) ty pos af none::rest) env O:=
 az.buildSliceF hpl hs hv (Dc hk (by rw[hz,hn])) rfl hk hn kk
end
theorem SL.belowE {I:aT} {O:List (Nat × Obj)} {E w:World} (hS:SL I O E w):Go.RowKit.Below E.heap.size E w:=by
 have key:∀k,k<E.heap.size→w.heap[k]?=E.heap[k]?:=fun k hk=>by
  have h1:E.heap[k]?=some E.heap[k]:=Array.getElem?_eq_getElem hk
  rw[h1]
  exact hS.pers _ _ (hS.base k _ h1)
 refine ⟨hS.os,hS.tape,hS.output,?_,key⟩
 rcases Nat.lt_or_ge w.heap.size E.heap.size with h|h
 ·have:=key w.heap.size h
  rw[Array.getElem?_eq_none (Nat.le_refl _),Array.getElem?_eq_getElem h] at this
  cases this
 ·exact h
theorem aJ.ofBelow {E:World} {P:Program} {f:FuncId} {fn:Func} {c:Code} {as0:List AV} {vs:List Value} {r:Value} (hf:P.funcs[f]?=some fn) (hb:fn.body=some c) (hn:fn.name≠"runtime.NumGoroutine") (has:as0=vs.map lit)
  (h:∀w,Go.RowKit.Below E.heap.size E w→Calls P f vs.toArray w fun e w'=>e=.returned r∧Go.RowKit.Below w.heap.size w w'):aJ P E f as0 (lit r):=fun I F w us h1 h2=>by
 subst has
 rw[lF h1]
 obtain ⟨ht,L,hL,hS⟩:=h2
 have hL:L=[]:=hL
 subst hL
 refine Fn.ofCalls hf hb hn ?_
 exact (h w hS.belowE).mono fun e w' ⟨he,hw⟩=>⟨_,he,I,lit r,[],.refl _,Bh I r,⟨ht,[],rfl,hS.below hw⟩,rfl⟩
end
section
open Go.Proofs.Tryz
open Go.Proofs
theorem dR:el prog 189 #[(0,1),(1,1),(2,1)] [.str ⟨#[]⟩,.str ⟨#[]⟩,.str ⟨#[]⟩]:=⟨_,_,underlying189,zeroValue189,fun w=>by kernel_rfl,rfl⟩
theorem LI:mY prog 227 3 [.str ⟨#[]⟩,.str ⟨#[]⟩,.str ⟨#[]⟩,.str ⟨#[]⟩,.str ⟨#[]⟩,.str ⟨#[]⟩,.str ⟨#[]⟩,.str ⟨#[]⟩,.str ⟨#[]⟩,.str ⟨#[]⟩,.str ⟨#[]⟩,.str ⟨#[]⟩,.str ⟨#[]⟩,.str ⟨#[]⟩,.str ⟨#[]⟩,.str ⟨#[]⟩,.str ⟨#[]⟩,.str ⟨#[]⟩,.str ⟨#[]⟩,.str ⟨#[]⟩,.str ⟨#[]⟩,.str ⟨#[]⟩,.str ⟨#[]⟩,.str ⟨#[]⟩,.str ⟨#[]⟩,.str ⟨#[]⟩,.str ⟨#[]⟩,.str ⟨#[]⟩,.str ⟨#[]⟩,.str ⟨#[]⟩,.str ⟨#[]⟩,.str ⟨#[]⟩,.str ⟨#[]⟩,.str ⟨#[]⟩,.str ⟨#[]⟩,.str ⟨#[]⟩,.str ⟨#[]⟩,.str ⟨#[]⟩,.str ⟨#[]⟩,.str ⟨#[]⟩,.str ⟨#[]⟩,.str ⟨#[]⟩,.str ⟨#[]⟩,.str ⟨#[]⟩,.str ⟨#[]⟩,.str ⟨#[]⟩,.str ⟨#[]⟩,.str ⟨#[]⟩,.str ⟨#[]⟩,.str ⟨#[]⟩,.str ⟨#[]⟩,.str ⟨#[]⟩,.str ⟨#[]⟩,.str ⟨#[]⟩,.str ⟨#[]⟩,.str ⟨#[]⟩,.str ⟨#[]⟩,.str ⟨#[]⟩,.str ⟨#[]⟩,.str ⟨#[]⟩,.str ⟨#[]⟩,.str ⟨#[]⟩,.str ⟨#[]⟩,.str ⟨#[]⟩,.str ⟨#[]⟩,.str ⟨#[]⟩,.str ⟨#[]⟩,.str ⟨#[]⟩,.str ⟨#[]⟩,.str ⟨#[]⟩,.str ⟨#[]⟩,.str ⟨#[]⟩,.str ⟨#[]⟩,.str ⟨#[]⟩,.str ⟨#[]⟩,.str ⟨#[]⟩,.str ⟨#[]⟩,.str ⟨#[]⟩,.str ⟨#[]⟩,.str ⟨#[]⟩,.str ⟨#[]⟩]:=⟨_,_,_,underlying227,zeroValue227,sizeOf189,rfl⟩
variable {E:World}
set_option maxRecDepth 20000
def gz:List (ByteArray × ByteArray × ByteArray):=[(⟨#[99,111,110,115,116]⟩,⟨#[]⟩,⟨#[105]⟩),
 (⟨#[99,111,112,121]⟩,⟨#[105]⟩,⟨#[105]⟩),
 (⟨#[97,100,100]⟩,⟨#[105,105]⟩,⟨#[105]⟩),
 (⟨#[115,117,98]⟩,⟨#[105,105]⟩,⟨#[105]⟩),
 (⟨#[109,117,108]⟩,⟨#[105,105]⟩,⟨#[105]⟩),
 (⟨#[100,105,118]⟩,⟨#[105,105]⟩,⟨#[105]⟩),
 (⟨#[114,101,109]⟩,⟨#[105,105]⟩,⟨#[105]⟩),
 (⟨#[101,113]⟩,⟨#[105,105]⟩,⟨#[98]⟩),
 (⟨#[108,116]⟩,⟨#[105,105]⟩,⟨#[98]⟩),
 (⟨#[108,101]⟩,⟨#[105,105]⟩,⟨#[98]⟩),
 (⟨#[110,111,116]⟩,⟨#[98]⟩,⟨#[98]⟩),
 (⟨#[97,110,100]⟩,⟨#[98,98]⟩,⟨#[98]⟩),
 (⟨#[108,101,110]⟩,⟨#[97]⟩,⟨#[105]⟩),
 (⟨#[108,111,97,100]⟩,⟨#[97,105]⟩,⟨#[105]⟩),
 (⟨#[115,116,111,114,101]⟩,⟨#[97,105,105]⟩,⟨#[]⟩),
 (⟨#[110,101,119]⟩,⟨#[105]⟩,⟨#[97]⟩),
 (⟨#[110,105,108]⟩,⟨#[]⟩,⟨#[97]⟩),
 (⟨#[111,117,116]⟩,⟨#[105]⟩,⟨#[]⟩),
 (⟨#[99,104,107,105,100,120]⟩,⟨#[97,105]⟩,⟨#[]⟩),
 (⟨#[99,104,107,110,105,108]⟩,⟨#[97]⟩,⟨#[]⟩),
 (⟨#[99,104,107,100,105,118]⟩,⟨#[105]⟩,⟨#[]⟩),
 (⟨#[99,104,107,97,100,100]⟩,⟨#[105,105]⟩,⟨#[]⟩),
 (⟨#[99,104,107,115,117,98]⟩,⟨#[105,105]⟩,⟨#[]⟩),
 (⟨#[99,104,107,109,117,108]⟩,⟨#[105,105]⟩,⟨#[]⟩),
 (⟨#[99,104,107,108,101,110]⟩,⟨#[105]⟩,⟨#[]⟩),
 (⟨#[112,105]⟩,⟨#[105,105]⟩,⟨#[105]⟩),
 (⟨#[112,105,108,101,110]⟩,⟨#[105,97]⟩,⟨#[105]⟩)]
def b9 (op:Int):ByteArray × ByteArray × ByteArray:=if 0≤op then gz[op.toNat]?.getD (⟨#[]⟩,⟨#[]⟩,⟨#[]⟩) else (⟨#[]⟩,⟨#[]⟩,⟨#[]⟩)
def sE (op:Int):Bool:=decide (0≤op)&&decide (op<27)
def sF (r:ByteArray × ByteArray × ByteArray):List AV:=[.str r.1,.str r.2.1,.str r.2.2]
theorem HV (op:Int):aJ prog E 138 [.int .i64 op] (.bool (sE op)):=by
 refine zo func138 rfl (by decide) rfl ?_
 refine zc ?_
 refine yh rfl ?_
 refine za (yi (v:=.bool _) rfl) ?_
 refine z6 ?_
 refine zc ?_
 refine yh rfl ?_
 refine za (yl (v:=.int _ _) rfl) ?_
 refine za (qa rfl rfl) ?_
 refine za (yl (v:=.bool _) rfl) ?_
 refine zm (s:=5) rfl (fun c1=>?_) (fun c1=>?_)
 ·refine z8 rfl rfl c1 ?_
  refine za (yl (v:=.int _ _) rfl) ?_
  refine z8 rfl rfl c1 ?_
  refine za (Gv.lss rfl rfl) ?_
  refine za (Gv.pickT (v:=.bool _) rfl c1 rfl) ?_
  refine za (yi (v:=.bool _) rfl) ?_
  refine z6 ?_
  refine zg ?_
  repeat (first|refine br ?_|refine aZ ?_)
  refine zk (x:=.bool _) rfl ?_
  simp_all[sE]<;>omega
 ·refine z7 rfl rfl c1 ?_
  refine z7 rfl rfl c1 ?_
  refine za (Gv.pickF (v:=.bool _) rfl c1 rfl) ?_
  refine za (yi (v:=.bool _) rfl) ?_
  refine z6 ?_
  refine zg ?_
  repeat (first|refine br ?_|refine aZ ?_)
  refine zk (x:=.bool _) rfl ?_
  simp_all[sE]<;>omega
set_option maxHeartbeats 4000000 in
theorem zH:aJ prog E 139 [] (.agg (gz.flatMap sF)):=by
 refine zo func139 rfl (by decide) rfl ?_
 refine zc ?_
 refine yh rfl ?_
 refine zy (cs:=[.str ⟨#[]⟩,.str ⟨#[]⟩,.str ⟨#[]⟩,.str ⟨#[]⟩,.str ⟨#[]⟩,.str ⟨#[]⟩,.str ⟨#[]⟩,.str ⟨#[]⟩,.str ⟨#[]⟩,.str ⟨#[]⟩,.str ⟨#[]⟩,.str ⟨#[]⟩,.str ⟨#[]⟩,.str ⟨#[]⟩,.str ⟨#[]⟩,.str ⟨#[]⟩,.str ⟨#[]⟩,.str ⟨#[]⟩,.str ⟨#[]⟩,.str ⟨#[]⟩,.str ⟨#[]⟩,.str ⟨#[]⟩,.str ⟨#[]⟩,.str ⟨#[]⟩,.str ⟨#[]⟩,.str ⟨#[]⟩,.str ⟨#[]⟩,.str ⟨#[]⟩,.str ⟨#[]⟩,.str ⟨#[]⟩,.str ⟨#[]⟩,.str ⟨#[]⟩,.str ⟨#[]⟩,.str ⟨#[]⟩,.str ⟨#[]⟩,.str ⟨#[]⟩,.str ⟨#[]⟩,.str ⟨#[]⟩,.str ⟨#[]⟩,.str ⟨#[]⟩,.str ⟨#[]⟩,.str ⟨#[]⟩,.str ⟨#[]⟩,.str ⟨#[]⟩,.str ⟨#[]⟩,.str ⟨#[]⟩,.str ⟨#[]⟩,.str ⟨#[]⟩,.str ⟨#[]⟩,.str ⟨#[]⟩,.str ⟨#[]⟩,.str ⟨#[]⟩,.str ⟨#[]⟩,.str ⟨#[]⟩,.str ⟨#[]⟩,.str ⟨#[]⟩,.str ⟨#[]⟩,.str ⟨#[]⟩,.str ⟨#[]⟩,.str ⟨#[]⟩,.str ⟨#[]⟩,.str ⟨#[]⟩,.str ⟨#[]⟩,.str ⟨#[]⟩,.str ⟨#[]⟩,.str ⟨#[]⟩,.str ⟨#[]⟩,.str ⟨#[]⟩,.str ⟨#[]⟩,.str ⟨#[]⟩,.str ⟨#[]⟩,.str ⟨#[]⟩,.str ⟨#[]⟩,.str ⟨#[]⟩,.str ⟨#[]⟩,.str ⟨#[]⟩,.str ⟨#[]⟩,.str ⟨#[]⟩,.str ⟨#[]⟩,.str ⟨#[]⟩,.str ⟨#[]⟩]) zeroValue227 rfl rfl ?_
 intro i0
 refine z6 ?_
 refine zc ?_
 refine yh rfl ?_
 refine za (zz (cps:=[(0,[_]),(1,[_]),(2,[_])]) (rs:=[_,_,_]) dR rfl rfl rfl) ?_
 refine za (zz (cps:=[(0,[_]),(1,[_]),(2,[_])]) (rs:=[_,_,_]) dR rfl rfl rfl) ?_
 refine za (zz (cps:=[(0,[_]),(1,[_]),(2,[_])]) (rs:=[_,_,_]) dR rfl rfl rfl) ?_
 refine za (zz (cps:=[(0,[_]),(1,[_]),(2,[_])]) (rs:=[_,_,_]) dR rfl rfl rfl) ?_
 refine za (zz (cps:=[(0,[_]),(1,[_]),(2,[_])]) (rs:=[_,_,_]) dR rfl rfl rfl) ?_
 refine za (zz (cps:=[(0,[_]),(1,[_]),(2,[_])]) (rs:=[_,_,_]) dR rfl rfl rfl) ?_
 refine za (zz (cps:=[(0,[_]),(1,[_]),(2,[_])]) (rs:=[_,_,_]) dR rfl rfl rfl) ?_
 refine za (zz (cps:=[(0,[_]),(1,[_]),(2,[_])]) (rs:=[_,_,_]) dR rfl rfl rfl) ?_
 refine za (zz (cps:=[(0,[_]),(1,[_]),(2,[_])]) (rs:=[_,_,_]) dR rfl rfl rfl) ?_
 refine za (zz (cps:=[(0,[_]),(1,[_]),(2,[_])]) (rs:=[_,_,_]) dR rfl rfl rfl) ?_
 refine za (zz (cps:=[(0,[_]),(1,[_]),(2,[_])]) (rs:=[_,_,_]) dR rfl rfl rfl) ?_
 refine za (zz (cps:=[(0,[_]),(1,[_]),(2,[_])]) (rs:=[_,_,_]) dR rfl rfl rfl) ?_
 refine za (zz (cps:=[(0,[_]),(1,[_]),(2,[_])]) (rs:=[_,_,_]) dR rfl rfl rfl) ?_
 refine za (zz (cps:=[(0,[_]),(1,[_]),(2,[_])]) (rs:=[_,_,_]) dR rfl rfl rfl) ?_
 refine za (zz (cps:=[(0,[_]),(1,[_]),(2,[_])]) (rs:=[_,_,_]) dR rfl rfl rfl) ?_
 refine za (zz (cps:=[(0,[_]),(1,[_]),(2,[_])]) (rs:=[_,_,_]) dR rfl rfl rfl) ?_
 refine za (zz (cps:=[(0,[_]),(1,[_]),(2,[_])]) (rs:=[_,_,_]) dR rfl rfl rfl) ?_
 refine za (zz (cps:=[(0,[_]),(1,[_]),(2,[_])]) (rs:=[_,_,_]) dR rfl rfl rfl) ?_
 refine za (zz (cps:=[(0,[_]),(1,[_]),(2,[_])]) (rs:=[_,_,_]) dR rfl rfl rfl) ?_
 refine za (zz (cps:=[(0,[_]),(1,[_]),(2,[_])]) (rs:=[_,_,_]) dR rfl rfl rfl) ?_
 refine za (zz (cps:=[(0,[_]),(1,[_]),(2,[_])]) (rs:=[_,_,_]) dR rfl rfl rfl) ?_
 refine za (zz (cps:=[(0,[_]),(1,[_]),(2,[_])]) (rs:=[_,_,_]) dR rfl rfl rfl) ?_
 refine za (zz (cps:=[(0,[_]),(1,[_]),(2,[_])]) (rs:=[_,_,_]) dR rfl rfl rfl) ?_
 refine za (zz (cps:=[(0,[_]),(1,[_]),(2,[_])]) (rs:=[_,_,_]) dR rfl rfl rfl) ?_
 refine za (zz (cps:=[(0,[_]),(1,[_]),(2,[_])]) (rs:=[_,_,_]) dR rfl rfl rfl) ?_
 refine za (zz (cps:=[(0,[_]),(1,[_]),(2,[_])]) (rs:=[_,_,_]) dR rfl rfl rfl) ?_
 refine za (zz (cps:=[(0,[_]),(1,[_]),(2,[_])]) (rs:=[_,_,_]) dR rfl rfl rfl) ?_
 refine za (Gv.buildAF (xs:=[[_,_,_],[_,_,_],[_,_,_],[_,_,_],[_,_,_],[_,_,_],[_,_,_],[_,_,_],[_,_,_],[_,_,_],[_,_,_],[_,_,_],[_,_,_],[_,_,_],[_,_,_],[_,_,_],[_,_,_],[_,_,_],[_,_,_],[_,_,_],[_,_,_],[_,_,_],[_,_,_],[_,_,_],[_,_,_],[_,_,_],[_,_,_]]) LI rfl rfl rfl rfl) ?_
 refine az.storeW sizeOf227 rfl rfl rfl rfl rfl rfl .head rfl ?_
 refine z6 ?_
 refine zg ?_
 repeat (first|refine br ?_|refine aZ ?_)
 refine yw rfl ⟨_,.head⟩ isAgg227 sizeOf227 rfl ?_
 rfl
theorem vI {op:Int} (h:sE op=false):b9 op=(⟨#[]⟩,⟨#[]⟩,⟨#[]⟩):=by
 unfold sE at h
 unfold b9
 split
 ·rename_i h0
  have:¬op<27:=by simpa [h0] using h
  rw[List.getElem?_eq_none (by show 27≤_;omega)];rfl
 ·rfl
theorem HW {op:Int} (h:sE op=true):∃j:Nat,op=(j:Int)∧j<27∧((gz.flatMap sF).drop (j*3)).take 3=sF (b9 op):=by
 unfold sE at h
 simp at h
 obtain ⟨j,rfl⟩:∃j:Nat,op=j:=⟨op.toNat,by omega⟩
 have hj:j<27:=by omega
 refine ⟨j,rfl,hj,Bj (enc:=sF) (k:=3) (fun _=>rfl) _ _ ?_⟩
 unfold b9
 rw[if_pos h.1,Int.toNat_natCast,List.getElem?_eq_getElem (show j<gz.length from hj)];rfl
theorem pn (op:Int):aJ prog E 99 [.int .i64 op] (.agg (sF (b9 op))):=by
 refine zo func99 rfl (by decide) rfl ?_
 refine zc ?_
 refine yh rfl ?_
 refine zy (cs:=[.str ⟨#[]⟩,.str ⟨#[]⟩,.str ⟨#[]⟩]) zeroValue189 rfl rfl ?_
 intro i2
 refine z6 ?_
 refine zc ?_
 refine zc ?_
 refine yh rfl ?_
 refine za (yl (v:=.int _ _) rfl) ?_
 refine az.callP (HV _) rfl ?_
 refine za (Gv.not rfl) ?_
 refine z6 ?_
 refine zt rfl (fun c=>?_) (fun c=>?_)
 ·have c:sE op=false:=by simpa using c
  rw[vI c]
  refine zc ?_
  refine yh rfl ?_
  refine za (zz (cps:=[]) (rs:=[.str ⟨#[]⟩,.str ⟨#[]⟩,.str ⟨#[]⟩]) dR rfl rfl rfl) ?_
  refine az.storeW sizeOf189 rfl rfl rfl rfl rfl rfl .head rfl ?_
  refine z6 ?_
  refine zg ?_
  repeat (first|refine br ?_|refine aZ ?_)
  refine yw rfl ⟨_,.head⟩ isAgg189 sizeOf189 rfl ?_
  rfl
 ·have c:sE op=true:=by simpa using c
  obtain ⟨j,hj1,hj2,hj3⟩:=HW c
  refine zd ?_
  refine zc ?_
  refine yh rfl ?_
  refine az.callP (zH) rfl ?_
  refine za (yl (v:=.int _ _) rfl) ?_
  refine za (Gv.indexA underlying227 isAgg189 sizeOf189 rfl rfl hj1 hj2 hj3) ?_
  refine az.storeW sizeOf189 rfl rfl rfl rfl rfl rfl .head rfl ?_
  refine z6 ?_
  refine zg ?_
  repeat (first|refine br ?_|refine aZ ?_)
  refine yw rfl ⟨_,.head⟩ isAgg189 sizeOf189 rfl ?_
  rfl
theorem Dd (op:Int):aJ prog E 203 [.int .i64 op] (.str (b9 op).1):=by
 refine zo func203 rfl (by decide) rfl ?_
 refine zc ?_
 refine yh rfl ?_
 refine za (yi (v:=.str _) rfl) ?_
 refine z6 ?_
 refine zc ?_
 refine yh rfl ?_
 refine za (yl (v:=.int _ _) rfl) ?_
 refine az.callP (pn _) rfl ?_
 refine za (Gv.field1 (v:=.str _) underlying189 rfl isAgg9 rfl rfl) ?_
 refine za (yi (v:=.str _) rfl) ?_
 refine z6 ?_
 refine zg ?_
 repeat (first|refine br ?_|refine aZ ?_)
 refine zk (x:=.str _) rfl ?_
 rfl
def pT (op:Int):Bool:=decide (op=0)||decide (op=25)
theorem gv (op:Int):aJ prog E 204 [.int .i64 op] (.bool (pT op)):=by
 refine zo func204 rfl (by decide) rfl ?_
 refine zc ?_
 refine yh rfl ?_
 refine za (yi (v:=.bool _) rfl) ?_
 refine z6 ?_
 refine zc ?_
 refine yh rfl ?_
 refine za (yl (v:=.int _ _) rfl) ?_
 refine za (Gv.eqlI rfl rfl) ?_
 refine za (yl (v:=.bool _) rfl) ?_
 refine zm (s:=5) rfl (fun c2=>?_) (fun c2=>?_)
 ·refine z7 rfl rfl c2 ?_
  refine z7 rfl rfl c2 ?_
  refine za (Gv.pickT (v:=.bool _) rfl c2 rfl) ?_
  refine za (yi (v:=.bool _) rfl) ?_
  refine z6 ?_
  refine zg ?_
  repeat (first|refine br ?_|refine aZ ?_)
  refine zk (x:=.bool _) rfl ?_
  simp_all[pT]
 ·refine z8 rfl rfl c2 ?_
  refine za (yl (v:=.int _ _) rfl) ?_
  refine z8 rfl rfl c2 ?_
  refine za (Gv.eqlI rfl rfl) ?_
  refine za (Gv.pickF (v:=.bool _) rfl c2 rfl) ?_
  refine za (yi (v:=.bool _) rfl) ?_
  refine z6 ?_
  refine zg ?_
  repeat (first|refine br ?_|refine aZ ?_)
  refine zk (x:=.bool _) rfl ?_
  simp_all[pT]
def d6 (c:Int):Int:=if c=98 then 1 else if c=97 then 2 else 0
theorem pU (c:Int):aJ prog E 100 [.int .i32 c] (.int .i64 (d6 c)):=by
 refine zo func100 rfl (by decide) rfl ?_
 refine zc ?_
 refine yh rfl ?_
 refine za (yi (v:=.int _ _) rfl) ?_
 refine z6 ?_
 refine zc ?_
 refine zc ?_
 refine yh rfl ?_
 refine za (yl (v:=.int _ _) rfl) ?_
 refine z6 ?_
 refine zh ?_
 refine zc ?_
 refine yh rfl ?_
 refine za (Gv.eqlI rfl rfl) ?_
 refine za (yi (v:=.bool _) rfl) ?_
 refine z6 ?_
 refine zt rfl (fun c3=>?_) (fun c3=>?_)
 ·refine zc ?_
  refine yh rfl ?_
  refine za (yi (v:=.int _ _) rfl) ?_
  refine z6 ?_
  refine zg ?_
  repeat (first|refine br ?_|refine aZ ?_)
  refine zk (x:=.int _ _) rfl ?_
  simp_all[d6]
 ·refine zc ?_
  refine yh rfl ?_
  refine za (Gv.eqlI rfl rfl) ?_
  refine za (yi (v:=.bool _) rfl) ?_
  refine z6 ?_
  refine zt rfl (fun c4=>?_) (fun c4=>?_)
  ·refine zc ?_
   refine yh rfl ?_
   refine za (yi (v:=.int _ _) rfl) ?_
   refine z6 ?_
   refine zg ?_
   repeat (first|refine br ?_|refine aZ ?_)
   refine zk (x:=.int _ _) rfl ?_
   simp_all[d6]
  ·refine zd ?_
   refine zc ?_
   refine yh rfl ?_
   refine za (yi (v:=.int _ _) rfl) ?_
   refine z6 ?_
   refine zg ?_
   repeat (first|refine br ?_|refine aZ ?_)
   refine zk (x:=.int _ _) rfl ?_
   simp_all[d6]
theorem E1:∀r∈gz,(∀b∈r.2.1.data.toList,b<128)∧(∀b∈r.2.2.data.toList,b<128):=by decide
theorem m1 (op:Int):b9 op=(⟨#[]⟩,⟨#[]⟩,⟨#[]⟩)∨b9 op∈gz:=by
 unfold b9
 split
 ·cases h:gz[op.toNat]? with
  |none=>exact .inl rfl
  |some r=>exact .inr (List.mem_of_getElem? h)
 ·exact .inl rfl
theorem pV (op:Int):(∀b∈(b9 op).2.1.data.toList,b<128)∧(∀b∈(b9 op).2.2.data.toList,b<128):=by
 rcases m1 op with h|h
 ·rw[h];simp
 ·exact E1 _ h
def bq (op:Int):List Int:=(b9 op).2.1.data.toList.map fun b=>d6 b.toNat
def mm (op:Int):Int:=((b9 op).2.2.data.toList.head?.map fun b=>d6 b.toNat).getD 0
def eK (op:Int):Bool:=!(b9 op).2.2.data.toList.isEmpty
end
section
open Go.Proofs.Tryz
open Go.Proofs
theorem HX:dM prog 136 38 1 1 [.int .i64 0]:=⟨_,underlying136,sizeOf38,zeroValue38,by decide,by decide,by kernel_rfl⟩
variable {E:World}
set_option maxRecDepth 20000
structure vJ where
 name:ByteArray
 ty:Int
deriving DecidableEq
structure cS where
 dst:Int
 args:List Int
 from_:List Int
deriving DecidableEq
structure aN where
 op:Int
 dst:Int
 args:List Int
 num:Int
deriving DecidableEq
structure gA where
 kind:Int
 var:Int
 to0:Int
 to1:Int
deriving DecidableEq
structure bc where
 name:ByteArray
 phis:List cS
 insts:List aN
 term:gA
deriving DecidableEq
structure ad where
 vars:List vJ
 params:List Int
 blocks:List bc
deriving DecidableEq
def fa (x:Int):List AV:=[.int .i64 x]
def nQ (v:vJ):List AV:=[.str v.name,.int .i64 v.ty]
def dg (p:cS):List AV:=[.int .i64 p.dst,.fro 1 (p.args.map fa),.fro 1 (p.from_.map fa)]
def cK (x:aN):List AV:=[.int .i64 x.op,.int .i64 x.dst,.fro 1 (x.args.map fa),.int .i64 x.num]
def pp (t:gA):List AV:=[.int .i64 t.kind,.int .i64 t.var,.int .i64 t.to0,.int .i64 t.to1]
def d7 (b:bc):List AV:=[.str b.name,.fro 3 (b.phis.map dg),.fro 4 (b.insts.map cK),.int .i64 b.term.kind,.int .i64 b.term.var,.int .i64 b.term.to0,.int .i64 b.term.to1]
def bL (f:ad):List AV:=[.fro 2 (f.vars.map nQ),.fro 1 (f.params.map fa),.fro 7 (f.blocks.map d7)]
theorem pW (op:Int):aJ prog E 59 [.int .i64 op] (.fro 1 ((bq op).map fa)):=by
 obtain ⟨hasc,_⟩:=pV op
 have hl:(bq op).length=(b9 op).2.1.size:=by unfold bq;rw[List.length_map];exact Array.length_toList
 have hlen:(bq op).length≤3:=by
  rcases m1 op with h|h
  ·unfold bq;rw[h];decide
  ·have:∀r∈gz,r.2.1.data.toList.length≤3:=by decide
   have:=this _ h
   unfold bq;simpa using this
 refine zo func59 rfl (by decide) rfl ?_
 refine zc ?_
 refine yh rfl ?_
 refine za (yi (v:=.raw _) rfl) ?_
 refine z6 ?_
 refine zc ?_
 refine yh rfl ?_
 refine za (yi (v:=.raw _) rfl) ?_
 refine z6 ?_
 refine dh (t:=3) (k:=1) (T:=38) rfl ?_
 intro i3
 refine zc ?_
 refine zc ?_
 refine yh rfl ?_
 refine za (yl (v:=.int _ _) rfl) ?_
 refine az.callP (pn _) rfl ?_
 refine za (Gv.field1 (v:=.str _) underlying189 rfl isAgg9 rfl rfl) ?_
 refine az.rangeT underlying9 rfl ?_
 intro i9
 refine z6 ?_
 refine zh ?_
 refine ya (γ:=Nat × Nat) [9] (fun g=>[(3,.own g.2 g.1)]) (fun g=>[(i9,.iter (b9 op).2.1 g.1),(g.2,.grow 1 38 (((bq op).take g.1).map fa).flatten)]) (fun g=>g.1≤(bq op).length) (fun g=>(bq op).length - g.1) (0,i3) ⟨rfl,trivial⟩ ⟨_,(.refl _),rfl⟩ (Nat.zero_le _) ?_
 rintro ⟨p,i⟩ hp
 try dsimp only at *
 try simp only at hp
 by_cases hlt:p<(bq op).length
 ·have hb:p<(b9 op).2.1.data.toList.length:=by rw[hl] at hlt;exact hlt
  have hg:(b9 op).2.1.data[p]?=some (b9 op).2.1.data.toList[p]:=by rw[Array.getElem_toList];exact Array.getElem?_eq_getElem hb
  refine zc ?_
  refine yh rfl ?_
  refine az.nextA rfl hg (hasc _ (List.getElem_mem hb)) .head ?_
  refine za (yy (v:=.bool _) rfl rfl) ?_
  refine z6 ?_
  refine zc ?_
  refine yt rfl rfl ?_
  have ht:(bq op).take (p+1)=(bq op).take p++[d6 ((b9 op).2.1.data.toList[p]).toNat]:=by
   rw[List.take_succ_eq_append_getElem hlt]
   have:(bq op)[p]=d6 ((b9 op).2.1.data.toList[p]).toNat:=List.getElem_map _
   rw[this]
  refine zd ?_
  refine zh ?_
  refine zc ?_
  refine yh rfl ?_
  refine za (yy (v:=.int _ _) rfl rfl) ?_
  refine za (yi (v:=.int _ _) rfl) ?_
  refine z6 ?_
  refine yh rfl ?_
  refine za (yl (v:=.own _ _) rfl) ?_
  refine za (yl (v:=.int _ _) rfl) ?_
  refine az.callP (pU _) rfl ?_
  refine az.buildSliceFF (rows:=[[_]]) HX rfl rfl rfl rfl rfl ?_
  refine az.appendS (k:=1) underlying136 type38 rfl rfl rfl rfl rfl (fun _=>(.tail .head)) (by rw[mZ (k:=1) (fun _=>rfl),List.length_take,Nat.min_eq_left hp]) (by decide) rfl (by show (_+_)*8≤_;simp<;>omega) (by simp<;>omega) ?_
  intro i17
  refine za (yi (v:=.own _ _) rfl) ?_
  refine z6 ?_
  exact ⟨(p+1,i17),⟨rfl,trivial⟩,⟨rfl,trivial⟩,⟨_,(.refl _),by rw[←lE ht];rfl⟩,hlt,by simp only;omega⟩
 ·refine zc ?_
  refine yh rfl ?_
  refine az.nextTover rfl .head (by rw[←hl];exact hlt) ?_
  refine za (yy (v:=.bool _) rfl rfl) ?_
  refine z6 ?_
  refine zc ?_
  refine yj rfl rfl ?_
  have hkn:p=(bq op).length:=by omega
  subst hkn
  rw[List.take_length]
  refine y9 ?_
  refine zc ?_
  refine yh rfl ?_
  refine za (yl (v:=.own _ _) rfl) ?_
  refine za (yi (v:=.own _ _) rfl) ?_
  refine z6 ?_
  refine zg ?_
  repeat (first|refine br ?_|refine aZ ?_)
  refine aK.fin (aK.know (t:=2) (rows:=(bq op).map fa) rfl (.tail .head) (by first|(intro r hr;obtain ⟨x,_,rfl⟩:=List.mem_map.1 hr;rfl)|simp[fa,nQ,dg,cK,d7]) (by decide) (by simp)) ?_
  refine zk (x:=.fro _ _) rfl ?_
  rfl
theorem pX (op:Int):aJ prog E 169 [.int .i64 op] (.tup [.int .i64 (mm op),.bool (eK op)]):=by
 obtain ⟨_,hasc⟩:=pV op
 refine zo func169 rfl (by decide) rfl ?_
 refine zc ?_
 refine yh rfl ?_
 refine za (yi (v:=.int _ _) rfl) ?_
 refine za (yi (v:=.bool _) rfl) ?_
 refine z6 ?_
 refine zc ?_
 refine zc ?_
 refine yh rfl ?_
 refine za (yl (v:=.int _ _) rfl) ?_
 refine az.callP (pn _) rfl ?_
 refine za (Gv.field1 (v:=.str _) underlying189 rfl isAgg9 rfl rfl) ?_
 refine az.rangeT underlying9 rfl ?_
 intro i9
 refine z6 ?_
 refine zh ?_
 refine ya (γ:=Unit) [9] (fun g=>[]) (fun g=>[(i9,.iter (b9 op).2.2 0)]) (fun g=>True) (fun g=>0) () trivial ⟨_,(.refl _),rfl⟩ (trivial) ?_
 rintro _ _
 by_cases hlt:∃c0 tl,(b9 op).2.2.data.toList=c0::tl
 ·obtain ⟨c0,tl,hk⟩:=hlt
  have hg:(b9 op).2.2.data[0]?=some c0:=by rw[←Array.getElem?_toList,hk];rfl
  refine zc ?_
  refine yh rfl ?_
  refine az.nextA rfl hg (hasc _ (by rw[hk];exact .head _)) .head ?_
  refine za (yy (v:=.bool _) rfl rfl) ?_
  refine z6 ?_
  refine zc ?_
  refine yt rfl rfl ?_
  refine zd ?_
  refine zh ?_
  refine zc ?_
  refine yh rfl ?_
  refine za (yy (v:=.int _ _) rfl rfl) ?_
  refine za (yi (v:=.int _ _) rfl) ?_
  refine z6 ?_
  refine zc ?_
  refine yh rfl ?_
  refine za (yl (v:=.int _ _) rfl) ?_
  refine az.callP (pU _) rfl ?_
  refine za (yi (v:=.int _ _) rfl) ?_
  refine za (yi (v:=.bool _) rfl) ?_
  refine z6 ?_
  refine zg ?_
  repeat (first|refine br ?_|refine aZ ?_)
  refine qb (x:=.int _ _) (y:=.bool _) rfl rfl ?_
  unfold mm eK;rw[hk];rfl
 ·have hk:(b9 op).2.2.data.toList=[]:=by
   cases h:(b9 op).2.2.data.toList with
   |nil=>rfl
   |cons x l=>exact absurd ⟨x,l,h⟩ hlt
  refine zc ?_
  refine yh rfl ?_
  refine az.nextTover rfl .head (by show ¬0<(b9 op).2.2.data.size;rw[←Array.length_toList,hk];decide) ?_
  refine za (yy (v:=.bool _) rfl rfl) ?_
  refine z6 ?_
  refine zc ?_
  refine yj rfl rfl ?_
  refine y9 ?_
  refine zc ?_
  refine yh rfl ?_
  refine za (yi (v:=.int _ _) rfl) ?_
  refine za (yi (v:=.bool _) rfl) ?_
  refine z6 ?_
  refine zg ?_
  repeat (first|refine br ?_|refine aZ ?_)
  refine qb (x:=.int _ _) (y:=.bool _) rfl rfl ?_
  unfold mm eK;rw[hk];rfl
def bz (f:ad) (v:Int):Bool:=decide (0≤v)&&decide (v<f.vars.length)
def eZ (f:ad) (b:Int):Bool:=decide (0≤b)&&decide (b<f.blocks.length)
theorem k8 (f:ad) (v:Int):aJ prog E 198 [.agg (bL f),.int .i64 v] (.bool (bz f v)):=by
 refine zo func198 rfl (by decide) rfl ?_
 refine zc ?_
 refine yh rfl ?_
 refine yb (cs:=_) rfl rfl rfl ?_
 refine za (yi (v:=.bool _) rfl) ?_
 refine z6 ?_
 refine zc ?_
 refine yh rfl ?_
 refine za (yl (v:=.int _ _) rfl) ?_
 refine za (qa rfl rfl) ?_
 refine za (yl (v:=.bool _) rfl) ?_
 refine zm (s:=7) rfl (fun c1=>?_) (fun c1=>?_)
 ·refine z8 rfl rfl c1 ?_
  refine za (yl (v:=.int _ _) rfl) ?_
  refine z8 rfl rfl c1 ?_
  refine za (Gv.fieldF underlying26 rfl sizeOf22 (by decide) rfl rfl) ?_
  refine z8 rfl rfl c1 ?_
  refine za (yo (c:=.fro _ _) isAgg22 rfl) ?_
  refine z8 rfl rfl c1 ?_
  refine za (Gv.lenM underlying22 rfl) ?_
  refine z8 rfl rfl c1 ?_
  refine za (Gv.lss rfl rfl) ?_
  refine za (Gv.pickT (v:=.bool _) rfl c1 rfl) ?_
  refine za (yi (v:=.bool _) rfl) ?_
  refine z6 ?_
  refine zg ?_
  repeat (first|refine br ?_|refine aZ ?_)
  refine zk (x:=.bool _) rfl ?_
  simp_all[bz]<;>omega
 ·refine z7 rfl rfl c1 ?_
  refine z7 rfl rfl c1 ?_
  refine z7 rfl rfl c1 ?_
  refine z7 rfl rfl c1 ?_
  refine z7 rfl rfl c1 ?_
  refine za (Gv.pickF (v:=.bool _) rfl c1 rfl) ?_
  refine za (yi (v:=.bool _) rfl) ?_
  refine z6 ?_
  refine zg ?_
  repeat (first|refine br ?_|refine aZ ?_)
  refine zk (x:=.bool _) rfl ?_
  simp_all[bz]<;>omega
theorem pq (f:ad) (v:Int):aJ prog E 201 [.agg (bL f),.int .i64 v] (.bool (eZ f v)):=by
 refine zo func201 rfl (by decide) rfl ?_
 refine zc ?_
 refine yh rfl ?_
 refine yb (cs:=_) rfl rfl rfl ?_
 refine za (yi (v:=.bool _) rfl) ?_
 refine z6 ?_
 refine zc ?_
 refine yh rfl ?_
 refine za (yl (v:=.int _ _) rfl) ?_
 refine za (qa rfl rfl) ?_
 refine za (yl (v:=.bool _) rfl) ?_
 refine zm (s:=7) rfl (fun c2=>?_) (fun c2=>?_)
 ·refine z8 rfl rfl c2 ?_
  refine za (yl (v:=.int _ _) rfl) ?_
  refine z8 rfl rfl c2 ?_
  refine za (Gv.fieldF underlying26 rfl sizeOf24 (by decide) rfl rfl) ?_
  refine z8 rfl rfl c2 ?_
  refine za (yo (c:=.fro _ _) isAgg24 rfl) ?_
  refine z8 rfl rfl c2 ?_
  refine za (Gv.lenM underlying24 rfl) ?_
  refine z8 rfl rfl c2 ?_
  refine za (Gv.lss rfl rfl) ?_
  refine za (Gv.pickT (v:=.bool _) rfl c2 rfl) ?_
  refine za (yi (v:=.bool _) rfl) ?_
  refine z6 ?_
  refine zg ?_
  repeat (first|refine br ?_|refine aZ ?_)
  refine zk (x:=.bool _) rfl ?_
  simp_all[eZ]<;>omega
 ·refine z7 rfl rfl c2 ?_
  refine z7 rfl rfl c2 ?_
  refine z7 rfl rfl c2 ?_
  refine z7 rfl rfl c2 ?_
  refine z7 rfl rfl c2 ?_
  refine za (Gv.pickF (v:=.bool _) rfl c2 rfl) ?_
  refine za (yi (v:=.bool _) rfl) ?_
  refine z6 ?_
  refine zg ?_
  repeat (first|refine br ?_|refine aZ ?_)
  refine zk (x:=.bool _) rfl ?_
  simp_all[eZ]<;>omega
def cU {α:Type} (p:α→Bool):List α→Nat→Int
 |[],_=>-1
 |x::xs,k=>if p x then k else cU p xs (k+1)
theorem fz {α:Type} (p:α→Bool):∀(xs:List α) (k:Nat),decide (0≤cU p xs k)=xs.any p
 |[],k=>rfl
 |x::xs,k=>by
  unfold cU
  rw[List.any_cons]
  split
  ·rename_i h;rw[h];simp
  ·rename_i h;simp[h,fz p xs (k+1)]
theorem bR {α:Type} (p:α→Bool):∀(xs:List α) (k:Nat),k≤xs.length→(xs.take k).all (fun x=>!p x)=true→cU p xs 0=cU p (xs.drop k) k
 |_,0,_,_=>rfl
 |xs,k+1,h,hall=>by
  rw[List.take_succ_eq_append_getElem (by omega),List.all_append] at hall
  simp only[Bool.and_eq_true,List.all_cons,List.all_nil,Bool.and_true] at hall
  rw[bR p xs k (by omega) hall.1,List.drop_eq_getElem_cons (by omega)]
  rw[cU]
  rw[if_neg (by simpa using hall.2)]
theorem oS {p:Int→Bool} {fn:FuncId} {c:List AV} (xs:List Int) (hl:xs.length≤281474976710656) (hp:∀x,aJ prog E fn ([.int .i64 x]++c) (.bool (p x))) :
  aJ prog E 146 [.fro 1 (xs.map fa),.fn fn [] c] (.int .i64 (cU p xs 0)):=by
 refine zo func146 rfl (by decide) rfl ?_
 refine zc ?_
 refine yh rfl ?_
 refine za (yi (v:=.int _ _) rfl) ?_
 refine z6 ?_
 refine zc ?_
 refine zc ?_
 refine yh rfl ?_
 refine za (yl (v:=.fro _ _) rfl) ?_
 refine za (Gv.lenM underlying23 rfl) ?_
 refine za (yl (v:=.int _ _) rfl) ?_
 refine z6 ?_
 refine zh ?_
 refine ya (γ:=Nat) [0,1,7] (fun k=>[(8,.int .i64 k)]) (fun k=>[]) (fun k=>k≤xs.length∧(xs.take k).all (fun x=>!p x)) (fun k=>xs.length - k) 0 ⟨rfl,trivial⟩ ⟨_,(.refl _),rfl⟩ (⟨Nat.zero_le _,rfl⟩) ?_
 rintro k ⟨hk,hall⟩
 refine zc ?_
 refine yh rfl ?_
 refine za (Gv.lss rfl rfl) ?_
 refine z6 ?_
 refine zc ?_
 refine zp rfl (fun ck=>?_) (fun ck=>?_)
 ·have hk2:k<xs.length:=by omega
  refine zd ?_
  refine zc ?_
  refine zh ?_
  refine zc ?_
  refine yh rfl ?_
  refine za (yl (v:=.int _ _) rfl) ?_
  refine za (yi (v:=.int _ _) rfl) ?_
  refine z6 ?_
  refine zc ?_
  refine yh rfl ?_
  refine za (yl (v:=.fn _ _ _) rfl) ?_
  refine za (yl (v:=.fro _ _) rfl) ?_
  refine za (yl (v:=.int _ _) rfl) ?_
  refine za (q9 underlying23 sizeOf3 rfl rfl rfl (List.getElem?_eq_getElem (by omega))) ?_
  refine za (yo (c:=.int _ _) isAgg3 rfl) ?_
  refine az.callVP rfl (hp _) rfl ?_
  refine z6 ?_
  refine zt rfl (fun cp=>?_) (fun cp=>?_)
  ·refine zc ?_
   refine yh rfl ?_
   refine za (yl (v:=.int _ _) rfl) ?_
   refine za (yi (v:=.int _ _) rfl) ?_
   refine z6 ?_
   refine zg ?_
   repeat (first|refine br ?_|refine aZ ?_)
   refine zk (x:=.int _ _) rfl ?_
   rw[bR p xs k hk hall,List.drop_eq_getElem_cons hk2,cU,if_pos cp]
  ·refine zd ?_
   refine yh rfl ?_
   refine za (Gv.add rfl rfl (by unfold nN;omega)) ?_
   refine za (yl (v:=.int _ _) rfl) ?_
   refine z6 ?_
   exact ⟨k+1,⟨rfl,rfl,rfl,trivial⟩,⟨rfl,trivial⟩,⟨_,(.refl _),rfl⟩,⟨hk2,by rw[List.take_succ_eq_append_getElem hk2,List.all_append,hall];simp[cp]⟩,by omega⟩
 ·have hkn:k=xs.length:=by omega
  refine y9 ?_
  refine zc ?_
  refine yh rfl ?_
  refine za (yi (v:=.int _ _) rfl) ?_
  refine z6 ?_
  refine zg ?_
  repeat (first|refine br ?_|refine aZ ?_)
  refine zk (x:=.int _ _) rfl ?_
  rw[bR p xs k hk hall,hkn,List.drop_length,cU]
theorem ip {p:Int→Bool} {fn:FuncId} {c:List AV} (xs:List Int) (hl:xs.length≤281474976710656) (hp:∀x,aJ prog E fn ([.int .i64 x]++c) (.bool (p x))) :
  aJ prog E 107 [.fro 1 (xs.map fa),.fn fn [] c] (.bool (xs.any p)):=by
 refine zo func107 rfl (by decide) rfl ?_
 refine zc ?_
 refine yh rfl ?_
 refine za (yi (v:=.bool _) rfl) ?_
 refine z6 ?_
 refine zc ?_
 refine yh rfl ?_
 refine za (yl (v:=.fro _ _) rfl) ?_
 refine za (yl (v:=.fn _ _ _) rfl) ?_
 refine az.callP (oS xs hl hp) rfl ?_
 refine za (qa rfl rfl) ?_
 refine za (yi (v:=.bool _) rfl) ?_
 refine z6 ?_
 refine zg ?_
 repeat (first|refine br ?_|refine aZ ?_)
 refine zk (x:=.bool _) rfl ?_
 rw[fz]
theorem zI (f:ad) (v:Int):aJ prog E 220 ([.int .i64 v]++[.pf (bL f)]) (.bool (!bz f v)):=by
 refine zo func220 rfl (by decide) rfl ?_
 refine zc ?_
 refine yh rfl ?_
 refine za (yi (v:=.bool _) rfl) ?_
 refine z6 ?_
 refine zc ?_
 refine yh rfl ?_
 refine za (yk isAgg26 sizeOf26 rfl rfl) ?_
 refine za (yl (v:=.int _ _) rfl) ?_
 refine az.callP (k8 _ _) rfl ?_
 refine za (Gv.not rfl) ?_
 refine za (yi (v:=.bool _) rfl) ?_
 refine z6 ?_
 refine zg ?_
 repeat (first|refine br ?_|refine aZ ?_)
 refine zk (x:=.bool _) rfl ?_
 rfl
theorem tj (f:ad) (l:List Int) (hl:l.length≤281474976710656):aJ prog E 199 [.agg (bL f),.fro 1 (l.map fa)] (.bool (l.all (bz f))):=by
 refine zo func199 rfl (by decide) rfl ?_
 refine zc ?_
 refine yh rfl ?_
 refine yb (cs:=_) rfl rfl rfl ?_
 refine za (yi (v:=.bool _) rfl) ?_
 refine z6 ?_
 refine zc ?_
 refine yh rfl ?_
 refine za (yl (v:=.fro _ _) rfl) ?_
 refine za (Gv.func rfl rfl) ?_
 refine az.callP (ip l hl (zI f)) rfl ?_
 refine za (Gv.not rfl) ?_
 refine za (yi (v:=.bool _) rfl) ?_
 refine z6 ?_
 refine zg ?_
 repeat (first|refine br ?_|refine aZ ?_)
 refine zk (x:=.bool _) rfl ?_
 rw[List.any_eq_not_all_not];simp
end
section
open Go.Proofs.Tryz
def cX (t:gA):List Int:=if t.kind=0 then[t.to0] else if t.kind=1 then (if t.to0=t.to1 then[t.to0] else[t.to0,t.to1]) else[]
theorem tk (t:gA):(cX t).length≤2:=by unfold cX;split<;>(try split)<;>(try split)<;>simp
theorem vK (t:gA):(cX t).Nodup:=by
 unfold cX
 split
 ·simp
 ·split
  ·split<;>simp_all
  ·simp
def ao (f:ad) (b:Int):List Int:=if 0≤b then ((f.blocks[b.toNat]?).map fun c=>cX c.term).getD [] else[]
theorem zJ {f:ad} {k:Nat} (h:k<f.blocks.length):ao f (k:Int)=cX f.blocks[k].term:=by
 unfold ao;rw[if_pos (by omega)]
 rw[show ((k:Int).toNat)=k from rfl,List.getElem?_eq_getElem h];rfl
theorem mn {f:ad} {b:Int} (h0:0≤b) (h:b.toNat<f.blocks.length):ao f b=cX f.blocks[b.toNat].term:=by
 unfold ao;rw[if_pos h0,List.getElem?_eq_getElem h];rfl
theorem zK {f:ad} {b:Int} (h:¬(0≤b∧b<f.blocks.length)):ao f b=[]:=by
 unfold ao
 split
 ·rw[List.getElem?_eq_none (by omega)];rfl
 ·rfl
theorem pY (f:ad) (b:Int):(ao f b).length≤2:=by
 unfold ao
 split
 ·cases f.blocks[b.toNat]? with
  |none=>simp
  |some c=>exact tk c.term
 ·simp
theorem ki (f:ad) (b:Int):(ao f b).Nodup:=by
 unfold ao
 split
 ·cases f.blocks[b.toNat]? with
  |none=>simp
  |some c=>exact vK c.term
 ·simp
structure bF (f:ad):Prop where
 pos:0<f.blocks.length
 rng:∀b∈f.blocks,∀c∈cX b.term,0≤c∧c<f.blocks.length
theorem bF.grph {f:ad} (h:bF f):f8 (ao f) f.blocks.length:=
 {npos:=h.pos
  rng:=fun b h0 h1 c hc=>by
   rw[mn h0 (by omega)] at hc
   exact h.rng _ (List.getElem_mem (by omega)) c hc
  len:=pY f
  out:=fun _ hx=>zK hx }
theorem m2 {E:Int→List Int} (hn:∀b,(E b).Nodup) (n:Nat) (b:Int):(bv E n b).Nodup∧(bv E n b).Pairwise (·<·):=by
 have key:(bv E n b).Pairwise (·<·):=by
  unfold bv
  rw[List.flatMap,List.pairwise_flatten]
  constructor
  ·intro l hl
   obtain ⟨i,_,rfl⟩:=List.mem_map.1 hl
   have h1:=hn i
   have h2:((E i).filter fun c=>decide (c=b)).length≤1:=by
    generalize E i=l at h1
    induction l with
    |nil=>simp
    |cons x l ih=>
     rw[List.nodup_cons] at h1
     rw[List.filter_cons]
     split
     ·rename_i hx
      have hx:x=b:=by simpa using hx
      have:l.filter (fun c=>decide (c=b))=[]:=List.filter_eq_nil_iff.2 fun y hy=>by
       intro e
       have:y=b:=by simpa using e
       rw[←hx] at this
       exact h1.1 (this▸hy)
      rw[this];simp
     ·exact ih h1.2
   match h3:((E i).filter fun c=>decide (c=b)) with
   |[]=>simp
   |[x]=>simp
   |x::y::r=>rw[h3] at h2;simp at h2
  ·rw[List.pairwise_map]
   unfold d5
   rw[List.pairwise_map]
   refine List.Pairwise.imp ?_ List.pairwise_lt_range
   intro i j hij x hx y hy
   obtain ⟨_,_,rfl⟩:=List.mem_map.1 hx
   obtain ⟨_,_,rfl⟩:=List.mem_map.1 hy
   exact Int.ofNat_lt.2 hij
 exact ⟨key.imp fun h e=>by omega,key⟩
def iq (E:Int→List Int) (a shut b:Int):Prop:=a≠shut∧∃c,c∈E a∧jL E (fun x=>x≠shut) c b
theorem iq.step {E:Int→List Int} {a shut x y:Int} (h:(x=a∧a≠shut)∨iq E a shut x) (he:y∈E x) (hy:y≠shut):iq E a shut y:=by
 rcases h with ⟨rfl,h⟩|⟨h,c,hc,hw⟩
 ·exact ⟨h,y,he,.refl hy⟩
 ·exact ⟨h,c,hc,.step hw he hy⟩
theorem iq.closed {E:Int→List Int} {a shut:Int} {out:Int→Prop} (hc:∀x y,x≠shut→(x=a∨out x)→y∈E x→y≠shut→out y) {b:Int} (h:iq E a shut b):out b:=by
 obtain ⟨ha,c,hc1,hw⟩:=h
 induction hw with
 |refl h1=>exact hc a c ha (.inl rfl) hc1 h1
 |step h1 h2 h3 ih=>exact hc _ _ h1.end_ (.inr ih) h2 h3
theorem E2 {E:Int→List Int} {shut b:Int}:((b=0∧shut≠0)∨(b≠0∧iq E 0 shut b))↔jL E (fun x=>x≠shut) 0 b:=by
 constructor
 ·rintro (⟨rfl,h⟩|⟨_,h,c,hc,hw⟩)
  ·exact .refl (fun e=>h e.symm)
  ·exact jL.trans (.step (.refl h) hc hw.start) hw
 ·intro h
  by_cases hb:b=0
  ·exact .inl ⟨hb,fun e=>h.start e.symm⟩
  ·refine .inr ⟨hb,h.start,?_⟩
   rcases h.last with e|⟨c,hc,hw⟩
   ·exact absurd e hb
   ·exact ⟨c,hc,hw.mono fun _ h=>h.1⟩
theorem Bk {E:Int→List Int} {n:Nat} (hE:f8 E n) {b:Int}:jL E (fun x=>x≠-1) 0 b↔sZ E b:=by
 constructor
 ·exact fun h=>h.mono fun _ _=>trivial
 ·intro h
  refine h.self.mono fun x hx e=>?_
  have:=dq hE.toEOk ((fx hE.toEOk x).2 hx.2)
  omega
abbrev oT:=Int × Int
def m3 (v:Int) (i:Int) (b:bc):List oT:=(b.phis.filter fun p=>decide (p.dst=v)).map (fun _=>(i,-1))++(b.insts.zipIdx.filter fun x=>decide (x.1.dst=v)).map fun x=>(i,(x.2:Int))
def bm (f:ad) (v:Int):List oT:=f.blocks.zipIdx.flatMap fun b=>m3 v (b.2:Int) b.1
def aB (f:ad) (v:Int):oT:=(bm f v).head?.getD (-1,0)
def vL (f:ad):Prop:=∀v:Nat,v<f.vars.length→(bm f v).length≤1∧(bm f v≠[]→f.params.length≤v)
def ir (f:ad) (m:oT) (b at_:Int):Prop:=m.1<0∨(m.1=b∧m.2<at_)∨(0≤m.1∧m.1≠b∧sx (ao f) m.1 b)
def E3 (f:ad):Prop:=∀i (h:i<f.blocks.length),∀p∈f.blocks[i].phis,p.from_.Perm (bv (ao f) f.blocks.length i)
def E4 (f:ad):Prop:=∀i:Nat,i<f.blocks.length→sZ (ao f) i
def jO (f:ad) (b:Int):Int:=((f.blocks[b.toNat]?).map fun c=>(c.insts.length:Int)).getD 0
def ut (f:ad) (i:Nat) (b:bc):Prop:=
 (∀p∈b.phis,∀q∈p.args.zip p.from_,ir f (aB f q.1) q.2 (jO f q.2)) ∧
 (∀k (h:k<b.insts.length),∀v∈b.insts[k].args,ir f (aB f v) i k) ∧
 (b.term.kind=0∨ir f (aB f b.term.var) i b.insts.length)
def Kf (f:ad):Prop:=∀i (h:i<f.blocks.length),ut f i f.blocks[i]
def JC (f:ad):Prop:=E3 f∧E4 f∧vL f∧Kf f
end
section
open Go.Proofs.Tryz
def kK (l:List Int):List Int:=l.mergeSort fun x y=>decide (x≤y)
theorem eL (l:List Int):(kK l).Perm l:=List.mergeSort_perm l _
theorem uv (l:List Int):(kK l).Pairwise (·≤·):=by
 have:=List.pairwise_mergeSort (le:=fun x y:Int=>decide (x≤y)) (fun a b c h1 h2=>by simp at *;omega) (fun a b=>by simp;omega) l
 exact this.imp fun h=>by simpa using h
theorem E5 {l m:List Int} (hm:m.Pairwise (·<·)):kK l=m↔l.Perm m:=by
 constructor
 ·intro h;rw[←h];exact (eL l).symm
 ·intro h
  exact List.Perm.eq_of_pairwise (le:=fun a b:Int=>a≤b) (fun a b _ _ h1 h2=>Int.le_antisymm h1 h2) (uv l) (hm.imp fun h=>Int.le_of_lt h) ((eL l).trans h)
theorem pZ {l m:List Int} (hn:l.Nodup) (hs:∀x∈l,x∈m) (hl:m.length≤l.length):l.Perm m:=by
 induction l generalizing m with
 |nil=>obtain rfl:m=[]:=List.eq_nil_of_length_eq_zero (by simpa using hl);exact .refl _
 |cons x l ih=>
  rw[List.nodup_cons] at hn
  have hx:=hs x (.head _)
  have h1:l.Perm (m.erase x):=ih hn.2 (fun y hy=>(List.mem_erase_of_ne (fun e=>hn.1 (by rw[←e];exact hy))).2 (hs y (.tail _ hy))) (by
   rw[List.length_erase_of_mem hx];simp at hl;omega)
  exact (List.Perm.cons x h1).trans (List.perm_cons_erase hx).symm
def Bl (f:ad) (i:Nat) (l:List Int):Prop:=(bv (ao f) f.blocks.length i).length=l.length∧∀k (h:k<l.length),(i:Int)∈ao f l[k]∧l[k] ∉ l.take k
theorem p5 {l:List Int}:l.Nodup↔∀k (h:k<l.length),l[k] ∉ l.take k:=by
 induction l with
 |nil=>simp
 |cons x l ih=>
  rw[List.nodup_cons,ih]
  constructor
  ·rintro ⟨h1,h2⟩ k hk
   cases k with
   |zero=>simp
   |succ k=>
    simp only[List.getElem_cons_succ,List.take_succ_cons,List.mem_cons,not_or]
    have hk':k<l.length:=by simpa using hk
    exact ⟨fun e=>h1 (by rw[←e];exact List.getElem_mem hk'),h2 k hk'⟩
  ·intro h
   constructor
   ·intro hm
    obtain ⟨k,hk,e⟩:=List.mem_iff_getElem.1 hm
    have:=h (k+1) (by simpa using hk)
    simp[e] at this
   ·intro k hk
    have:=h (k+1) (by simpa using hk)
    simp only[List.getElem_cons_succ,List.take_succ_cons,List.mem_cons,not_or] at this
    exact this.2
theorem De {f:ad} (hE:bF f) {i:Nat} {l:List Int}:Bl f i l↔l.Perm (bv (ao f) f.blocks.length i):=by
 have hg:=hE.grph
 have hp:=m2 (ki f) f.blocks.length i
 unfold Bl
 constructor
 ·rintro ⟨h1,h2⟩
  refine pZ (p5.2 fun k hk=>(h2 k hk).2) (fun x hx=>?_) (by omega)
  obtain ⟨k,hk,rfl⟩:=List.mem_iff_getElem.1 hx
  exact (mh hg.toEOk hg.out).2 (h2 k hk).1
 ·intro h
  have hn:=h.nodup_iff.2 hp.1
  exact ⟨h.length_eq.symm,fun k hk=>⟨(mh hg.toEOk hg.out).1 (h.mem_iff.1 (List.getElem_mem hk)),p5.1 hn k hk⟩⟩
theorem nR {f:ad} {i:Nat} {l:List Int}:kK l=bv (ao f) f.blocks.length i↔l.Perm (bv (ao f) f.blocks.length i):=E5 (m2 (ki f) f.blocks.length i).2
end
section
open Go.Proofs.Tryz
def m4 (l:List Bool) (bs:List Int):List Bool:=bs.foldl (fun l b=>l.set b.toNat true) l
theorem jP:∀(bs:List Int) (l:List Bool),(m4 l bs).length=l.length
 |[],_=>rfl
 |b::bs,l=>by show (m4 (l.set b.toNat true) bs).length=_;rw[jP bs,List.length_set]
theorem zL (l:List Bool) (bs:List Int) (b:Int):m4 l (bs++[b])=(m4 l bs).set b.toNat true:=by unfold m4;rw[List.foldl_append];rfl
theorem tm (k:Nat):∀(bs:List Int) (l:List Bool),(∀b∈bs,0≤b)→k<l.length→(m4 l bs)[k]?=some (decide ((k:Int)∈bs)||(l[k]?).getD false)
 |[],l,_,hk=>by show l[k]?=_;rw[List.getElem?_eq_getElem hk];simp
 |b::bs,l,h,hk=>by
  show (m4 (l.set b.toNat true) bs)[k]?=_
  rw[tm k bs _ (fun c hc=>h c (.tail _ hc)) (by rw[List.length_set];exact hk),List.getElem?_set]
  have h0:=h b (.head _)
  by_cases e:b.toNat=k
  ·have:(k:Int)=b:=by omega
   rw[if_pos e,if_pos (by omega),this];simp
  ·have:¬(k:Int)=b:=by omega
   rw[if_neg e];simp[this]
def ga (E:Int→List Int) (n:Nat):List Bool:=m4 (List.replicate n false) (aD E n)
theorem p6 (E:Int→List Int) (n:Nat):(ga E n).length=n:=by unfold ga;rw[jP];simp
theorem p7 {E:Int→List Int} {n:Nat} (hE:EOk E n) {k:Nat} (hk:k<n):(ga E n)[k]?=some (decide ((k:Int)∈aD E n)):=by
 unfold ga
 rw[tm k _ _ (fun b hb=>(dq hE hb).1) (by simp;exact hk)]
 simp[hk]
theorem mo {f:ad} (hE:bF f):(ga (ao f) f.blocks.length).contains false=false↔E4 f:=by
 have hG:=hE.grph.toEOk
 constructor
 ·intro h i hi
  have hg:=p7 hG hi
  apply (fx hG _).1
  apply Classical.byContradiction
  intro hn
  rw[decide_eq_false hn] at hg
  have:=List.mem_of_getElem? hg
  rw[Bool.eq_false_iff] at h
  exact h (by simpa using this)
 ·intro h
  rw[Bool.eq_false_iff]
  intro hc
  have hc:false∈ga (ao f) f.blocks.length:=by simpa using hc
  obtain ⟨k,hk,e⟩:=List.getElem_of_mem hc
  have hk2:=hk
  rw[p6] at hk2
  have hg:=p7 hG hk2
  rw[List.getElem?_eq_getElem hk,e] at hg
  have hm:=(fx hG (k:Int)).2 (h k hk2)
  rw[decide_eq_true hm] at hg
  cases hg
def HK (f:ad) (i:Nat) (p:cS):Bool:=decide (kK p.from_=bv (ao f) f.blocks.length i)
def E6 (f:ad) (i:Nat):Bool:=((f.blocks[i]?).map fun b=>b.phis.all (HK f i)).getD true
def db (f:ad):Bool:=(List.range f.blocks.length).all (E6 f)
theorem lG {f:ad} {i:Nat} {b:bc} (h:f.blocks[i]?=some b):E6 f i=b.phis.all (HK f i):=by unfold E6;rw[h];rfl
theorem vM (f:ad):db f=true↔E3 f:=by
 unfold db E3
 rw[List.all_eq_true]
 constructor
 ·intro h i hi p hp
  have:=h i (List.mem_range.2 hi)
  rw[lG (List.getElem?_eq_getElem hi),List.all_eq_true] at this
  exact nR.1 (by simpa [HK] using this p hp)
 ·intro h i hi
  have hi:=List.mem_range.1 hi
  rw[lG (List.getElem?_eq_getElem hi),List.all_eq_true]
  intro p hp
  simpa [HK] using nR.2 (h i hi p hp)
theorem cQ {p:Nat→Bool} {k:Nat} (h:(List.range k).all p=true) (hk:p k=true):(List.range (k+1)).all p=true:=by rw[List.range_succ,List.all_append,h];simp[hk]
theorem dN {p:Nat→Bool} {k n:Nat} (hk:k<n) (h:p k=false):(List.range n).all p=false:=by
 rw[Bool.eq_false_iff];intro ha
 have:=List.all_eq_true.1 ha k (List.mem_range.2 hk)
 rw[h] at this;cases this
def cE {α:Type} (n:Nat) (ev:List (Int × α)):List (List α):=(List.range n).map fun (v:Nat)=>(ev.filter fun e=>decide (e.1=(v:Int))).map (·.2)
theorem cR {α:Type} (n:Nat) (ev:List (Int × α)):(cE n ev).length=n:=by unfold cE;simp
theorem fv {α:Type} {n:Nat} (ev:List (Int × α)) {v:Nat} (h:v<n):(cE n ev)[v]?=some ((ev.filter fun e=>decide (e.1=(v:Int))).map (·.2)):=by unfold cE;rw[List.getElem?_map,List.getElem?_range h];rfl
theorem p8 {α:Type} (n:Nat):List.replicate n []=cE (α:=α) n []:=by
 apply List.ext_getElem
 ·rw[cR];simp
 ·intro i h1 h2;unfold cE;simp
theorem kj {α:Type} {n:Nat} {ev:List (Int × α)} {v:Nat} (h:v<(cE n ev).length):(cE n ev)[v].length≤ev.length:=by
 have h2:v<n:=by rwa [cR] at h
 have:=fv ev h2
 rw[List.getElem?_eq_getElem h] at this
 rw[Option.some.inj this,List.length_map]
 exact List.length_filter_le _ _
theorem k9 {α:Type} {n:Nat} {ev:List (Int × α)} {c:Int} {x:α} (h0:0≤c) (h:c.toNat<(cE n ev).length):(cE n ev).set c.toNat ((cE n ev)[c.toNat]++[x])=cE n (ev++[(c,x)]):=by
 have h2:c.toNat<n:=by rwa [cR] at h
 apply List.ext_getElem?
 intro v
 rw[List.getElem?_set]
 by_cases hv:v<n
 ·rw[fv _ hv]
  have hr:=fv ev h2
  rw[List.getElem?_eq_getElem h] at hr
  rw[Option.some.inj hr]
  by_cases e:c.toNat=v
  ·have:c=(v:Int):=by omega
   rw[if_pos e,if_pos (by rw[cR];omega),fv _ hv]
   have e2:((c.toNat:Nat):Int)=c:=by omega
   rw[e2,this,List.filter_append,List.map_append]
   simp
  ·have:¬c=(v:Int):=by omega
   rw[if_neg e,fv _ hv]
   simp[List.filter_append,this]
 ·have hn:(cE n (ev++[(c,x)]))[v]?=none:=List.getElem?_eq_none (by rw[cR];omega)
  rw[if_neg (by omega),hn,List.getElem?_eq_none (by rw[cR];omega)]
def dE (i:Nat) (ps:List cS):List (Int × oT):=ps.map fun p=>(p.dst,((i:Int),-1))
def gB (i:Nat) (xs:List aN):List (Int × oT):=(xs.zipIdx.filter fun x=>decide (0≤x.1.dst)).map fun x=>(x.1.dst,((i:Int),(x.2:Int)))
def p9 (i:Nat) (b:bc):List (Int × oT):=dE i b.phis++gB i b.insts
def dy (f:ad) (k:Nat):List (Int × oT):=((f.blocks.take k).zipIdx).flatMap fun b=>p9 b.2 b.1
theorem lH {α:Type} {l:List α} {k:Nat} (h:k<l.length):(l.take (k+1)).zipIdx=(l.take k).zipIdx++[(l[k],k)]:=by
 rw[List.take_succ_eq_append_getElem h,List.zipIdx_append,List.length_take,Nat.min_eq_left (by omega)]
 simp
theorem lI (i:Nat) {ps:List cS} {j:Nat} (h:j<ps.length):dE i (ps.take (j+1))=dE i (ps.take j)++[(ps[j].dst,((i:Int),-1))]:=by
 unfold dE;rw[List.take_succ_eq_append_getElem h,List.map_append];rfl
theorem jQ (i:Nat) {xs:List aN} {j:Nat} (h:j<xs.length):gB i (xs.take (j+1))=gB i (xs.take j)++if 0≤xs[j].dst then[(xs[j].dst,((i:Int),(j:Int)))] else[]:=by
 unfold gB;rw[lH h,List.filter_append,List.map_append]
 by_cases h0:0≤xs[j].dst
 ·simp[h0]
 ·simp[h0]
theorem gc {f:ad} {k:Nat} (h:k<f.blocks.length):dy f (k+1)=dy f k++p9 k f.blocks[k]:=by
 unfold dy;rw[lH h,List.flatMap_append];simp
theorem qB (i:Nat) (xs:List aN):(gB i xs).length≤xs.length:=by
 unfold gB;rw[List.length_map];exact Nat.le_trans (List.length_filter_le _ _) (by simp)
theorem E7 (i:Nat) (b:bc):(p9 i b).length≤b.phis.length+b.insts.length:=by
 have:=qB i b.insts
 unfold p9 dE;rw[List.length_append,List.length_map];omega
theorem vN {f:ad} {m:Nat} (h:∀b∈f.blocks,b.phis.length+b.insts.length≤m):∀k,k≤f.blocks.length→(dy f k).length≤k*m
 |0,_=>by simp[dy]
 |k+1,hk=>by
  have h1:=vN h k (by omega)
  have h2:=E7 k f.blocks[k]
  have h3:=h _ (List.getElem_mem (show k<f.blocks.length by omega))
  rw[gc (by omega),List.length_append,Nat.add_mul];omega
theorem HY (i v:Nat) (b:bc):((p9 i b).filter fun e=>decide (e.1=(v:Int))).map (·.2)=m3 v i b:=by
 unfold p9 dE gB m3
 rw[List.filter_append,List.map_append,List.filter_map,List.map_map,List.filter_map,List.map_map,List.filter_filter]
 congr 1
 congr 1
 apply List.filter_congr
 intro x _
 by_cases e:x.1.dst=(v:Int)
 ·have:0≤x.1.dst:=by omega
  simp[e]
 ·simp[e]
theorem m5 (f:ad) (v:Nat):((dy f f.blocks.length).filter fun e=>decide (e.1=(v:Int))).map (·.2)=bm f v:=by
 unfold dy bm
 rw[List.take_length,List.filter_flatMap,List.map_flatMap]
 congr 1
 funext b
 exact HY b.2 v b.1
def qC (f:ad):List (List oT):=cE f.vars.length (dy f f.blocks.length)
theorem qD {f:ad} {v:Nat} (h:v<f.vars.length):(qC f)[v]?=some (bm f v):=by unfold qC;rw[fv _ h,m5]
theorem zM (f:ad):(qC f).length=f.vars.length:=cR _ _
def jR (f:ad) (v:Nat):Bool:=!(decide (1<(bm f v).length)||decide (0<(bm f v).length)&&decide (v<f.params.length))
def l4 (f:ad):Bool:=(List.range f.vars.length).all (jR f)
theorem tn (f:ad):l4 f=true↔vL f:=by
 unfold l4 vL jR
 rw[List.all_eq_true]
 constructor
 ·intro h v hv
  have:=h v (List.mem_range.2 hv)
  simp only[Bool.not_eq_true',Bool.or_eq_false_iff,Bool.and_eq_false_iff,decide_eq_false_iff_not] at this
  refine ⟨by omega,fun hne=>?_⟩
  have hl:=List.length_pos_iff.2 hne
  rcases this.2 with h1|h1<;>omega
 ·intro h v hv
  obtain ⟨h1,h2⟩:=h v (List.mem_range.1 hv)
  simp only[Bool.not_eq_true',Bool.or_eq_false_iff,Bool.and_eq_false_iff,decide_eq_false_iff_not]
  refine ⟨by omega,?_⟩
  by_cases e:bm f v=[]
  ·left;rw[e];simp
  ·right;have:=h2 e;omega
def d8 (f:ad):List oT:=(List.range f.vars.length).map fun (v:Nat)=>aB f v
theorem gC {f:ad} {v:Nat} (h:v<f.vars.length):(d8 f)[v]?=some (aB f v):=by unfold d8;rw[List.getElem?_map,List.getElem?_range h];rfl
theorem iZ (f:ad):(d8 f).length=f.vars.length:=by simp[d8]
def dH (f:ad) (m:oT) (b at_:Int):Bool:=if m.1<0 then true else if m.1=b then decide (m.2<at_) else iR (ao f) f.blocks.length m.1 b
theorem iv {f:ad} (hE:bF f) (m:oT) (b at_:Int):dH f m b at_=true↔ir f m b at_:=by
 unfold dH ir
 by_cases h0:m.1<0
 ·rw[if_pos h0];simp[h0]
 ·rw[if_neg h0]
  by_cases h1:m.1=b
  ·rw[if_pos h1];simp[h1];omega
  ·rw[if_neg h1,hE.grph.domB_iff]
   constructor
   ·intro h;exact .inr (.inr ⟨by omega,h1,h⟩)
   ·rintro (h|h|h)
    ·exact absurd h h0
    ·exact absurd h.1 h1
    ·exact h.2.2
def Kg (f:ad) (p:cS):Bool:=(p.args.zip p.from_).all fun q=>dH f (aB f q.1) q.2 (jO f q.2)
def E8 (f:ad) (i:Nat) (x:aN × Nat):Bool:=x.1.args.all fun v=>dH f (aB f v) i x.2
def Lk (f:ad) (i:Nat) (b:bc):Bool:=decide (b.term.kind=0)||dH f (aB f b.term.var) i b.insts.length
def sG (f:ad) (i:Nat) (b:bc):Bool:=b.phis.all (Kg f)&&b.insts.zipIdx.all (E8 f i)&&Lk f i b
def LJ (f:ad) (i:Nat):Bool:=((f.blocks[i]?).map (sG f i)).getD true
def zN (f:ad):Bool:=(List.range f.blocks.length).all (LJ f)
theorem qE {f:ad} {i:Nat} {b:bc} (h:f.blocks[i]?=some b):LJ f i=sG f i b:=by unfold LJ;rw[h];rfl
theorem vO {f:ad} (hE:bF f) (i:Nat) (b:bc):sG f i b=true↔ut f i b:=by
 unfold sG ut
 rw[Bool.and_eq_true,Bool.and_eq_true,and_assoc]
 refine and_congr ?_ (and_congr ?_ ?_)
 ·rw[List.all_eq_true]
  refine forall_congr' fun p=>forall_congr' fun _=>?_
  unfold Kg
  rw[List.all_eq_true]
  exact forall_congr' fun q=>forall_congr' fun _=>iv hE _ _ _
 ·rw[List.all_eq_true]
  constructor
  ·intro h k hk v hv
   have:=h (b.insts[k],k) (List.mem_zipIdx_iff_getElem?.2 (List.getElem?_eq_getElem hk))
   unfold E8 at this
   rw[List.all_eq_true] at this
   exact (iv hE _ _ _).1 (this v hv)
  ·intro h x hx
   have hx:=List.mem_zipIdx_iff_getElem?.1 hx
   obtain ⟨hk,e⟩:=List.getElem?_eq_some_iff.1 hx
   unfold E8
   rw[List.all_eq_true]
   intro v hv
   exact (iv hE _ _ _).2 (h x.2 hk v (by rw[e];exact hv))
 ·unfold Lk
  rw[Bool.or_eq_true,decide_eq_true_eq,iv hE]
theorem E9 {f:ad} (hE:bF f):zN f=true↔Kf f:=by
 unfold zN Kf
 rw[List.all_eq_true]
 constructor
 ·intro h i hi
  have:=h i (List.mem_range.2 hi)
  rw[qE (List.getElem?_eq_getElem hi)] at this
  exact (vO hE _ _).1 this
 ·intro h i hi
  have hi:=List.mem_range.1 hi
  rw[qE (List.getElem?_eq_getElem hi)]
  exact (vO hE _ _).2 (h i hi)
def bG (f:ad):Bool:=db f&&(!(ga (ao f) f.blocks.length).contains false&&(l4 f&&zN f))
theorem tq {f:ad} (hE:bF f):bG f=true↔JC f:=by
 unfold bG JC
 rw[Bool.and_eq_true,Bool.and_eq_true,Bool.and_eq_true,Bool.not_eq_true',vM,mo hE,tn,E9 hE]
section
variable {P:Program} {E:World} {l:List Oper} {W:Nat→Bool} {fuel:Nat} {listed:Array Bool} {d ty:Nat} {op:Op} {pos:String} {af:Array Edge} {Q:aS→OL→Prop} {env:aS} {Os Om:OL}
def uw (l:List Oper) (W:Nat→Bool) (listed:Array Bool) (i:Nat):Bool:=Region.noSelect l.toArray&&(Region.free .any l.toArray listed i&&((Region.ready .any l.toArray listed).contains i&&(f9 l i W&&(!W i&&ft W listed))))
theorem uw.of {i:Nat} (h:uw l W listed i=true):Region.noSelect l.toArray=true∧Region.free .any l.toArray listed i=true∧(Region.ready .any l.toArray listed).contains i=true∧f9 l i W=true∧W i=false∧ft W listed=true:=by
 simpa only[uw,Bool.and_eq_true,Bool.not_eq_true'] using h
theorem au (i:Nat) {x:AV} (hi:l[i]?=some (Oper.mk (some d) op ty pos af none)) (hg:Gv P env Os (Oper.mk (some d) op ty pos af none) x)
  (h:bK P E l W Q fuel (listed.setIfInBounds i true) (bC env d x) Os Om) (hb:uw l W listed i=true:=by kernel_rfl):bK P E l W Q (fuel+1) listed env Os Om:=
 have ⟨a,b,c,e,g,k⟩:=uw.of hb
 bK.take hi a b c e g k hg h
theorem bB (i:Nat) {j s:Nat} {b t:Bool} {x:AV} (hi:l[i]?=some (Oper.mk (some d) op ty pos af (some (j,b)))) (hg0:(l[j]?).bind (fun o:Oper=>o.dst)=some s) (hv0:env s=.bool t) (ht:t=b) (hg:Gv P env Os (Oper.mk (some d) op ty pos af none) x)
  (h:bK P E l W Q fuel (listed.setIfInBounds i true) (bC env d x) Os Om) (hb:uw l W listed i=true:=by kernel_rfl):bK P E l W Q (fuel+1) listed env Os Om:=
 have ⟨a,b,c,e,g,k⟩:=uw.of hb
 bK.takeT hi hg0 hv0 ht a b c e g k hg h
theorem bi (i:Nat) {j s:Nat} {b t:Bool} (hi:l[i]?=some (Oper.mk (some d) op ty pos af (some (j,b)))) (hg0:(l[j]?).bind (fun o:Oper=>o.dst)=some s) (hv0:env s=.bool t) (ht:t=!b)
  (h:bK P E l W Q fuel (listed.setIfInBounds i true) (bC env d (.raw undef)) Os Om) (hb:uw l W listed i=true:=by kernel_rfl):bK P E l W Q (fuel+1) listed env Os Om:=
 have ⟨a,b,c,e,g,k⟩:=uw.of hb
 bK.takeF hi hg0 hv0 ht a b c e g k h
theorem aV (i:Nat) {o:Oper} (hi:l[i]?=some o) (h:az P E l.toArray (fun env' Om'=>bK P E l W Q fuel (listed.setIfInBounds i true) env' Os Om') [o] env Om) (hr:Region.ready .any l.toArray listed=[i]:=by kernel_rfl):bK P E l W Q (fuel+1) listed env Os Om:=bK.one hi hr h
theorem bY (h:Q env (Os++Om)) (hr:Region.ready .any l.toArray listed=[]:=by kernel_rfl):bK P E l W Q fuel listed env Os Om:=bK.done hr h
variable {x y z:Operand} {t:TypeId} {O:OL}
theorem cG {k:IntKind} {a:Int} (hx:bb env x=.int k a):Gv P env O (Oper.mk (some d) (.move x) ty pos af none) (.int k a):=yl hx
theorem l5 {a:Bool} (hx:bb env x=.bool a):Gv P env O (Oper.mk (some d) (.move x) ty pos af none) (.bool a):=yl hx
theorem kl {k:Nat} {a:List (List AV)} (hx:bb env x=.fro k a):Gv P env O (Oper.mk (some d) (.move x) ty pos af none) (.fro k a):=yl hx
theorem Fa {k:IntKind} {a:Int} (hx:bb env x=.int k a):Gv P env O (Oper.mk (some d) (.assign x) ty pos af none) (.int k a):=yi hx
theorem HM {a:Bool} (hx:bb env x=.bool a):Gv P env O (Oper.mk (some d) (.assign x) ty pos af none) (.bool a):=yi hx
theorem iw {k:Nat} {a:List (List AV)} (hx:bb env x=.fro k a):Gv P env O (Oper.mk (some d) (.assign x) ty pos af none) (.fro k a):=yi hx
theorem du {k:IntKind} {a:Int} {cs:List AV} (ha:∀w,(isAgg t).run P w=.ok false w) (hx:bb env x=.pf (.int k a::cs)):Gv P env O (Oper.mk (some d) (.load t x) ty pos af none) (.int k a):=yo ha hx
theorem iS {k:Nat} {a:List (List AV)} {cs:List AV} (ha:∀w,(isAgg t).run P w=.ok false w) (hx:bb env x=.pf (.fro k a::cs)):Gv P env O (Oper.mk (some d) (.load t x) ty pos af none) (.fro k a):=yo ha hx
theorem oB {b v:Bool} (hc:bb env x=.bool b) (hb:b=true) (hy:bb env y=.bool v):Gv P env O (Oper.mk (some d) (.pick x y z) ty pos af none) (.bool v):=Gv.pickT hc hb hy
theorem kY {b v:Bool} (hc:bb env x=.bool b) (hb:b=false) (hy:bb env z=.bool v):Gv P env O (Oper.mk (some d) (.pick x y z) ty pos af none) (.bool v):=Gv.pickF hc hb hy
theorem Fb {i m:Nat} (hx:bb env x=.own i m):Gv P env O (Oper.mk (some d) (.move x) ty pos af none) (.own i m):=yl hx
theorem l2 {i m:Nat} (hx:bb env x=.po i m):Gv P env O (Oper.mk (some d) (.move x) ty pos af none) (.po i m):=yl hx
theorem gS {cs:List AV} (hx:bb env x=.pf cs):Gv P env O (Oper.mk (some d) (.move x) ty pos af none) (.pf cs):=yl hx
theorem m6 {cs:List AV} (hx:bb env x=.tup cs):Gv P env O (Oper.mk (some d) (.move x) ty pos af none) (.tup cs):=yl hx
theorem Ll {i m:Nat} (hx:bb env x=.own i m):Gv P env O (Oper.mk (some d) (.assign x) ty pos af none) (.own i m):=yi hx
theorem iQ {i m:Nat} (hx:bb env x=.po i m):Gv P env O (Oper.mk (some d) (.assign x) ty pos af none) (.po i m):=yi hx
theorem NB {a:Value} (hx:bb env x=.raw a):Gv P env O (Oper.mk (some d) (.assign x) ty pos af none) (.raw a):=yi hx
theorem mq {vs:List AV} {i:Nat} {k:IntKind} {a:Int} (hx:bb env x=.tup vs) (hv:vs[i]?=some (.int k a)):Gv P env O (Oper.mk (some d) (.extract x i) ty pos af none) (.int k a):=yy hx hv
theorem sH {vs:List AV} {i:Nat} {a:Bool} (hx:bb env x=.tup vs) (hv:vs[i]?=some (.bool a)):Gv P env O (Oper.mk (some d) (.extract x i) ty pos af none) (.bool a):=yy hx hv
theorem cA {fs:Array Field} {f:Field} {i sz:Nat} {cs cs':List AV} (ht:P.underlying t=some (.struct fs)) (hf:fs[i]?=some f) (hs:∀w,(sizeOf f.type).run P w=.ok sz w)
  (hx:bb env x=.pf cs) (hr:cs.drop f.offset=cs') (hz:sz≠0:=by decide):Gv P env O (Oper.mk (some d) (.fieldAddr t x i) ty pos af none) (.pf cs'):=Gv.fieldF ht hf hs hz hx hr
theorem M9 {u:TypeId} {a b:Int} (hx:bb env x=.int .i64 a) (hy:bb env y=.int .i64 b) (hr:nN (a+b):=by unfold nN;omega):Gv P env O (Oper.mk (some d) (.binOp .add t x y u) ty pos af none) (.int .i64 (a+b)):=Gv.add hx hy hr
theorem ah {n id:Nat} {y:Code} {R:Exit→aS→OL→Prop} (h:az P E l.toArray (pS (dQ P E n y R) R .normal) l env O) (hd:gJ n l=true:=by exact rfl):dQ P E n (.seq (.region id l.toArray false) y) R env O:=zc (yh hd h)
theorem aM {n id:Nat} {R:Exit→aS→OL→Prop} (h:az P E l.toArray (R .normal) l env O) (hd:gJ n l=true:=by exact rfl):dQ P E n (.region id l.toArray false) R env O:=yh hd h
theorem bD {α:Type} {enc:α→List AV} {xs:List α} {k:Nat} {e:TypeId} (j:Nat) {i:Int} {v:α} (ht:P.underlying t=some (.slice e)) (hs:∀w,(sizeOf e).run P w=.ok k w) (hx:bb env x=.fro k (xs.map enc)) (hy:bb env y=.int .i64 i) (hi:i=(j:Int)) (hj:xs[j]?=some v) :
  Gv P env O (Oper.mk (some d) (.indexAddr t x y) ty pos af none) (.pf (enc v)):=q9 ht hs hx hy hi hj
theorem aC {O:OL}:Left O O:=⟨_,.refl _,rfl⟩
theorem dw.t1 {x0:Nat × bQ} {O:OL} {i:Nat} {o:bQ}:dw (x0::(i,o)::O) i o (x0::O):=.tail .head
theorem gr.t1 {x0:Nat × bQ} {O:OL} {i:Nat} {o o':bQ}:gr (x0::(i,o)::O) i o o' (x0::(i,o')::O):=.tail .head
theorem su.t1 {x0:Nat × bQ} {O:OL} {i j:Nat} {o o':bQ}:su (x0::(i,o)::O) i o j o' (x0::(j,o')::O):=.tail .head
theorem dw.t2 {x0 x1:Nat × bQ} {O:OL} {i:Nat} {o:bQ}:dw (x0::x1::(i,o)::O) i o (x0::x1::O):=.tail .t1
theorem gr.t2 {x0 x1:Nat × bQ} {O:OL} {i:Nat} {o o':bQ}:gr (x0::x1::(i,o)::O) i o o' (x0::x1::(i,o')::O):=.tail .t1
theorem su.t2 {x0 x1:Nat × bQ} {O:OL} {i j:Nat} {o o':bQ}:su (x0::x1::(i,o)::O) i o j o' (x0::x1::(j,o')::O):=.tail .t1
theorem dw.t3 {x0 x1 x2:Nat × bQ} {O:OL} {i:Nat} {o:bQ}:dw (x0::x1::x2::(i,o)::O) i o (x0::x1::x2::O):=.tail .t2
theorem gr.t3 {x0 x1 x2:Nat × bQ} {O:OL} {i:Nat} {o o':bQ}:gr (x0::x1::x2::(i,o)::O) i o o' (x0::x1::x2::(i,o')::O):=.tail .t2
theorem su.t3 {x0 x1 x2:Nat × bQ} {O:OL} {i j:Nat} {o o':bQ}:su (x0::x1::x2::(i,o)::O) i o j o' (x0::x1::x2::(j,o')::O):=.tail .t2
theorem dw.t4 {x0 x1 x2 x3:Nat × bQ} {O:OL} {i:Nat} {o:bQ}:dw (x0::x1::x2::x3::(i,o)::O) i o (x0::x1::x2::x3::O):=.tail .t3
theorem gr.t4 {x0 x1 x2 x3:Nat × bQ} {O:OL} {i:Nat} {o o':bQ}:gr (x0::x1::x2::x3::(i,o)::O) i o o' (x0::x1::x2::x3::(i,o')::O):=.tail .t3
theorem su.t4 {x0 x1 x2 x3:Nat × bQ} {O:OL} {i j:Nat} {o o':bQ}:su (x0::x1::x2::x3::(i,o)::O) i o j o' (x0::x1::x2::x3::(j,o')::O):=.tail .t3
theorem dw.t5 {x0 x1 x2 x3 x4:Nat × bQ} {O:OL} {i:Nat} {o:bQ}:dw (x0::x1::x2::x3::x4::(i,o)::O) i o (x0::x1::x2::x3::x4::O):=.tail .t4
theorem gr.t5 {x0 x1 x2 x3 x4:Nat × bQ} {O:OL} {i:Nat} {o o':bQ}:gr (x0::x1::x2::x3::x4::(i,o)::O) i o o' (x0::x1::x2::x3::x4::(i,o')::O):=.tail .t4
theorem su.t5 {x0 x1 x2 x3 x4:Nat × bQ} {O:OL} {i j:Nat} {o o':bQ}:su (x0::x1::x2::x3::x4::(i,o)::O) i o j o' (x0::x1::x2::x3::x4::(j,o')::O):=.tail .t4
theorem dw.t6 {x0 x1 x2 x3 x4 x5:Nat × bQ} {O:OL} {i:Nat} {o:bQ}:dw (x0::x1::x2::x3::x4::x5::(i,o)::O) i o (x0::x1::x2::x3::x4::x5::O):=.tail .t5
theorem gr.t6 {x0 x1 x2 x3 x4 x5:Nat × bQ} {O:OL} {i:Nat} {o o':bQ}:gr (x0::x1::x2::x3::x4::x5::(i,o)::O) i o o' (x0::x1::x2::x3::x4::x5::(i,o')::O):=.tail .t5
theorem su.t6 {x0 x1 x2 x3 x4 x5:Nat × bQ} {O:OL} {i j:Nat} {o o':bQ}:su (x0::x1::x2::x3::x4::x5::(i,o)::O) i o j o' (x0::x1::x2::x3::x4::x5::(j,o')::O):=.tail .t5
theorem dw.t7 {x0 x1 x2 x3 x4 x5 x6:Nat × bQ} {O:OL} {i:Nat} {o:bQ}:dw (x0::x1::x2::x3::x4::x5::x6::(i,o)::O) i o (x0::x1::x2::x3::x4::x5::x6::O):=.tail .t6
theorem gr.t7 {x0 x1 x2 x3 x4 x5 x6:Nat × bQ} {O:OL} {i:Nat} {o o':bQ}:gr (x0::x1::x2::x3::x4::x5::x6::(i,o)::O) i o o' (x0::x1::x2::x3::x4::x5::x6::(i,o')::O):=.tail .t6
theorem su.t7 {x0 x1 x2 x3 x4 x5 x6:Nat × bQ} {O:OL} {i j:Nat} {o o':bQ}:su (x0::x1::x2::x3::x4::x5::x6::(i,o)::O) i o j o' (x0::x1::x2::x3::x4::x5::x6::(j,o')::O):=.tail .t6
theorem dw.t8 {x0 x1 x2 x3 x4 x5 x6 x7:Nat × bQ} {O:OL} {i:Nat} {o:bQ}:dw (x0::x1::x2::x3::x4::x5::x6::x7::(i,o)::O) i o (x0::x1::x2::x3::x4::x5::x6::x7::O):=.tail .t7
theorem gr.t8 {x0 x1 x2 x3 x4 x5 x6 x7:Nat × bQ} {O:OL} {i:Nat} {o o':bQ}:gr (x0::x1::x2::x3::x4::x5::x6::x7::(i,o)::O) i o o' (x0::x1::x2::x3::x4::x5::x6::x7::(i,o')::O):=.tail .t7
theorem su.t8 {x0 x1 x2 x3 x4 x5 x6 x7:Nat × bQ} {O:OL} {i j:Nat} {o o':bQ}:su (x0::x1::x2::x3::x4::x5::x6::x7::(i,o)::O) i o j o' (x0::x1::x2::x3::x4::x5::x6::x7::(j,o')::O):=.tail .t7
theorem aG {α0:Sort _} {a0:α0}:a0=a0∧True:=⟨rfl,trivial⟩
theorem di {α0:Sort _} {a0:α0} {α1:Sort _} {a1:α1}:a0=a0∧a1=a1∧True:=⟨rfl,rfl,trivial⟩
theorem dC {α0:Sort _} {a0:α0} {α1:Sort _} {a1:α1} {α2:Sort _} {a2:α2}:a0=a0∧a1=a1∧a2=a2∧True:=⟨rfl,rfl,rfl,trivial⟩
theorem e7 {α0:Sort _} {a0:α0} {α1:Sort _} {a1:α1} {α2:Sort _} {a2:α2} {α3:Sort _} {a3:α3}:a0=a0∧a1=a1∧a2=a2∧a3=a3∧True:=⟨rfl,rfl,rfl,rfl,trivial⟩
theorem iT {α0:Sort _} {a0:α0} {α1:Sort _} {a1:α1} {α2:Sort _} {a2:α2} {α3:Sort _} {a3:α3} {α4:Sort _} {a4:α4}:a0=a0∧a1=a1∧a2=a2∧a3=a3∧a4=a4∧True:=⟨rfl,rfl,rfl,rfl,rfl,trivial⟩
theorem pt {α0:Sort _} {a0:α0} {α1:Sort _} {a1:α1} {α2:Sort _} {a2:α2} {α3:Sort _} {a3:α3} {α4:Sort _} {a4:α4} {α5:Sort _} {a5:α5}:a0=a0∧a1=a1∧a2=a2∧a3=a3∧a4=a4∧a5=a5∧True:=⟨rfl,rfl,rfl,rfl,rfl,rfl,trivial⟩
theorem km {α0:Sort _} {a0:α0} {α1:Sort _} {a1:α1} {α2:Sort _} {a2:α2} {α3:Sort _} {a3:α3} {α4:Sort _} {a4:α4} {α5:Sort _} {a5:α5} {α6:Sort _} {a6:α6}:a0=a0∧a1=a1∧a2=a2∧a3=a3∧a4=a4∧a5=a5∧a6=a6∧True:=⟨rfl,rfl,rfl,rfl,rfl,rfl,rfl,trivial⟩
theorem vP {α0:Sort _} {a0:α0} {α1:Sort _} {a1:α1} {α2:Sort _} {a2:α2} {α3:Sort _} {a3:α3} {α4:Sort _} {a4:α4} {α5:Sort _} {a5:α5} {α6:Sort _} {a6:α6} {α7:Sort _} {a7:α7}:a0=a0∧a1=a1∧a2=a2∧a3=a3∧a4=a4∧a5=a5∧a6=a6∧a7=a7∧True:=⟨rfl,rfl,rfl,rfl,rfl,rfl,rfl,rfl,trivial⟩
theorem nK {α0:Sort _} {a0:α0} {α1:Sort _} {a1:α1} {α2:Sort _} {a2:α2} {α3:Sort _} {a3:α3} {α4:Sort _} {a4:α4} {α5:Sort _} {a5:α5} {α6:Sort _} {a6:α6} {α7:Sort _} {a7:α7} {α8:Sort _} {a8:α8}:a0=a0∧a1=a1∧a2=a2∧a3=a3∧a4=a4∧a5=a5∧a6=a6∧a7=a7∧a8=a8∧True:=⟨rfl,rfl,rfl,rfl,rfl,rfl,rfl,rfl,rfl,trivial⟩
theorem iy {α0:Sort _} {a0:α0} {α1:Sort _} {a1:α1} {α2:Sort _} {a2:α2} {α3:Sort _} {a3:α3} {α4:Sort _} {a4:α4} {α5:Sort _} {a5:α5} {α6:Sort _} {a6:α6} {α7:Sort _} {a7:α7} {α8:Sort _} {a8:α8} {α9:Sort _} {a9:α9}:a0=a0∧a1=a1∧a2=a2∧a3=a3∧a4=a4∧a5=a5∧a6=a6∧a7=a7∧a8=a8∧a9=a9∧True:=⟨rfl,rfl,rfl,rfl,rfl,rfl,rfl,rfl,rfl,rfl,trivial⟩
theorem la {α0:Sort _} {a0:α0} {α1:Sort _} {a1:α1} {α2:Sort _} {a2:α2} {α3:Sort _} {a3:α3} {α4:Sort _} {a4:α4} {α5:Sort _} {a5:α5} {α6:Sort _} {a6:α6} {α7:Sort _} {a7:α7} {α8:Sort _} {a8:α8} {α9:Sort _} {a9:α9} {α10:Sort _} {a10:α10}:a0=a0∧a1=a1∧a2=a2∧a3=a3∧a4=a4∧a5=a5∧a6=a6∧a7=a7∧a8=a8∧a9=a9∧a10=a10∧True:=⟨rfl,rfl,rfl,rfl,rfl,rfl,rfl,rfl,rfl,rfl,rfl,trivial⟩
theorem ec {α0:Sort _} {a0:α0} {α1:Sort _} {a1:α1} {α2:Sort _} {a2:α2} {α3:Sort _} {a3:α3} {α4:Sort _} {a4:α4} {α5:Sort _} {a5:α5} {α6:Sort _} {a6:α6} {α7:Sort _} {a7:α7} {α8:Sort _} {a8:α8} {α9:Sort _} {a9:α9} {α10:Sort _} {a10:α10} {α11:Sort _} {a11:α11}:a0=a0∧a1=a1∧a2=a2∧a3=a3∧a4=a4∧a5=a5∧a6=a6∧a7=a7∧a8=a8∧a9=a9∧a10=a10∧a11=a11∧True:=⟨rfl,rfl,rfl,rfl,rfl,rfl,rfl,rfl,rfl,rfl,rfl,rfl,trivial⟩
theorem sI {α0:Sort _} {a0:α0} {α1:Sort _} {a1:α1} {α2:Sort _} {a2:α2} {α3:Sort _} {a3:α3} {α4:Sort _} {a4:α4} {α5:Sort _} {a5:α5} {α6:Sort _} {a6:α6} {α7:Sort _} {a7:α7} {α8:Sort _} {a8:α8} {α9:Sort _} {a9:α9} {α10:Sort _} {a10:α10} {α11:Sort _} {a11:α11} {α12:Sort _} {a12:α12}:a0=a0∧a1=a1∧a2=a2∧a3=a3∧a4=a4∧a5=a5∧a6=a6∧a7=a7∧a8=a8∧a9=a9∧a10=a10∧a11=a11∧a12=a12∧True:=⟨rfl,rfl,rfl,rfl,rfl,rfl,rfl,rfl,rfl,rfl,rfl,rfl,rfl,trivial⟩
variable {ops:Array Oper} {K:aS→OL→Prop} {rest:List Oper} {u e:TypeId}
theorem aa {k:IntKind} {a:Int} (hx:bb env x=.int k a) (kk:az P E ops K rest (bC env d (.int k a)) O):az P E ops K (Oper.mk (some d) (.move x) ty pos af none::rest) env O:=za (cG hx) kk
theorem ac {a:Bool} (hx:bb env x=.bool a) (kk:az P E ops K rest (bC env d (.bool a)) O):az P E ops K (Oper.mk (some d) (.assign x) ty pos af none::rest) env O:=za (HM hx) kk
theorem ae {fs:Array Field} {f:Field} {i sz:Nat} {cs cs':List AV} (ht:P.underlying t=some (.struct fs)) (hf:fs[i]?=some f) (hs:∀w,(sizeOf f.type).run P w=.ok sz w) (hx:bb env x=.pf cs) (hr:cs.drop f.offset=cs') (kk:az P E ops K rest (bC env d (.pf cs')) O) (hz:sz≠0:=by decide):az P E ops K (Oper.mk (some d) (.fieldAddr t x i) ty pos af none::rest) env O:=za (cA ht hf hs hx hr hz) kk
theorem ai {a:Bool} (hx:bb env x=.bool a) (kk:az P E ops K rest (bC env d (.bool a)) O):az P E ops K (Oper.mk (some d) (.move x) ty pos af none::rest) env O:=za (l5 hx) kk
theorem ap {b v:Bool} (hc:bb env x=.bool b) (hb:b=true) (hy:bb env y=.bool v) (kk:az P E ops K rest (bC env d (.bool v)) O):az P E ops K (Oper.mk (some d) (.pick x y z) ty pos af none::rest) env O:=za (oB hc hb hy) kk
theorem aq {b v:Bool} (hc:bb env x=.bool b) (hb:b=false) (hy:bb env z=.bool v) (kk:az P E ops K rest (bC env d (.bool v)) O):az P E ops K (Oper.mk (some d) (.pick x y z) ty pos af none::rest) env O:=za (kY hc hb hy) kk
theorem ax {k:IntKind} {a:Int} {cs:List AV} (ha:∀w,(isAgg t).run P w=.ok false w) (hx:bb env x=.pf (.int k a::cs)) (kk:az P E ops K rest (bC env d (.int k a)) O):az P E ops K (Oper.mk (some d) (.load t x) ty pos af none::rest) env O:=za (du ha hx) kk
theorem ay {k:IntKind} {a:Int} (hx:bb env x=.int k a) (kk:az P E ops K rest (bC env d (.int k a)) O):az P E ops K (Oper.mk (some d) (.assign x) ty pos af none::rest) env O:=za (Fa hx) kk
theorem ab {n:Nat} {cs:List AV} (ha:∀w,(isAgg t).run P w=.ok true w) (hs:∀w,(sizeOf t).run P w=.ok n w) (hx:bb env x=.pf cs) (hn:cs.length=n) (kk:az P E ops K rest (bC env d (.agg cs)) O):az P E ops K (Oper.mk (some d) (.load t x) ty pos af none::rest) env O:=za (yk ha hs hx hn) kk
theorem aA {u:TypeId} {a b:Int} (hx:bb env x=.int .i64 a) (hy:bb env y=.int .i64 b) (kk:az P E ops K rest (bC env d (.int .i64 (a+b))) O) (hr:nN (a+b):=by unfold nN;omega):az P E ops K (Oper.mk (some d) (.binOp .add t x y u) ty pos af none::rest) env O:=za (M9 hx hy hr) kk
theorem aw {k:IntKind} {a b:Int} (hx:bb env x=.int k a) (hy:bb env y=.int k b) (kk:az P E ops K rest (bC env d (.bool (decide (a<b)))) O):az P E ops K (Oper.mk (some d) (.binOp .lss t x y u) ty pos af none::rest) env O:=za (Gv.lss hx hy) kk
theorem aj {k:IntKind} {a b:Int} (hx:bb env x=.int k a) (hy:bb env y=.int k b) (kk:az P E ops K rest (bC env d (.bool (decide (a=b)))) O):az P E ops K (Oper.mk (some d) (.binOp .eql t x y u) ty pos af none::rest) env O:=za (Gv.eqlI hx hy) kk
theorem ak {α:Type} {enc:α→List AV} {xs:List α} {k:Nat} (ht:P.underlying t=some (.slice e)) (hx:bb env x=.fro k (xs.map enc)) (kk:az P E ops K rest (bC env d (.int .i64 xs.length)) O):az P E ops K (Oper.mk (some d) (.call { callee:=.builtin .len,args:=#[x],argTypes:=#[t] }) ty pos af none::rest) env O:=za (Gv.lenM ht hx) kk
theorem aI {k:Nat} {a:List (List AV)} {cs:List AV} (ha:∀w,(isAgg t).run P w=.ok false w) (hx:bb env x=.pf (.fro k a::cs)) (kk:az P E ops K rest (bC env d (.fro k a)) O):az P E ops K (Oper.mk (some d) (.load t x) ty pos af none::rest) env O:=za (iS ha hx) kk
theorem aF {b:Bool} (hx:bb env x=.bool b) (kk:az P E ops K rest (bC env d (.bool (!b))) O):az P E ops K (Oper.mk (some d) (.unOp .not t x) ty pos af none::rest) env O:=za (Gv.not hx) kk
theorem aU {k:Nat} {a:List (List AV)} (hx:bb env x=.fro k a) (kk:az P E ops K rest (bC env d (.fro k a)) O):az P E ops K (Oper.mk (some d) (.move x) ty pos af none::rest) env O:=za (kl hx) kk
theorem aY {i m:Nat} (hx:bb env x=.po i m) (kk:az P E ops K rest (bC env d (.po i m)) O):az P E ops K (Oper.mk (some d) (.move x) ty pos af none::rest) env O:=za (l2 hx) kk
theorem aH {k:IntKind} {a b:Int} (hx:bb env x=.int k a) (hy:bb env y=.int k b) (kk:az P E ops K rest (bC env d (.bool (!decide (a=b)))) O):az P E ops K (Oper.mk (some d) (.binOp .neq t x y u) ty pos af none::rest) env O:=za (qn hx hy) kk
theorem bw {i m:Nat} (hx:bb env x=.own i m) (kk:az P E ops K rest (bC env d (.own i m)) O):az P E ops K (Oper.mk (some d) (.move x) ty pos af none::rest) env O:=za (Fb hx) kk
theorem aO {k:IntKind} {a b:Int} (hx:bb env x=.int k a) (hy:bb env y=.int k b) (kk:az P E ops K rest (bC env d (.bool (decide (b<a)))) O):az P E ops K (Oper.mk (some d) (.binOp .gtr t x y u) ty pos af none::rest) env O:=za (Gv.gtr hx hy) kk
theorem bM {i m:Nat} (hx:bb env x=.own i m) (kk:az P E ops K rest (bC env d (.own i m)) O):az P E ops K (Oper.mk (some d) (.assign x) ty pos af none::rest) env O:=za (Ll hx) kk
theorem bV {a:Value} (hx:bb env x=.raw a) (kk:az P E ops K rest (bC env d (.raw a)) O):az P E ops K (Oper.mk (some d) (.assign x) ty pos af none::rest) env O:=za (NB hx) kk
end
set_option linter.defProp false
def j8:=@Tryz.underlying44
def j9:=@Tryz.underlying23
def ja:=@Tryz.sizeOf3
def jc:=@Tryz.isAgg3
def je:=@Tryz.underlying26
def jf:=@Tryz.underlying154
def jg:=@Tryz.sizeOf23
def jh:=@Tryz.sizeOf26
def ji:=@Tryz.sizeOf2
def jj:=@Tryz.underlying49
def jk:=@Tryz.underlying24
def jl:=@Tryz.underlying52
def jm:=@Tryz.isAgg26
def jn:=@Tryz.isAgg23
def jp:=@Tryz.isAgg2
def jq:=@Tryz.sizeOf91
def jr:=@Tryz.underlying91
def js:=@Tryz.underlying22
def jt:=@Tryz.underlying62
def jv:=@Tryz.sizeOf52
def jw:=@Tryz.underlying150
def jx:=@Tryz.underlying45
def jy:=@Tryz.sizeOf115
def jz:=@Tryz.sizeOf62
def Z0:=@Tryz.sizeOf81
def Z2:=@Tryz.underlying50
def Z3:=@Tryz.sizeOf54
def Z4:=@Tryz.underlying47
def Z5:=@Tryz.sizeOf4
def Z6:=@Tryz.underlying78
def Z7:=@Tryz.underlying169
def Z8:=@Tryz.underlying81
def Z9:=@Tryz.sizeOf44
def Za:=@Tryz.underlying55
def Zb:=@Tryz.zeroValue62
def Zc:=@Tryz.underlying159
def Zd:=@Tryz.underlying40
def Ze:=@Tryz.sizeOf24
def Zf:=@Tryz.underlying54
def Zg:=@Tryz.sizeOf22
def Zh:=@Tryz.type23
def Zi:=@Tryz.underlying30
def Zj:=@Tryz.underlying115
def Zk:=@Tryz.sizeOf47
def Zl:=@Tryz.isAgg24
def Zm:=@Tryz.isAgg4
def Zn:=@Tryz.zeroValue52
def Zo:=@Tryz.underlying108
def Zp:=@Tryz.isAgg22
def Zq:=@Tryz.sizeOf42
def Zr:=@Tryz.underlying34
def Zs:=@Tryz.underlying202
def Zt:=@Tryz.isAgg54
def Zu:=@Tryz.underlying84
def Zv:=@Tryz.underlying4
def Zw:=@Tryz.underlying9
def Zx:=@Tryz.sizeOf40
def Zy:=@Tryz.underlying60
def Zz:=@Tryz.isAgg42
def Y0:=@Tryz.underlying3
def Y2:=@Tryz.underlying76
def Y3:=@Tryz.isAgg115
def Y4:=@Tryz.zeroValue54
def Y5:=@Tryz.zeroValue91
def Y6:=@Tryz.sizeOf9
def Y7:=@Tryz.underlying214
def Y8:=@Tryz.sizeOf45
def Y9:=@Tryz.isAgg91
def Ya:=@Tryz.sizeOf49
def Yb:=@Tryz.sizeOf107
def Yc:=@Tryz.isAgg81
def Yd:=@Tryz.underlying161
def Ye:=@Tryz.isAgg44
def Yf:=@Tryz.zeroValue44
def Yg:=@Tryz.sizeOf46
def Yh:=@Tryz.sizeOf50
def Yi:=@Tryz.isAgg45
def Yj:=@Tryz.sizeOf38
def Yk:=@Tryz.isAgg52
def Yl:=@Tryz.isAgg62
def Ym:=@Tryz.isAgg9
def Yn:=@Tryz.underlying27
def Yo:=@Tryz.zeroValue115
def Yp:=@Tryz.underlying219
def Yq:=@Tryz.underlying176
def Yr:=@Tryz.underlying107
def Ys:=@Tryz.isAgg46
def Yt:=@Tryz.isAgg50
def Yu:=@Tryz.sizeOf214
def Yv:=@Tryz.isAgg38
def Yw:=@Tryz.sizeOf60
def Yx:=@Tryz.underlying240
def Yy:=@Tryz.underlying204
def Yz:=@Tryz.sizeOf108
def X0:=@Tryz.sizeOf76
def X1:=@Tryz.zeroValue81
def X2:=@Tryz.zeroValue3
def X3:=@Tryz.underlying36
def X4:=@Tryz.underlying66
def X5:=@Tryz.underlying239
def X6:=@Tryz.sizeOf113
def X7:=@Tryz.underlying2
def X8:=@Tryz.sizeOf66
def X9:=@Tryz.underlying73
def Xa:=@Tryz.zeroValue214
def Xb:=@Tryz.type126
def Xc:=@Tryz.isAgg76
def Xd:=@Tryz.isAgg108
def Xe:=@Tryz.isAgg113
set_option linter.defProp false
def ze:=@az.callP
def zf:=@aK.ops
def zi:=@aK.perm
def zn:=@vH.perm
def zq:=@az.storeW
def zu:=@az.callA
def y7:=@dQ.regionDraw
def y8:=@az.buildSliceFF
def yg:=@aK.wp
def yn:=@az.appendS
def yp:=@Gv.idxAF
def yx:=@bK.writes
def yz:=@oA.done
def q1:=@oA.one
def q4:=@bK.case
def qc:=@aK.slot
def qi:=@aK.drop
def qq:=@List.getElem?_eq_getElem
def qr:=@List.take_succ_eq_append_getElem
def qs:=@List.append_assoc
def qt:=@Nat.zero_le
def qu:=@List.getElem_mem
def qv:=@List.take_length
def qw:=@List.length_append
def qx:=@List.length_map
def qy:=@List.getElem?_map
def qz:=@Bool.eq_iff_iff
def w3:=@List.mem_of_getElem?
def w5:=@List.append_nil
def w6:=@List.length_take
def w7:=@decide_eq_true
def w8:=@decide_eq_false
def w9:=@Bool.and_eq_true
def wa:=@Int.toNat_of_nonneg
def wb:=@of_decide_eq_true
def wc:=@decide_eq_true_eq
theorem Z {α:Sort _} {a:α}:a=a:=rfl
end
end Go.Proofs.YtbanfokidalbaaaGreatDoor
